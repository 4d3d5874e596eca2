import Derived.Test.YtokjdeanofohoaaGreatDoorAp1
set_option synthInstance.checkSynthOrder false
set_option synthInstance.maxSize 10000
set_option synthInstance.maxHeartbeats 400000
set_option maxRecDepth 100000
set_option maxHeartbeats 4000000
set_option linter.unusedVariables false
set_option linter.unusedSimpArgs false
set_option linter.defProp false
namespace Go.Pn
open Go Go.RowKit
variable {rr:Option Nat}
class Pf (G:Cx) (Φ:outParam Cx) (Ψ:Cx):Prop where
 eq:G=Φ ++ Ψ
instance {Ψ:Cx}:Pf Ψ [] Ψ:=⟨rfl⟩
instance {x:Nat×Ent} {G Φ Ψ:Cx} [h:Pf G Φ Ψ]:Pf (x :: G) (x :: Φ) Ψ:=⟨by rw [h.eq];rfl⟩
instance {L G Φ Ψ:Cx} [h:Pf G Φ Ψ]:Pf (L ++ G) (L ++ Φ) Ψ:=⟨by rw [h.eq,FM]⟩
inductive Fg (P:Program) (ops:Array Oper) (Γ Γf:Cx) (ts es:List Nat):Nat->Cx->Prop
 | nil:Fg P ops Γ Γf ts es 0 []
 | skip {i:Nat} {Δ:Cx} (h:Fg P ops Γ Γf ts es i Δ) (hi:ts.contains i=true):Fg P ops Γ Γf ts es (i + 1) Δ
 | cons {i d:Nat} {Δ:Cx} {op:Op} {ty:TypeId} {pos:String} {aft:Array Edge} {e:Ent} (h:Fg P ops Γ Γf ts es i Δ) (hi:(es.contains i && !ts.contains i)=true)
   (ho:ops[i]?=some ⟨some d,op,ty,pos,aft,none⟩) (hr:OR P op ty (Df (Ar op) Δ ++ Γ) e):Fg P ops Γ Γf ts es (i + 1) ((d,e) :: Δ)
 | cong {i d j dj:Nat} {b want:Bool} {Δ:Cx} {op:Op} {ty:TypeId} {pos:String} {aft:Array Edge} {e:Ent} (h:Fg P ops Γ Γf ts es i Δ) (hi:(es.contains i && !ts.contains i)=true)
   (ho:ops[i]?=some ⟨some d,op,ty,pos,aft,some (j,want)⟩) (hj:(ops[j]?).bind (·.dst)=some dj) (hl:Am Δ dj=some (Va b))
   (hr:b=want->OR P op ty (Df (Ar op) Δ ++ Γ) e):Fg P ops Γ Γf ts es (i + 1) ((d,Gd b want e) :: Δ)
 | cont {i d j dj:Nat} {b c b2 want:Bool} {Δ:Cx} {op:Op} {ty:TypeId} {pos:String} {aft:Array Edge} {e:Ent} (h:Fg P ops Γ Γf ts es i Δ) (hi:(es.contains i && !ts.contains i)=true)
   (ho:ops[i]?=some ⟨some d,op,ty,pos,aft,some (j,want)⟩) (hj:(ops[j]?).bind (·.dst)=some dj) (hl:Am Δ dj=some (Gd b c (Va b2)))
   (hr:b=c->b2=want->OR P op ty (Df (Ar op) Δ ++ Γ) e):Fg P ops Γ Γf ts es (i + 1) ((d,Gd ((b == c) && (b2 == want)) true e) :: Δ)
 | late {i d:Nat} {Δ:Cx} {op:Op} {ty:TypeId} {pos:String} {aft:Array Edge} {e:Ent} (h:Fg P ops Γ Γf ts es i Δ) (hi:(!es.contains i && !ts.contains i)=true)
   (ho:ops[i]?=some ⟨some d,op,ty,pos,aft,none⟩) (hr:OR P op ty (Df (Ar op) Δ ++ Γf) e):Fg P ops Γ Γf ts es (i + 1) ((d,e) :: Δ)
 | lcong {i d j dj:Nat} {b want:Bool} {Δ:Cx} {op:Op} {ty:TypeId} {pos:String} {aft:Array Edge} {e:Ent} (h:Fg P ops Γ Γf ts es i Δ) (hi:(!es.contains i && !ts.contains i)=true)
   (ho:ops[i]?=some ⟨some d,op,ty,pos,aft,some (j,want)⟩) (hj:(ops[j]?).bind (·.dst)=some dj) (hl:Am Δ dj=some (Va b))
   (hr:b=want->OR P op ty (Df (Ar op) Δ ++ Γf) e):Fg P ops Γ Γf ts es (i + 1) ((d,Gd b want e) :: Δ)
def fgOK (ops:Array Oper) (ts es:List Nat):Bool:=
 (List.range ops.size).all λi=>match ops[i]? with
  | none=>false
  | some o=>
   o.after.all (λe=>!Region.binds .any e || decide (e.on < i)) &&
   (if ts.contains i then
    o.guard.isNone && !es.contains i && ts.all (λj=>!decide (j < i) || Fx ops ops.size i j) && es.all (λj=>Fx ops ops.size i j && decide (j < ops.size))
   else
    o.dst.isSome && (match o.guard with | some (j,_)=>decide (j < i) | none=>true) &&
    (List.range ops.size).all (λj=>match ops[j]? with
     | none=>false
     | some oj=>if ts.contains j then (match oj.dst with | none=>true | some d=>o.dst != some d)
      else match oj.dst with
       | some d=>(!(Ax ops o).contains d || (decide (j < i) && dep o j)) && (i == j || o.dst != some d)
       | none=>false))
section
variable {P:Program} {M0:Fm} {w0:World} {n:Nat} {Γ Γf:Cx} {ops:Array Oper} {ts es:List Nat} {Q:Exit->Act->World->Prop}
theorem DH (h:fgOK ops ts es=true) {i:Nat} {o:Oper} (ho:ops[i]?=some o) :
  (∀ e∈o.after,Region.binds .any e=true->e.on < i) /\
  (ts.contains i=true->o.guard=none/\es.contains i=false/\(∀ j∈ts,j < i->Fx ops ops.size i j=true)/\∀ j∈es,Fx ops ops.size i j=true/\j < ops.size) /\
  (ts.contains i=false->o.dst.isSome=true/\(∀ j want,o.guard=some (j,want)->j < i) /\
   (∀ j oj,ops[j]?=some oj->ts.contains j=true->∀ d,oj.dst=some d->o.dst≠some d) /\
   ∀ j oj,ops[j]?=some oj->ts.contains j=false->∃ d,oj.dst=some d/\(d∈Ax ops o->j < i/\dep o j=true)/\(i≠j->o.dst≠some d)):=by
 have hi:i < ops.size:=(E6.1 ho).1;unfold fgOK at h;have h1:=E8.1 h i (E4.2 hi);simp only [ho,E3] at h1;refine ⟨λe he hb=>?_,λht=>?_,λht=>?_⟩
 ·have:=(Array.all_eq_true_iff_forall_mem.1 h1.1) e he;simp [hb] at this;exact this
 ·have h2:=h1.2;rw [if_pos ht] at h2;simp only [E3,E8,G8,FX,decide_eq_true_eq,Option.isNone_iff_eq_none] at h2;refine ⟨h2.1.1.1,h2.1.1.2,λj hj hji=>?_,λj hj=>h2.2 j hj⟩;rcases h2.1.2 j hj with h3 | h3
  ·simp at h3;omega
  ·exact h3
 ·have h2:=h1.2;rw [if_neg (by rw [ht];simp)] at h2;simp only [E3] at h2;have hall:∀ j oj,ops[j]?=some oj->_:=λj oj hj=>E8.1 h2.2 j (E4.2 (E6.1 hj).1);refine ⟨h2.1.1,λj want hg=>?_,λj oj hj htj d hd=>?_,λj oj hj htj=>?_⟩
  ·have:=h2.1.2;simp [hg] at this;exact this
  ·have h3:=hall j oj hj;simp only [hj] at h3;rw [if_pos htj] at h3;simp only [hd,bne_iff_ne] at h3;exact h3
  ·have h3:=hall j oj hj;simp only [hj] at h3;rw [if_neg (by rw [htj];simp)] at h3;split at h3
   ·rename_i d hd;simp only [E3,G8,FX,decide_eq_true_eq,bne_iff_ne,beq_iff_eq] at h3;refine ⟨d,hd,λhn=>?_,λhne hd'=>?_⟩
    ·rcases h3.1 with h4 | h4
     ·simp at h4;exact absurd hn h4
     ·exact h4
    ·rcases h3.2 with h4 | h4
     ·exact hne h4
     ·exact h4 hd'
   ·cases h3
def Xz (ops:Array Oper) (i d:Nat):Prop:=∃ o,ops[i]?=some o/\o.dst=some d
inductive RuleG (P:Program) (ops:Array Oper) (Γ Γf:Cx) (es:List Nat) (Δi:Cx) (i:Nat) (o:Oper):Nat->Ent->Prop
 | early {d:Nat} {e:Ent} (hi:es.contains i=true) (h:RuleAt P ops Γ Δi o d e):RuleG P ops Γ Γf es Δi i o d e
 | late {d:Nat} {e:Ent} (hi:es.contains i=false) (h:RuleAt P ops Γf Δi o d e):RuleG P ops Γ Γf es Δi i o d e
theorem RuleAt.dst {P:Program} {Γ Δi:Cx} {o:Oper} {d:Nat} {e:Ent} (h:RuleAt P ops Γ Δi o d e):o.dst=some d:=by
 cases h with | plain ho _=>rw [ho] | guarded ho _ _ _=>rw [ho] | nested ho _ _ _=>rw [ho]
theorem RuleG.dst {Δi:Cx} {i:Nat} {o:Oper} {d:Nat} {e:Ent} (h:RuleG P ops Γ Γf es Δi i o d e):o.dst=some d:=by
 cases h with | early _ h=>exact h.dst | late _ h=>exact h.dst
theorem Fg.at_:∀ {m:Nat} {Δ:Cx},Fg P ops Γ Γf ts es m Δ->∀ i,i < m->ts.contains i=false->∃ Δi o d e Δ',(∀ x∈Δ',∃ j,i < j/\ts.contains j=false/\Xz ops j x.1)/\Δ=Δ' ++ (d,e) :: Δi/\ops[i]?=some o/\RuleG P ops Γ Γf es Δi i o d e/\Fg P ops Γ Γf ts es i Δi
 | _,_,.nil,i,hi,_=>by omega
 | m + 1,Δ,.skip h hs,i,hi,ht=>by
  by_cases hik:i=m
  ·subst hik;rw [hs] at ht;cases ht
  ·exact h.at_ i om_ ht
 | m + 1,(d,e) :: Δ,.cons h hs ho hr,i,hi,ht=>by
  by_cases hik:i=m
  ·subst hik;simp only [E3] at hs;exact ⟨Δ,_,d,e,[],(λx hx=>by simp at hx),rfl,ho,.early hs.1 (.plain rfl hr),h⟩
  ·obtain ⟨Δi,o,d',e',Δ',h1,h2,h3,h4,h5⟩:=h.at_ i om_ ht;refine ⟨Δi,o,d',e',(d,_) :: Δ',λx hx=>?_,by rw [h2];rfl,h3,h4,h5⟩;rcases FG.1 hx with rfl | hx
   ·exact ⟨m,by omega,by simp at hs;simpa using hs.2,_,ho,rfl⟩
   ·exact h1 x hx
 | m + 1,(d,_) :: Δ,.cong h hs ho hj hl hr,i,hi,ht=>by
  by_cases hik:i=m
  ·subst hik;simp only [E3] at hs;exact ⟨Δ,_,d,_,[],(λx hx=>by simp at hx),rfl,ho,.early hs.1 (.guarded rfl hj hl hr),h⟩
  ·obtain ⟨Δi,o,d',e',Δ',h1,h2,h3,h4,h5⟩:=h.at_ i om_ ht;refine ⟨Δi,o,d',e',(d,_) :: Δ',λx hx=>?_,by rw [h2];rfl,h3,h4,h5⟩;rcases FG.1 hx with rfl | hx
   ·exact ⟨m,by omega,by simp at hs;simpa using hs.2,_,ho,rfl⟩
   ·exact h1 x hx
 | m + 1,(d,_) :: Δ,.cont h hs ho hj hl hr,i,hi,ht=>by
  by_cases hik:i=m
  ·subst hik;simp only [E3] at hs;exact ⟨Δ,_,d,_,[],(λx hx=>by simp at hx),rfl,ho,.early hs.1 (.nested rfl hj hl hr),h⟩
  ·obtain ⟨Δi,o,d',e',Δ',h1,h2,h3,h4,h5⟩:=h.at_ i om_ ht;refine ⟨Δi,o,d',e',(d,_) :: Δ',λx hx=>?_,by rw [h2];rfl,h3,h4,h5⟩;rcases FG.1 hx with rfl | hx
   ·exact ⟨m,by omega,by simp at hs;simpa using hs.2,_,ho,rfl⟩
   ·exact h1 x hx
 | m + 1,(d,e) :: Δ,.late h hs ho hr,i,hi,ht=>by
  by_cases hik:i=m
  ·subst hik;simp only [E3,FX] at hs;exact ⟨Δ,_,d,e,[],(λx hx=>by simp at hx),rfl,ho,.late hs.1 (.plain rfl hr),h⟩
  ·obtain ⟨Δi,o,d',e',Δ',h1,h2,h3,h4,h5⟩:=h.at_ i om_ ht;refine ⟨Δi,o,d',e',(d,_) :: Δ',λx hx=>?_,by rw [h2];rfl,h3,h4,h5⟩;rcases FG.1 hx with rfl | hx
   ·exact ⟨m,by omega,by simp at hs;simpa using hs.2,_,ho,rfl⟩
   ·exact h1 x hx
 | m + 1,(d,_) :: Δ,.lcong h hs ho hj hl hr,i,hi,ht=>by
  by_cases hik:i=m
  ·subst hik;simp only [E3,FX] at hs;exact ⟨Δ,_,d,_,[],(λx hx=>by simp at hx),rfl,ho,.late hs.1 (.guarded rfl hj hl hr),h⟩
  ·obtain ⟨Δi,o,d',e',Δ',h1,h2,h3,h4,h5⟩:=h.at_ i om_ ht;refine ⟨Δi,o,d',e',(d,_) :: Δ',λx hx=>?_,by rw [h2];rfl,h3,h4,h5⟩;rcases FG.1 hx with rfl | hx
   ·exact ⟨m,by omega,by simp at hs;simpa using hs.2,_,ho,rfl⟩
   ·exact h1 x hx
theorem Fg.ent:∀ {m:Nat} {Δ:Cx},Fg P ops Γ Γf ts es m Δ->∀ x∈Δ,∃ i,i < m/\ts.contains i=false/\Xz ops i x.1
 | _,_,.nil,x,hx=>by simp at hx
 | _,_,.skip h hi,x,hx=>let ⟨i,h1,h2⟩:=h.ent x hx;⟨i,by omega,h2⟩
 | m + 1,_,.cons h hi ho hr,x,hx=>by
  rcases FG.1 hx with rfl | hx
  ·simp only [E3,FX] at hi;exact ⟨m,by omega,hi.2,_,ho,rfl⟩
  ·obtain ⟨i,h1,h2⟩:=h.ent x hx;exact ⟨i,by omega,h2⟩
 | m + 1,_,.cong h hi ho _ _ hr,x,hx=>by
  rcases FG.1 hx with rfl | hx
  ·simp only [E3,FX] at hi;exact ⟨m,by omega,hi.2,_,ho,rfl⟩
  ·obtain ⟨i,h1,h2⟩:=h.ent x hx;exact ⟨i,by omega,h2⟩
 | m + 1,_,.cont h hi ho _ _ hr,x,hx=>by
  rcases FG.1 hx with rfl | hx
  ·simp only [E3,FX] at hi;exact ⟨m,by omega,hi.2,_,ho,rfl⟩
  ·obtain ⟨i,h1,h2⟩:=h.ent x hx;exact ⟨i,by omega,h2⟩
 | m + 1,_,.late h hi ho hr,x,hx=>by
  rcases FG.1 hx with rfl | hx
  ·simp only [E3,FX] at hi;exact ⟨m,by omega,hi.2,_,ho,rfl⟩
  ·obtain ⟨i,h1,h2⟩:=h.ent x hx;exact ⟨i,by omega,h2⟩
 | m + 1,_,.lcong h hi ho _ _ hr,x,hx=>by
  rcases FG.1 hx with rfl | hx
  ·simp only [E3,FX] at hi;exact ⟨m,by omega,hi.2,_,ho,rfl⟩
  ·obtain ⟨i,h1,h2⟩:=h.ent x hx;exact ⟨i,by omega,h2⟩
theorem Dc {t:Nat} {e:Ent}:∀ {Γ:Cx},Am Γ t=some e->(t,e)∈Γ
 | [],h=>by simp [Am] at h
 | (s,e') :: Γ,h=>by
  rw [Aj] at h;simp only [put] at h;split at h
  ·rename_i hh;subst hh;cases h;exact GD ..
  ·exact FR _ (Dc h)
theorem Bm {t:Nat} {e:Ent} {Δ:Cx}:∀ {Γ:Cx},Am Γ t=some e->Am (Γ ++ Δ) t=some e:=Dx
theorem Ba {t:Nat} {Δ:Cx}:∀ {Γ:Cx},Am Γ t=none->Am (Γ ++ Δ) t=Am Δ t
 | [],_=>rfl
 | (s,e') :: Γ,h=>by
  rw [H0,Aj];rw [Aj] at h;simp only [put] at h ⊢;split
  ·rename_i hh;rw [if_pos hh] at h;cases h
  ·rename_i hh;rw [if_neg hh] at h;exact Ba h
theorem Ku {t:Nat} {p:Nat->Bool}:∀ {Γ:Cx},Am (Γ.filter λx=>p x.1) t=if p t then Am Γ t else none
 | []=>by simp [Am]
 | (s,e') :: Γ=>by
  have ih:=Ku (t:=t) (p:=p) (Γ:=Γ);by_cases hs:p s=true
  ·rw [List.filter_cons_of_pos (by simpa using hs),Aj,Aj];simp only [put];by_cases ht:t=s
   ·subst ht;simp [hs]
   ·simp only [if_neg ht];exact ih
  ·rw [List.filter_cons_of_neg (by simpa using hs),ih,Aj];simp only [put];by_cases ht:t=s
   ·subst ht;simp [hs]
   ·simp only [if_neg ht]
theorem Ef {ks:List Nat} {t:Nat}:∀ {Γ:Cx},t∈ks->Am (Df ks Γ) t=Am Γ t
 | [],_=>rfl
 | (s,e) :: Γ,h=>by
  unfold Df;split
  ·rw [Aj,Aj];simp only [put];split
   ·rfl
   ·exact Ef h
  ·rename_i hk;rw [Aj];simp only [put];rw [if_neg (λe=>by subst e;simp at hk;exact hk h)];exact Ef h
def Sb (g:Mp):Cx->Prop
 | []=>True
 | (t,e) :: l=>g t=some e/\Sb g l
def Sn (g:Mp):Cx->Prop
 | []=>True
 | (t,e) :: l=>(g t=none\/g t=some e)/\Sn g l
theorem sb0 {g:Mp}:Sb g []:=trivial
theorem sb1 {g:Mp} {t:Nat} {e:Ent} {l:Cx} (h:g t=some e) (r:Sb g l):Sb g ((t,e) :: l):=⟨h,r⟩
theorem sn0 {g:Mp}:Sn g []:=trivial
theorem sn1 {g:Mp} {t:Nat} {e:Ent} {l:Cx} (h:g t=some e) (r:Sn g l):Sn g ((t,e) :: l):=⟨.inr h,r⟩
theorem sn2 {g:Mp} {t:Nat} {e:Ent} {l:Cx} (h:g t=none) (r:Sn g l):Sn g ((t,e) :: l):=⟨.inl h,r⟩
theorem Sb.get {g:Mp} {t:Nat} {e:Ent}:∀ {l:Cx},Sb g l->Am l t=some e->g t=some e
 | [],_,h=>by simp [Am] at h
 | (s,e') :: l,⟨h1,h2⟩,h=>by
  rw [Aj] at h;simp only [put] at h;split at h
  ·rename_i hh;subst hh;cases h;exact h1
  ·exact h2.get h
theorem Sn.get {g:Mp} {t:Nat} {e:Ent}:∀ {l:Cx},Sn g l->Am l t=some e->g t=none\/g t=some e
 | [],_,h=>by simp [Am] at h
 | (s,e') :: l,⟨h1,h2⟩,h=>by
  rw [Aj] at h;simp only [put] at h;split at h
  ·rename_i hh;subst hh;cases h;exact h1
  ·exact h2.get h
def Rdc (b off:Nat) (v:Value):Ent where
 p F _ w _:=F=[b]/\(∃ cs T,w.heap[b]?=some (.cells cs T (0,0)))/\w.cell? ⟨b,off,none⟩=some v
 st h e:=by
  obtain ⟨rfl,⟨cs,T,hc⟩,h1⟩:=h;have hb:b < _:=(E6.1 hc).1;have he:=e.block b hb As;refine ⟨rfl,⟨cs,T,by rw [he];exact hc⟩,?_⟩;unfold World.cell? at *;rw [he];exact h1
 sb h _:=h
theorem Rdc.of {b off:Nat} {v u:Value} {cs:List Value} {F:List Nat} {M:Nat->Prop} {w:World} {v':Value} (h:(Mr b cs).p F M w u) (hv:cs[off]?=some v):(Rdc b off v).p F M w v':=by
 obtain ⟨rfl,⟨T,hc⟩,_⟩:=h;refine ⟨rfl,⟨_,_,hc⟩,?_⟩;unfold World.cell?;rw [hc];simpa using hv
theorem lrd {P:Program} {Γ:Cx} {ty:TypeId} {T K b off:Nat} {x:Operand} {v:Value} (h:Od Γ x (Qv (pb b off))) (hk:Am Γ K=some (Rdc b off v)) (ha:(P.underlying T).map Bp=some false):OR P (.load T x) ty Γ (Qv v):=by
 refine OR.val λρ M w r=>?_;obtain ⟨_,_,hv⟩:=h ρ M w r;obtain ⟨_,_,_,hc⟩:=r.tmp _ _ hk;refine ⟨v,λ_ _ _ _=>?_,rfl,rfl⟩;simp only [execOp,hv,Instr.loadAt,Instr.sureAddr,EU,EW,ER,loadVar,Ty.run_agg ha];simp [hc]
def Sw (g:Mp):Cx->Prop
 | []=>True
 | (t,e) :: l=>(g t=some e\/∃ K b cs off v,e=Rdc b off v/\g K=some (Mr b cs)/\cs[off]?=some v)/\Sw g l
theorem sw0 {g:Mp}:Sw g []:=trivial
theorem sw1 {g:Mp} {t:Nat} {e:Ent} {l:Cx} (h:g t=some e) (r:Sw g l):Sw g ((t,e) :: l):=⟨.inl h,r⟩
theorem sw2 {g:Mp} {t K b off:Nat} {cs:List Value} {v:Value} {l:Cx} (h:g K=some (Mr b cs)) (hc:cs[off]?=some v) (r:Sw g l):Sw g ((t,Rdc b off v) :: l):=⟨.inr ⟨K,b,cs,off,v,rfl,h,hc⟩,r⟩
theorem Sw.rd {g0 g:Mp} {a:Act} {w:World} {M:Nat->Prop} {φ:Nat->List Nat} {t:Nat} {e:Ent} (hst:StM M0 w0 n g a w M φ) (hg:∀ t e,g0 t=some e->g t=some e):∀ {l:Cx},Sw g0 l->Am l t=some e->∃ F,e.p F M w (a.eval (.tmp t))
 | [],_,h=>by simp [Am] at h
 | (s,e') :: l,⟨h1,h2⟩,h=>by
  rw [Aj] at h;simp only [put] at h;split at h
  ·rename_i hh;subst hh;cases h
   rcases h1 with h1 | ⟨K,b,cs,off,v,rfl,hK,hc⟩
   ·exact hst.rd.tmp _ _ (hg _ _ h1)
   ·obtain ⟨F,hF⟩:=hst.rd.tmp _ _ (hg _ _ hK);exact ⟨F,Rdc.of hF hc⟩
  ·exact Sw.rd hst hg h2 h
def Side (Γf Δ:Cx) (ue ul ld:List Nat) (Θ:Cx->Cx) (dn:List Nat):Prop:=
 (∀ Ψ,Θ Ψ=Θ [] ++ Ψ)/\(ld.all λd=>dn.contains d || (Am (Θ []) d).isNone)=true/\((ld.all λd=>dn.contains d)=true\/(Sw (Am (Θ [])) Γf/\Sb (Am (Θ [])) (Df ue Δ)/\Sn (Am (Θ [])) (Df ul Δ)))
def TP (P:Program) (M0:Fm) (w0:World) (n:Nat) (ops:Array Oper) (Q:Exit->Act->World->Prop) (Γf Δ:Cx) (ts:List Nat) (ue ul ld:List Nat):List (Nat×List Nat)->List Nat->(Cx->Cx)->Prop
 | [],dn,Θ=>Side Γf Δ ue ul ld Θ dn/\∀ a w,St M0 w0 n (Θ (Df ld Δ)) a w->Q .normal a w
 | (i,gs) :: is,dn,Θ=>Side Γf Δ ue ul ld Θ dn /\
   (gs.all λd=>ld.contains d && ((List.range ops.size).any λj=>!ts.contains j && ((ops[j]?).bind (·.dst) == some d)) && (List.range ops.size).all λj=>ts.contains j || !((ops[j]?).bind (·.dst) == some d) || Fx ops ops.size i j)=true /\
   ∃ o,ops[i]?=some o/\∀ Ψ a w,St M0 w0 n (Θ (Df gs Δ ++ Ψ)) a w ->
    wpListIn (Fr rr) 0 P ops (Exit.then (λa' w'=>∃ Θ',TP P M0 w0 n ops Q Γf Δ ts ue ul ld is (gs ++ dn) Θ'/\St M0 w0 n (Θ' Ψ) a' w') Q) [o] a w
theorem Xf {o:Oper} {a:Act} {K K':Act->World->Prop} {r:Result Next}:o.uponIn (Fr rr) 0 P a K (Exit.then K' Q) r=o.uponIn (Fr rr) 0 P a K Q r:=by
 cases r with
 | ok nx w=>cases nx <;> rfl
 | halt h w=>cases h <;> rfl
def useOK (ops:Array Oper) (ts es ue ul ld:List Nat):Bool:=
 (List.range ops.size).all λi=>match ops[i]? with
  | none=>false
  | some o=>ts.contains i || ((es.contains i || (match o.dst with | some d=>ld.contains d | none=>false)) && (!es.contains i || (match o.dst with | some d=>!ld.contains d | none=>true)) && (es.contains i || (Ax ops o).all λt=>(List.range ops.size).all λj=>ts.contains j || !((ops[j]?).bind (·.dst) == some t) || (if es.contains j then ue.contains t else ul.contains t)))
structure Rg (P:Program) (ops:Array Oper) (Γ Γf Δ:Cx) (ts es ue ul ld:List Nat) (n:Nat):Prop where
 ok:fgOK ops ts es=true
 use:useOK ops ts es ue ul ld=true
 fg:Fg P ops Γ Γf ts es ops.size Δ
 dj:∀ x∈Δ,Am Γ x.1=none
 lt:∀ x∈Δ,x.1 < n
 sb:Sw (Am Γ) Γf
 rng:∀ i∈ts,i < ops.size
 srt:ts.Pairwise (· < ·)
def Ls (ops:Array Oper) (ts:List Nat) (listed:Array Bool) (t:Nat):Prop:=∃ i,ts.contains i=false/\listed.getD i false=true/\Xz ops i t
def Ll (ops:Array Oper) (ts es:List Nat) (listed:Array Bool) (t:Nat):Prop:=∃ i,ts.contains i=false/\es.contains i=false/\listed.getD i false=true/\Xz ops i t
open Classical in
noncomputable def gA (ops:Array Oper) (Γ Δ:Cx) (ts:List Nat) (listed:Array Bool):Mp:=λt=>if Ls ops ts listed t then Am Δ t else Am Γ t
open Classical in
noncomputable def gB (ops:Array Oper) (Δ:Cx) (ts es:List Nat) (Θ0:Cx) (listed:Array Bool):Mp:=λt=>match Am Θ0 t with
 | some e=>some e
 | none=>if Ll ops ts es listed t then Am Δ t else none
variable {Δ:Cx} {ue ul ld:List Nat}
theorem Rg.flt (h:Rg P ops Γ Γf Δ ts es ue ul ld n) {i:Nat} (hi:i < ops.size) (ht:ts.contains i=false):∃ Δi o d e,ops[i]?=some o/\o.dst=some d/\Am Δ d=some e/\d < n/\RuleG P ops Γ Γf es Δi i o d e /\
  (∀ t∈Ax ops o,Am Δi t=Am Δ t)/\∀ t∈Ax ops o,∀ e',Am Δ t=some e'->∃ j,j < i/\ts.contains j=false/\Xz ops j t/\dep o j=true:=by
 obtain ⟨Δi,o,d,e,Δ',h1,h2,h3,h4,h5⟩:=h.fg.at_ i hi ht;have hd:=h4.dst;obtain ⟨_,_,hf⟩:=DH h.ok h3;obtain ⟨f1,f2,f3,f4⟩:=hf ht;have hkey:∀ x∈Δ',x.1≠d:=λx hx e=>by
  obtain ⟨j,hj,hjt,oj,hoj,hdj⟩:=h1 x hx;obtain ⟨d',hd',_,h6⟩:=f4 j oj hoj hjt;rw [hdj] at hd';have:=Option.some.inj hd';exact h6 om_ (by rw [hd,← this,e])
 have hlook:Am Δ d=some e:=by rw [h2,Gv hkey,Aj];simp [put]
 have hnm:∀ t∈Ax ops o,Am Δi t=Am Δ t:=λt ht'=>by
  have hno:∀ x∈Δ',x.1≠t:=λx hx e=>by
   obtain ⟨j,hj,hjt,oj,hoj,hdj⟩:=h1 x hx;obtain ⟨d',hd',h6,_⟩:=f4 j oj hoj hjt;rw [hdj] at hd';have:=Option.some.inj hd';have:=(h6 (by rw [← this,e];exact ht')).1;omega
  have hdt:¬ t=d:=λe=>by
   obtain ⟨d',hd',h6,_⟩:=f4 i o h3 ht;rw [hd] at hd';have:=Option.some.inj hd';have:=(h6 (by rw [← this,← e];exact ht')).1;omega
  rw [h2,Gv hno,Aj];simp only [put,if_neg hdt]
 refine ⟨Δi,o,d,e,h3,hd,hlook,h.lt _ (Dc hlook),h4,hnm,λt ht' e' he'=>?_⟩;obtain ⟨j,hj,hjt,oj,hoj,hdj⟩:=h.fg.ent _ (Dc he');obtain ⟨d',hd',h6,_⟩:=f4 j oj hoj hjt;rw [hdj] at hd';have:=Option.some.inj hd';obtain ⟨q1,q2⟩:=h6 (by rw [← this];exact ht');exact ⟨j,q1,hjt,⟨oj,hoj,hdj⟩,q2⟩
theorem Rg.uniq (h:Rg P ops Γ Γf Δ ts es ue ul ld n) {i j d:Nat} (hi:ts.contains i=false) (hj:ts.contains j=false) (h1:Xz ops i d) (h2:Xz ops j d):i=j:=by
 obtain ⟨o,ho,hd⟩:=h1;obtain ⟨oj,hoj,hdj⟩:=h2;obtain ⟨_,_,hf⟩:=DH h.ok ho;obtain ⟨_,_,_,f4⟩:=hf hi;obtain ⟨d',hd',_,h6⟩:=f4 j oj hoj hj;rw [hdj] at hd';have:=Option.some.inj hd';refine Classical.byContradiction λhne=>h6 hne (by rw [hd,← this])
theorem DD {listed:Array Bool} {i j:Nat} (hi:i < listed.size):(listed.setIfInBounds i true).getD j false=if j=i then true else listed.getD j false:=by
 by_cases h:j=i
 ·subst h;simp [EZ,hi]
 ·simp [EZ,FZ (Ne.symm h),h]
theorem RuleG.run {Δi:Cx} {i d:Nat} {o:Oper} {e:Ent} {g:Mp} {a:Act} {w:World} {M:Nat->Prop} {φ:Nat->List Nat} {K:Act->World->Prop} (h:RuleG P ops Γ Γf es Δi i o d e) (ho:ops[i]?=some o) (hdn:d < n) (hst:StM M0 w0 n g a w M φ)
  (hnm:∀ t∈Ax ops o,∀ e',Am Δi t=some e'->g t=some e')
  (hE:es.contains i=true->∀ t e',(∀ op:Op,Am (Df (Ar op) Δi) t=none\/True)->Am Γ t=some e'->g t=some e')
  (hL:es.contains i=false->∀ t e',Am Γf t=some e'->∃ F,e'.p F M w (a.eval (.tmp t)))
  (next:∀ a' w',StF M0 w0 n (put d e g) a' w'->K a' w'):wpOpIn (Fr rr) 0 P ops Q i K a w:=by
 have rd:∀ op Γx,(∀ t,t∈Ar op->t∈Ax ops o)->(∀ t e',Am Γx t=some e'->∃ F,e'.p F M w (a.eval (.tmp t)))->Rd (Am (Df (Ar op) Δi ++ Γx)) M w a.eval:=by
  intro op Γx hsub hx;refine ⟨λt x hx'=>?_,hst.rd.con,hst.rd.fn,hst.rd.bd,hst.rd.glo⟩;rcases Gr hx' with h5 | h5
  ·obtain ⟨h6,h7⟩:=Bl h5;exact hst.rd.tmp t x (hnm t (hsub t h6) x h7)
  ·exact hx t x h5
 unfold wpOpIn;simp only [ho];obtain ⟨Γx,hE',h⟩:∃ Γx:Cx,(∀ t e',Am Γx t=some e'->∃ F,e'.p F M w (a.eval (.tmp t)))/\RuleAt P ops Γx Δi o d e:=by
  cases h with
  | late hi h=>exact ⟨Γf,hL hi,h⟩
  | early hi h=>exact ⟨Γ,λt e' he=>hst.rd.tmp t e' (hE hi t e' (λ_=>.inr trivial) he),h⟩
 ·clear hE hL;cases h with
  | plain ho' hr=>
   subst ho';simp only [Region.wanted,if_true];refine (Bh.upon ((hr _ _ _ _ a.eval M w (rd _ _ (λt ht=>FJ _ ht) hE')).mono λv w' hg=>?_));exact next _ _ (hst.gives hg hdn)
  | guarded ho' hj hl hr=>
   rename_i j dj b want op ty pos aft e';subst ho';have hdj:dj∈Ax ops ⟨some d,op,ty,pos,aft,some (j,want)⟩:=by
    refine FK _ ?_;simp only [hj];simp
   have hyb:=Bb hj (Va.bool (hst.holds dj _ (hnm dj hdj _ hl)));by_cases hbw:b=want
   ·rw [if_pos (by simp [Region.wanted,hyb,hbw])];refine (Bh.upon ((hr hbw _ _ _ _ a.eval M w (rd _ _ (λt ht=>FJ _ ht) hE')).mono λv w' hg=>?_));refine next _ _ (hst.gives ⟨hg.1,?_⟩ hdn);obtain ⟨F,hF1,hF2,hF3⟩:=hg.2;exact ⟨F,hF1,hF2,λ_=>hF3,λhne=>absurd hbw hne⟩
   ·rw [if_neg (by simp [Region.wanted,hyb,hbw])];refine ⟨λ_ _=>trivial,?_⟩;exact next _ _ (hst.gives ⟨Ext.refl _ _,[],GB,λk hk=>by simp at hk,λh=>absurd h hbw,λ_=>⟨rfl,rfl⟩⟩ hdn)
  | nested ho' hj hl hr=>
   rename_i j dj b c b2 want op ty pos aft e';subst ho';have hdj:dj∈Ax ops ⟨some d,op,ty,pos,aft,some (j,want)⟩:=by
    refine FK _ ?_;simp only [hj];simp
   have hgd:=hst.holds dj _ (hnm dj hdj _ hl);by_cases hbc:b=c
   ·have hyb:=Bb hj (Va.bool (hgd.1 hbc));by_cases hbw:b2=want
    ·rw [if_pos (by simp [Region.wanted,hyb,hbw])];refine (Bh.upon ((hr hbc hbw _ _ _ _ a.eval M w (rd _ _ (λt ht=>FJ _ ht) hE')).mono λv w' hg=>?_));refine next _ _ (hst.gives ⟨hg.1,?_⟩ hdn);obtain ⟨F,hF1,hF2,hF3⟩:=hg.2;exact ⟨F,hF1,hF2,λ_=>hF3,λhne=>absurd (by simp [hbc,hbw]) hne⟩
    ·rw [if_neg (by simp [Region.wanted,hyb,hbw])];refine ⟨λ_ _=>trivial,?_⟩;exact next _ _ (hst.gives ⟨Ext.refl _ _,[],GB,λk hk=>by simp at hk,λh=>absurd (by simpa using h) (λh':b=c/\b2=want=>hbw h'.2),λ_=>⟨rfl,rfl⟩⟩ hdn)
   ·have hyb:=Cm hj (hgd.2 hbc).2;rw [if_neg (by simp [Region.wanted,hyb])];refine ⟨λ_ _=>trivial,?_⟩;exact next _ _ (hst.gives ⟨Ext.refl _ _,[],GB,λk hk=>by simp at hk,λh=>absurd (by simpa using h) (λh':b=c/\b2=want=>hbc h'.1),λ_=>⟨rfl,rfl⟩⟩ hdn)
def esd (ops:Array Oper) (es:List Nat):List Nat:=es.filterMap λi=>(ops[i]?).bind (·.dst)
def Ig (P:Program) (M0:Fm) (w0:World) (n:Nat) (ops:Array Oper) (Q:Exit->Act->World->Prop) (Γ Γf Δ:Cx) (ts es ue ul ld:List Nat) (tl:List (Nat×List Nat)) (listed:Array Bool) (a:Act) (w:World):Prop:=
 ((∀ i∈ts,listed.getD i false=false)/\StF M0 w0 n (gA ops Γ Δ ts listed) a w/\TP (rr:=rr) P M0 w0 n ops Q Γf Δ ts ue ul ld tl [] (λΨ=>Df (esd ops es) Δ ++ (Γ ++ Ψ))) \/
 ∃ is dn Θ pre,ts=pre ++ is.map (·.1)/\(∀ i∈is.map (·.1),listed.getD i false=false)/\(∀ i∈pre,listed.getD i false=true)/\(∀ i∈es,listed.getD i false=true)/\(∀ d∈dn,Ll ops ts es listed d)/\StF M0 w0 n (gB ops Δ ts es (Θ []) listed) a w/\TP (rr:=rr) P M0 w0 n ops Q Γf Δ ts ue ul ld is dn Θ
theorem Rg.toB (h:Rg P ops Γ Γf Δ ts es ue ul ld n) {tl:List (Nat×List Nat)} (htl:tl.map (·.1)=ts) {listed:Array Bool} {a:Act} {w:World} (hes:∀ i∈es,listed.getD i false=true/\ts.contains i=false)
  (hi:Ig (rr:=rr) P M0 w0 n ops Q Γ Γf Δ ts es ue ul ld tl listed a w):∃ is dn Θ pre,ts=pre ++ is.map (·.1)/\(∀ i∈is.map (·.1),listed.getD i false=false)/\(∀ i∈pre,listed.getD i false=true)/\(∀ i∈es,listed.getD i false=true)/\(∀ d∈dn,Ll ops ts es listed d)/\StF M0 w0 n (gB ops Δ ts es (Θ []) listed) a w/\TP (rr:=rr) P M0 w0 n ops Q Γf Δ ts ue ul ld is dn Θ:=by
 rcases hi with ⟨h1,h2,h3⟩ | h1
 ·refine ⟨tl,[],_,[],by simp [htl],by rw [htl];exact h1,λi hi=>by simp at hi,λi hi=>(hes i hi).1,λd hd=>by simp at hd,h2.less λt e he=>?_,h3⟩;unfold gB at he;unfold gA;split at he
  ·rename_i e' he';cases he
   rcases Gr he' with h5 | h5
   ·obtain ⟨h6,h7⟩:=Bl h5;unfold esd at h6;obtain ⟨j,hj,hjd⟩:=GU.1 h6;cases hoj:ops[j]? with
    | none=>simp [hoj] at hjd
    | some oj=>
     simp only [hoj,HJ] at hjd;rw [if_pos ⟨j,(hes j hj).2,(hes j hj).1,oj,hoj,hjd⟩];exact h7
   ·rw [GA] at h5;rw [if_neg]
    ·exact h5
    ·rintro ⟨j,hjt,hjl,oj,hoj,hjd⟩;have hjs:j < ops.size:=(E6.1 hoj).1;obtain ⟨_,o',d',e'',ho',hd',hl',_⟩:=h.flt hjs hjt;rw [hoj] at ho';cases ho'
     rw [hjd] at hd';cases hd'
     have:=h.dj _ (Dc hl');rw [this] at h5;cases h5
  ·split at he
   ·rename_i hl;obtain ⟨j,q1,_,q2,q3⟩:=hl;rw [if_pos ⟨j,q1,q2,q3⟩];exact he
   ·cases he
 ·exact h1
theorem any_fg (h:Rg P ops Γ Γf Δ ts es ue ul ld n) {tl:List (Nat×List Nat)} (htl:tl.map (·.1)=ts) (hest:∀ i∈es,i < ops.size/\ts.contains i=false) :
  ∀ (fuel:Nat) (listed:Array Bool) (a:Act) (w:World),listed.toList.count false<=fuel->listed.size=ops.size ->
   (∀ i o,ops[i]?=some o->listed.getD i false=true->∀ e∈o.after,Region.binds .any e=true->listed.getD e.on false=true)->Ig (rr:=rr) P M0 w0 n ops Q Γ Γf Δ ts es ue ul ld tl listed a w->wpAnyIn (Fr rr) 0 P .any ops Q fuel listed a w:=by
 -- when all are listed
 have fin:∀ (listed:Array Bool) (a:Act) (w:World),(∀ i,i < ops.size->listed.getD i false=true)->Ig (rr:=rr) P M0 w0 n ops Q Γ Γf Δ ts es ue ul ld tl listed a w->Q .normal a w:=by
  intro listed a w hall hI;obtain ⟨is,dn,Θ,pre,q1,q2,q3,q4,q5,q6,q7⟩:=h.toB htl (λi hi=>⟨hall i (hest i hi).1,(hest i hi).2⟩) hI;cases is with
  | cons p is=>
   exfalso;have h1:=q2 p.1 As;have h2:=h.rng p.1 (by rw [q1];simp);rw [hall _ h2] at h1;cases h1
  | nil=>
   obtain ⟨hs,hq⟩:=q7;refine hq a w (q6.less λt e he=>?_);rw [hs.1] at he;unfold gB;cases hl:Am (Θ []) t with
   | some e'=>
    rw [Bm hl] at he;simpa using he
   | none=>
    rw [Ba hl] at he;obtain ⟨h6,h7⟩:=Bl he;obtain ⟨j,_,hjt,oj,hoj,hjd⟩:=h.fg.ent _ (Dc h7);have hjs:j < ops.size:=(E6.1 hoj).1;have hje:es.contains j=false:=by
     cases hc:es.contains j
     ·rfl
     ·exfalso;have hu:=E8.1 h.use j (E4.2 hjs);simp only [hoj,hjt,hc,hjd,G7,Bool.true_or,GX,GN,GS] at hu;simp at hu;exact hu h6
    simp only [];rw [if_pos ⟨j,hjt,hje,hall j hjs,oj,hoj,hjd⟩];exact h7
 have all_of:∀ (listed:Array Bool),listed.size=ops.size->listed.toList.count false=0->∀ i,i < ops.size->listed.getD i false=true:=by
  intro listed hs hc i hi;have:=List.count_eq_zero.1 hc;cases hb:listed.getD i false
  ·exfalso;refine this ?_;have hi':i < listed.size:=by omega
   have:listed[i]=false:=by simpa [EZ,hi'] using hb
   rw [← this];simp
  ·rfl
 intro fuel
 induction fuel with
 | zero=>
  intro listed a w h1 h2 hcl hI;have hall:=all_of listed h2 om_;refine ⟨?_,fin listed a w hall hI⟩;cases hrd:Region.ready .any ops listed with
  | nil=>rfl
  | cons x xs=>
   have hx:x∈Region.ready .any ops listed:=by rw [hrd];exact GD ..
   obtain ⟨hx1,hx2,_⟩:=Bj.1 hx;have:=hall x hx1;simp [EZ,h2,hx1] at this hx2;rw [this] at hx2;cases hx2
 | succ fuel ih=>
  intro listed a w h1 h2 hcl hI;refine ⟨λhnil=>?_,λi hi=>?_⟩
  ·refine fin listed a w ?_ hI;refine Classical.byContradiction λhc=>?_;have hex:∃ i,i < ops.size/\listed.getD i false=false:=by
    refine Classical.byContradiction λhc'=>hc λi hi=>?_;cases hb:listed.getD i false
    ·exact absurd ⟨i,hi,hb⟩ hc'
    ·rfl
   obtain ⟨i,hi,hb⟩:=hex;have hleast:∃ i,i < ops.size/\listed.getD i false=false/\∀ j,j < i->listed.getD j false=true:=by
    induction i using Nat.strongRecOn with
    | _ i ihi=>
     by_cases hj:∃ j,j < i/\listed.getD j false=false
     ·obtain ⟨j,hji,hjb⟩:=hj;exact ihi j hji om_ hjb
     ·refine ⟨i,hi,hb,λj hji=>?_⟩;cases hb':listed.getD j false
      ·exact absurd ⟨j,hji,hb'⟩ hj
      ·rfl
   obtain ⟨i,hi,hb,hj⟩:=hleast;have ho:ops[i]?=some ops[i]:=G9 hi;have hin:i∈Region.ready .any ops listed:=Bj.2 ⟨hi,by simpa [EZ,h2,hi] using hb,_,ho,λe he hb'=>hj _ ((DH h.ok ho).1 e he hb')⟩;rw [hnil] at hin;simp at hin
  ·obtain ⟨hio,hil,o,ho,hdeps⟩:=Bj.1 hi;have hil':listed.getD i false=false:=by simpa [EZ,h2,hio] using hil
   have his:i < listed.size:=by omega
   have hset:=λj=>DD (listed:=listed) (j:=j) his;have hcount:(listed.setIfInBounds i true).toList.count false<=fuel:=by
    have hgi0:listed[i]=false:=by simpa [EZ,his] using hil'
    have hlt:i < listed.toList.length:=by simpa using his
    have hgi:listed.toList[i]=false:=by simpa using hgi0
    have hpos:0 < listed.toList.count false:=List.count_pos_iff.2 (by rw [← hgi];exact E9 _);rw [Array.toList_setIfInBounds,List.count_set hlt,hgi];rw [show ((true:Bool) == false)=false from rfl,show ((false:Bool) == false)=true from rfl];rw [if_pos rfl,if_neg (by decide)];omega
   have hcl':∀ j oj,ops[j]?=some oj->(listed.setIfInBounds i true).getD j false=true->∀ e∈oj.after,Region.binds .any e=true->(listed.setIfInBounds i true).getD e.on false=true:=by
    intro j oj hoj hlj ed he hb;rw [hset];split
    ·rfl
    ·rw [hset] at hlj;split at hlj
     ·rename_i hji;subst hji;rw [ho] at hoj;cases hoj
      exact hdeps ed he hb
     ·exact hcl j oj hoj hlj ed he hb
   have mono:∀ j,listed.getD j false=true->(listed.setIfInBounds i true).getD j false=true:=λj hj=>by rw [hset]; split <;> simp_all
   by_cases ht:ts.contains i=true
   ·-- one that does not float
    obtain ⟨_,hf2,_⟩:=DH h.ok ho;obtain ⟨t1,t2,t3,t4⟩:=hf2 ht;have hreach:∀ j,Fx ops ops.size i j=true->listed.getD j false=true:=λj hj=>By hcl ops.size i j o ho hdeps hj;obtain ⟨is,dn,Θ,pre,q1,q2,q3,q4,q5,q6,q7⟩:=h.toB htl (λj hj=>⟨hreach j (t4 j hj).1,(hest j hj).2⟩) hI;have him:i∈ts:=by simpa using ht
    have hiis:i∈is.map (·.1):=by
     rw [q1] at him;rcases FQ.1 him with h5 | h5
     ·rw [q3 i h5] at hil';cases hil'
     ·exact h5
    cases is with
    | nil=>simp at hiis
    | cons p is=>
     obtain ⟨i0,gs⟩:=p;have hi0:i=i0:=by
      refine Classical.byContradiction λhne=>?_;have hi0m:i0∈ts:=by rw [q1];simp
      have hlt:i0 < i:=by
       have hs:=h.srt;rw [q1] at hs;have hs2:=(List.pairwise_append.1 hs).2.1;simp only [FC,HK] at hs2;refine hs2.1 i ?_;simp only [FC,FG] at hiis;exact hiis.resolve_left hne
      have:=hreach i0 (t3 i0 hi0m hlt);rw [q2 i0 As] at this;cases this
     subst hi0;obtain ⟨hs,hgs,o',ho',hstep⟩:=q7;rw [ho] at ho';cases ho'
     have glate:∀ d∈gs,∀ j,ts.contains j=false->Xz ops j d->listed.getD j false=true:=λd hd j hjt ⟨oj,hoj,hjd⟩=>by
      have h5:=E8.1 hgs d hd;simp only [E3] at h5;have h6:=E8.1 h5.2 j (E4.2 (E6.1 hoj).1);simp only [hjt,hoj,HJ,hjd,G7] at h6;simp at h6;exact hreach j h6
     have late_of:∀ d,ld.contains d=true->∀ j,ts.contains j=false->Xz ops j d->es.contains j=false:=λd hd j hjt ⟨oj,hoj,hjd⟩=>by
      cases hc:es.contains j
      ·rfl
      ·exfalso;have hu:=E8.1 h.use j (E4.2 (E6.1 hoj).1);simp only [hoj,hjt,hc,hjd,G7,Bool.true_or,GX,GN,GS] at hu;simp at hu;simp at hd;exact hu hd
     classical
     let Ψ:Cx:=Δ.filter λx=>decide (Ll ops ts es listed x.1)
     have hΨ:∀ t,Am Ψ t=if Ll ops ts es listed t then Am Δ t else none:=λt=>by
      have:=Ku (t:=t) (p:=λt=>decide (Ll ops ts es listed t)) (Γ:=Δ);simpa using this
     have hst:St M0 w0 n (Θ (Df gs Δ ++ Ψ)) a w:=q6.less λt e he=>by
      rw [hs.1] at he;unfold gB;cases hl:Am (Θ []) t with
      | some e'=>rw [Bm hl] at he;simpa using he
      | none=>
       rw [Ba hl] at he;simp only [];rcases Gr he with h5 | h5
       ·obtain ⟨h6,h7⟩:=Bl h5;obtain ⟨j,_,hjt,hop⟩:=h.fg.ent _ (Dc h7);have hld:ld.contains t=true:=by
         have:=E8.1 hgs t h6;simp only [E3] at this;exact this.1.1
        rw [if_pos ⟨j,hjt,late_of t hld j hjt hop,glate t h6 j hjt hop,hop⟩];exact h7
       ·rw [hΨ] at h5;exact h5
     have hwp:=hstep Ψ a w hst;have hop1:o.wpIn (Fr rr) 0 P a w (λa' w'=>∃ Θ',TP (rr:=rr) P M0 w0 n ops Q Γf Δ ts ue ul ld is (gs ++ dn) Θ'/\St M0 w0 n (Θ' Ψ) a' w') Q:=by
      unfold wpListIn at hwp;rw [if_pos (by unfold Region.wanted;rw [t1])] at hwp;unfold Oper.wpIn at hwp ⊢;rw [Xf] at hwp;exact hwp
     unfold wpOpIn;simp only [ho];rw [if_pos (by unfold Region.wanted;rw [t1])];refine Oper.wpIn_mono (λa' w' hk=>?_) hop1;obtain ⟨Θ',hT,hS⟩:=hk;refine ih _ a' w' hcount (by simp [h2]) hcl' (.inr ⟨is,gs ++ dn,Θ',pre ++ [i],by rw [q1];simp,λj hj=>?_,λj hj=>?_,λj hj=>mono j (q4 j hj),λd hd=>?_,hS.less λt e he=>?_,hT⟩)
     ·rw [hset];split
      ·rename_i hji;subst hji;exfalso;have hs':=h.srt;rw [q1] at hs';have hs2:=(List.pairwise_append.1 hs').2.1;simp only [FC,HK] at hs2;exact absurd (hs2.1 _ hj) (Nat.lt_irrefl _)
      ·exact q2 j (by simp only [FC];exact FR _ hj)
     ·rcases FQ.1 hj with h5 | h5
      ·exact mono j (q3 j h5)
      ·simp at h5;subst h5;rw [hset];simp
     ·rcases FQ.1 hd with h5 | h5
      ·have h6:=E8.1 hgs d h5;simp only [E3] at h6
       -- it is the key of a late one
       have hdl:=h6.1.1;have:∃ j,ts.contains j=false/\Xz ops j d:=by
        obtain ⟨j,hj,hb⟩:=E7.1 h6.1.2;simp only [E3,FX,beq_iff_eq] at hb;obtain ⟨oj,hoj,hjd⟩:=GP.1 hb.2;exact ⟨j,hb.1,oj,hoj,hjd⟩
       obtain ⟨j,hjt,hop⟩:=this;exact ⟨j,hjt,late_of d hdl j hjt hop,mono j (glate d h5 j hjt hop),hop⟩
      ·obtain ⟨j,r1,r2,r3,r4⟩:=q5 d h5;exact ⟨j,r1,r2,mono j r3,r4⟩
     ·have hT':Side Γf Δ ue ul ld Θ' (gs ++ dn):=by
       cases is with
       | nil=>exact hT.1
       | cons p is=>exact hT.1
      rw [hT'.1];unfold gB at he;split at he
      ·rename_i e' he';cases he;exact Bm he'
      ·rename_i he';split at he
       ·rename_i hl;obtain ⟨j,r1,r2,r3,r4⟩:=hl;rw [Ba he',hΨ,if_pos]
        ·exact he
        ·refine ⟨j,r1,r2,?_,r4⟩;rw [hset] at r3;split at r3
         ·rename_i hji;subst hji;rw [ht] at r1;cases r1
         ·exact r3
       ·cases he
   ·-- one that floats
    have ht':ts.contains i=false:=by simpa using ht
    obtain ⟨Δi,o',d,e,ho',hd,hlk,hdn,hrule,hnm,hdep⟩:=h.flt hio ht';rw [ho] at ho';cases ho'
    have depl:∀ j,dep o j=true->listed.getD j false=true:=λj hj=>by
     unfold dep at hj;simp only [JX,E3,beq_iff_eq] at hj;obtain ⟨ed,h9,h10,rfl⟩:=hj;exact hdeps ed h9 h10
    rcases hI with ⟨b1,b2,b3⟩ | ⟨is,dn,Θ,pre,q1,q2,q3,q4,q5,q6,q7⟩
    ·obtain ⟨M,φ,hst⟩:=b2;have key:∀ t e',Am Γ t=some e'->gA ops Γ Δ ts listed t=some e':=λt e' he'=>by
      unfold gA;rw [if_neg]
      ·exact he'
      ·rintro ⟨j,hjt,hjl,oj,hoj,hjd⟩;obtain ⟨_,o2,d2,e2,ho2,hd2,hl2,_⟩:=h.flt (E6.1 hoj).1 hjt;rw [hoj] at ho2;cases ho2
       rw [hjd] at hd2;cases hd2
       have:=h.dj _ (Dc hl2);rw [this] at he';cases he'
     refine hrule.run ho hdn hst (λt ht2 e' he'=>?_) (λ_ t e' _ he'=>key t e' he') (λ_ t e' he'=>Sw.rd hst key h.sb he') λa' w' hs'=>?_
     ·rw [hnm t ht2] at he';obtain ⟨j,r1,r2,r3,r4⟩:=hdep t ht2 e' he';unfold gA;rw [if_pos ⟨j,r2,depl j r4,r3⟩];exact he'
     ·refine ih _ a' w' hcount (by simp [h2]) hcl' (.inl ⟨λj hj=>?_,hs'.less λt e' he'=>?_,b3⟩)
      ·rw [hset];split
       ·rename_i hji;subst hji;simp at ht';exact absurd hj ht'
       ·exact b1 j hj
      ·unfold gA at he';simp only [put];by_cases htd:t=d
       ·subst htd;rw [if_pos rfl];rw [if_pos ⟨i,ht',by rw [hset];simp,o,ho,hd⟩,hlk] at he';exact he'
       ·rw [if_neg htd];unfold gA;by_cases hls:Ls ops ts listed t
        ·rw [if_pos hls];obtain ⟨j,r1,r2,r3⟩:=hls;rw [if_pos ⟨j,r1,mono j r2,r3⟩] at he';exact he'
        ·rw [if_neg hls];rw [if_neg] at he'
         ·exact he'
         ·rintro ⟨j,r1,r2,r3⟩;rw [hset] at r2;split at r2
          ·rename_i hji;subst hji;obtain ⟨oj,hoj,hjd⟩:=r3;rw [ho] at hoj;cases hoj
           rw [hd] at hjd;exact htd (Option.some.inj hjd).symm
          ·exact hls ⟨j,r1,r2,r3⟩
    ·obtain ⟨M,φ,hst⟩:=q6;have hside:Side Γf Δ ue ul ld Θ dn:=by
      cases is with
      | nil=>exact q7.1
      | cons p is=>exact q7.1
     obtain ⟨s1,s2,s345⟩:=hside;have hie:es.contains i=false:=by
      cases hc:es.contains i
      ·rfl
      ·have:=q4 i (by simpa using hc);rw [hil'] at this;cases this
     have hu:=E8.1 h.use i (E4.2 hio);simp only [ho,ht',hie,hd,G7,HX,Bool.true_or,GS,E3] at hu;obtain ⟨hld,huse⟩:=hu;have hndn:¬ (ld.all λd=>dn.contains d)=true:=λhall=>by
      have h5:=E8.1 hall d (by simpa using hld);obtain ⟨j,r1,r2,r3,r4⟩:=q5 d (by simpa using h5);have:=h.uniq r1 ht' r4 ⟨o,ho,hd⟩;subst this;rw [hil'] at r3;cases r3
     obtain ⟨s3,s4,s5⟩:=s345.resolve_left hndn;have hlk0:Am (Θ []) d=none:=by
      have:=E8.1 s2 d (by simpa using hld);simp only [G8,Option.isNone_iff_eq_none] at this;rcases this with h5 | h5
      ·exfalso;obtain ⟨j,r1,r2,r3,r4⟩:=q5 d (by simpa using h5);have:=h.uniq r1 ht' r4 ⟨o,ho,hd⟩;subst this;rw [hil'] at r3;cases r3
      ·exact h5
     have inopt:∀ t∈Ax ops o,∀ j,ts.contains j=false->Xz ops j t->(if es.contains j then ue.contains t else ul.contains t)=true:=λt ht2 j hjt ⟨oj,hoj,hjd⟩=>by
      have h5:=E8.1 huse t ht2;have h6:=E8.1 h5 j (E4.2 (E6.1 hoj).1);simp only [hjt,hoj,HJ,hjd,G7] at h6;simpa using h6
     refine hrule.run ho hdn hst (λt ht2 e' he'=>?_) (λhE=>by rw [hie] at hE;cases hE) (λ_ t e' he'=>?_) λa' w' hs'=>?_
     ·rw [hnm t ht2] at he';obtain ⟨j,r1,r2,r3,r4⟩:=hdep t ht2 e' he';have h5:=inopt t ht2 j r2 r3;unfold gB;cases hc:es.contains j
      ·rw [hc] at h5;have h6:t∈ul:=by simpa using h5
       rcases s5.get (t:=t) (e:=e') (by rw [Ef h6];exact he') with h7 | h7
       ·rw [h7];simp only [];rw [if_pos ⟨j,r2,hc,depl j r4,r3⟩];exact he'
       ·rw [h7]
      ·rw [hc] at h5;have h6:t∈ue:=by simpa using h5
       rw [s4.get (t:=t) (e:=e') (by rw [Ef h6];exact he')]
     ·exact Sw.rd hst (λt e h=>by unfold gB;rw [h]) s3 he'
     ·refine ih _ a' w' hcount (by simp [h2]) hcl' (.inr ⟨is,dn,Θ,pre,q1,λj hj=>?_,λj hj=>mono j (q3 j hj),λj hj=>mono j (q4 j hj),λd hd=>?_,hs'.less λt e' he'=>?_,q7⟩)
      ·rw [hset];split
       ·rename_i hji;subst hji;have:j∈ts:=by rw [q1];exact FK _ hj
        simp at ht';exact absurd this ht'
       ·exact q2 j hj
      ·obtain ⟨j,r1,r2,r3,r4⟩:=q5 d hd;exact ⟨j,r1,r2,mono j r3,r4⟩
      ·unfold gB at he';simp only [put];by_cases htd:t=d
       ·subst htd;rw [if_pos rfl];rw [hlk0] at he';simp only [] at he';rw [if_pos ⟨i,ht',hie,by rw [hset];simp,o,ho,hd⟩,hlk] at he';exact he'
       ·rw [if_neg htd];unfold gB;cases hl0:Am (Θ []) t with
        | some e0=>rw [hl0] at he';simpa using he'
        | none=>
         rw [hl0] at he';simp only [] at he' ⊢;by_cases hls:Ll ops ts es listed t
         ·rw [if_pos hls];obtain ⟨j,r1,r2,r3,r4⟩:=hls;rw [if_pos ⟨j,r1,r2,mono j r3,r4⟩] at he';exact he'
         ·rw [if_neg] at he'
          ·cases he'
          ·rintro ⟨j,r1,r2,r3,r4⟩;rw [hset] at r3;split at r3
           ·rename_i hji;subst hji;obtain ⟨oj,hoj,hjd⟩:=r4;rw [ho] at hoj;cases hoj
            rw [hd] at hjd;exact htd (Option.some.inj hjd).symm
           ·exact hls ⟨j,r1,r2,r3,r4⟩
theorem Az [hmx:Mx P] {id:Nat} {a:Act} {w:World} (Γf:Cx) (es ed ue ul ld:List Nat) (tl:List (Nat×List Nat)) (hs:St M0 w0 n Γ a w) (hfg:Fg P ops Γ Γf (tl.map (·.1)) es ops.size Δ) (hok:fgOK ops (tl.map (·.1)) es=true) (huse:useOK ops (tl.map (·.1)) es ue ul ld=true)
  (hdj:Δ.all (λx=>(Am Γ x.1).isNone)=true) (hn:Δ.all (λx=>Nat.blt x.1 n)=true) (hsb:Sw (Am Γ) Γf)
  (hrg:((tl.map (·.1)).all λi=>Nat.blt i ops.size)=true) (hst:(tl.map (·.1)).Pairwise (· < ·)) (hes:(es.all λi=>Nat.blt i ops.size && !(tl.map (·.1)).contains i)=true)
  (hed:esd ops es=ed) (K:TP (rr:=rr) P M0 w0 n ops Q Γf Δ (tl.map (·.1)) ue ul ld tl [] (λΨ=>Df ed Δ ++ (Γ ++ Ψ))):(Code.region id ops true).wpIn (Fr rr) 0 P Q a w:=by
 subst hed;have hR:Rg P ops Γ Γf Δ (tl.map (·.1)) es ue ul ld n:=⟨hok,huse,hfg,λx hx=>by simpa using E8.1 hdj x hx,λx hx=>FA (E8.1 hn x hx),hsb,λi hi=>FA (E8.1 hrg i hi),hst⟩;have hest:∀ i∈es,i < ops.size/\(tl.map (·.1)).contains i=false:=λi hi=>by
  have:=E8.1 hes i hi;simp only [E3,FX] at this;exact ⟨Nat.le_of_ble_eq_true this.1,this.2⟩
 refine wpIn_region_any hmx.mixed (any_fg hR rfl hest ops.size _ a _ ?_ As (λi o ho hl=>?_) (.inl ⟨λi hi=>?_,?_,K⟩))
 ·refine F6 List.count_le_length ?_;simp
 ·have hi:i < ops.size:=(E6.1 ho).1;simp [EZ,hi] at hl
 ·have:=hR.rng i hi;simp [EZ,this]
 ·obtain ⟨M,φ,h⟩:=hs;have h2:StF M0 w0 n (Am Γ) a { w with drawn:=w.drawn + 1 }:=⟨M,φ,λt e he=>Ent.st _ (h.holds t e he) (Ext.drawn _ _ _ (H3 _ _)),h.own,h.apart,h.sub,h.bd,h.fr.trans (Ext.drawn _ _ _ (H3 _ _)),h.sz,h.df⟩;refine StF.less h2 λt e he=>?_;unfold gA at he;rw [if_neg] at he
  ·exact he
  ·rintro ⟨j,_,hj,oj,hoj,_⟩;have hi:j < ops.size:=(E6.1 hoj).1;simp [EZ,hi] at hj
theorem nxt {ue ul ld:List Nat} {is:List (Nat×List Nat)} {dn:List Nat} {Γ' Φ:Cx} (Ψ:Cx) {a:Act} {w:World} (s:St M0 w0 n Γ' a w) [e:Pf Γ' Φ Ψ] (h:TP (rr:=rr) P M0 w0 n ops Q Γf Δ ts ue ul ld is dn (λΨ=>Φ ++ Ψ)):∃ Θ',TP (rr:=rr) P M0 w0 n ops Q Γf Δ ts ue ul ld is dn Θ'/\St M0 w0 n (Θ' Ψ) a w:=⟨_,h,by have:=e.eq;subst this;exact s⟩
end
end Go.Pn
namespace Go.Pn
open Go Go.RowKit
def Cdl (Γ:Cx):List Operand->List Value->Prop
 | [],[]=>True
 | x :: xs,c :: cs=>(Od Γ x (Qv c)/\Oc Γ c)/\Cdl Γ xs cs
 | _,_=>False
def Au (j:Nat) (cs:List Value):Value:=cs.getD j undef
section
variable {P:Program} {M0:Fm} {w0:World} {n:Nat} {Γ:Cx} {Q:Exit->Act->World->Prop} {a:Act} {w:World} {ty:TypeId}
theorem cd0:Cdl Γ [] []:=trivial
theorem cd1 {x:Operand} {c:Value} {xs:List Operand} {cs:List Value} (h:Od Γ x (Qv c)) (h1:Oc Γ c) (r:Cdl Γ xs cs):Cdl Γ (x :: xs) (c :: cs):=⟨⟨h,h1⟩,r⟩
theorem Cdl.map {ρ:Operand->Value} {M:Nat->Prop} {w:World} (rd:Rd (Am Γ) M w ρ):∀ {xs:List Operand} {cs:List Value},Cdl Γ xs cs->xs.map ρ=cs/\(∀ c∈cs,c.oneCell'=true)/\xs.length=cs.length
 | [],[],_=>⟨rfl,λc hc=>by simp at hc,rfl⟩
 | _ :: _,_ :: _,⟨⟨h,h1⟩,r⟩=>by
  obtain ⟨_,_,hv⟩:=h ρ M w rd;obtain ⟨r1,r2,r3⟩:=r.map rd;refine ⟨by rw [FC,hv,r1],λc hc=>?_,by simp [r3]⟩;rcases FG.1 hc with rfl | hc
  ·exact h1 ρ M w rd
  ·exact r2 c hc
theorem Pu:∀ {cs:List Value},(∀ c∈cs,c.oneCell'=true)->LitC 1 cs (cs.map λc=>[c])
 | [],_=>trivial
 | c :: cs,h=>by
  have h1:=h c (GD ..);refine ⟨?_,rfl,Pu λd hd=>h d (FR _ hd)⟩;cases c <;> first | rfl | simp [Value.oneCell'] at h1
theorem bly {T e:Nat} {len:Nat} {parts:Array (Nat×Operand)} {xs:List Operand} {cs z:List Value} (hp:parts.toList=prt 0 xs) (h:Cdl Γ xs cs) (hT:P.underlying T=some (.array len e)) (hz:(P.info? T).map (·.zero)=some (some (.agg z.toArray))) (he:(P.info? e).map (·.size)=some 1) (hl:z.length=cs.length) :
  OR P (.build T parts) ty Γ (Qa cs):=by
 refine OR.val λρ M w r=>?_;obtain ⟨h1,h2,h3⟩:=h.map r;refine ⟨.agg cs.toArray,λ_ _ _ _=>?_,rfl,rfl,h2⟩;cases hi:P.info? T with
 | none=>simp [hi] at hz
 | some i=>
  cases hie:P.info? e with
  | none=>simp [hie] at he
  | some ie=>
   simp only [hi,hie,Option.map_some,Option.some.injEq] at hz he;have hpm:(parts.map λ(i,x)=>(i,ρ x)).toList=prt 0 cs:=by
    rw [G4,hp];have:∀ (l:List Operand) (k:Nat),List.map (λ(x:Nat×Operand)=>(x.1,ρ x.2)) (prt k l)=prt k (l.map ρ):=by
     intro l
     induction l with
     | nil=>intro k;rfl
     | cons x l ih=>intro k;simp [prt,ih]
    rw [← h1];exact this xs 0
   have hfl:=Gy (sz:=1) (vs:=cs) (cs:=cs.map λc=>[c]) (z:=z) (k:=0) (Pu h2) om_;have hfl2:(cs.map λc=>[c]).flatten=cs:=by
    clear hfl hpm h h1 h2 h3 hl hz
    induction cs with
    | nil=>rfl
    | cons c cs ih=>simp [ih]
   rw [hfl2] at hfl;simp only [GV,HQ,Nat.zero_mul,H8,G1] at hfl;rw [FN om_,GA] at hfl;simp only [execOp,Instr.build,zeroValue,typeInfo,EU,run_program,ER,hi,EW,hz,run_underlying hT,sizeOf,hie,he,Value.cells,hpm];simp only [HQ];rw [hfl];rfl
theorem aix {T e len:Nat} {x i:Operand} {m y:Int} {xs:List Int} {cs:List Value} (h:Od Γ x (Qa cs)) (hi:Od Γ i (Va m)) (hT:P.underlying T=some (.array len e)) (he:(P.info? e).map (·.size)=some 1) (ha:(P.underlying e).map Bp=some false) (hl:xs.length=len) (hc:cs=xs.map λz=>.int .i64 z) (hy:idx xs m=some y):OR P (.index T x i) ty Γ (Va y):=by
 refine OR.val λρ M w r=>?_;obtain ⟨_,_,hv,_⟩:=h ρ M w r;obtain ⟨_,h2⟩:=hi ρ M w r;obtain ⟨h0,hlt,hg⟩:=Ay hy;refine ⟨.int .i64 y,λ_ _ _ _=>?_,Va.mkInt⟩;have hr:(sizeOf e).run P w=.ok 1 w:=by
  cases hie:P.info? e with
  | none=>simp [hie] at he
  | some i=>simp [hie] at he;simp [sizeOf,typeInfo,hie,he]
 have hp:=Bi (P:=P) (T:=e) (xs:=cs.toArray) (o:=m.toNat) (v:=.int .i64 y) (w:=w) ha (by
  rw [hc];simp [hg])
 subst hl;simp only [execOp,hv,Va.int h2,Instr.index,EU,asIntOf,EW,ER,run_underlying hT];simp [h0,hlt,hr,hp]
theorem iax {T e len off:Nat} {x i:Operand} {b:Nat} {m:Int} {j:Nat} (h:Od Γ x (Qv (pb b off))) (hi:Od Γ i (Va m)) (hA:P.underlying T=some (.array len e)) (he:(P.info? e).map (·.size)=some 1) (hy:idx (List.range len) m=some j):OR P (.indexAddr T x i) ty Γ (Qv (pb b (off + j))):=by
 refine OR.val λρ M w r=>?_;obtain ⟨_,_,hv⟩:=h ρ M w r;obtain ⟨_,h2⟩:=hi ρ M w r;obtain ⟨h0,hlt,hg⟩:=Ay hy;simp only [F0] at hlt;have hj:m.toNat=j:=by
  rw [FB om_] at hg;exact Option.some.inj hg
 have hr:(sizeOf e).run P w=.ok 1 w:=by
  cases hie:P.info? e with
  | none=>simp [hie] at he
  | some i=>simp [hie] at he;simp [sizeOf,typeInfo,hie,he]
 refine ⟨pb b (off + j),λ_ _ _ _=>?_,rfl,rfl⟩;simp only [execOp,hv,Va.int h2,Instr.indexAt,EU,asIntOf,EW,ER,run_underlying hA];simp [h0,hlt,Instr.sureAddr,hr,hj,Bc]
theorem lsel {T K b off j len:Nat} {x:Operand} {cs ds:List Value} (h:Od Γ x (Qv (pb b (off + j)))) (hk:Am Γ K=some (Mr b cs)) (hd:(cs.drop off).take len=ds) (hj:j < len) (hl:off + len<=cs.length) (ha:(P.underlying T).map Bp=some false):OR P (.load T x) ty Γ (Qv (Au j ds)):=by
 refine OR.val λρ M w r=>?_;obtain ⟨_,_,hv⟩:=h ρ M w r;obtain ⟨_,hh⟩:=r.tmp _ _ hk;have hc:cs[off + j]?=some (Au j ds):=by
  subst hd;have h1:((cs.drop off).take len)[j]?=cs[off + j]?:=by rw [GZ hj,JJ]
  have h2:off + j < cs.length:=by omega
  unfold Au;rw [ES,h1,FY h2];rfl
 refine ⟨Au j ds,λ_ _ _ _=>?_,rfl,rfl⟩;have:=Mr.cell hh _ _ hc;simp only [execOp,hv,Instr.loadAt,Instr.sureAddr,EU,EW,ER,loadVar,Ty.run_agg ha];simp [this]
theorem Le {len:Nat} {m:Int} {j:Nat} (h:idx (List.range len) m=some j):j < len/\0<=m/\m < len/\m.toNat=j:=by
 obtain ⟨h0,hlt,hg⟩:=Ay h;simp only [F0] at hlt;rw [FB om_] at hg;have:=Option.some.inj hg;exact ⟨by omega,h0,hlt,this⟩
theorem bifE {C:Prop} {ρ:Type} {b:Bool} {x y:Option ρ} {r:ρ} (h:(bif b then x else y)=some r) (ht:b=true->x=some r->C) (hf:b=false->y=some r->C):C:=by
 cases b
 ·exact hf rfl h
 ·exact ht rfl h
theorem bifN {C:Prop} {ρ:Type} {r:ρ} (h:(none:Option ρ)=some r):C:=by cases h
theorem BM {x:Operand} {j k:Nat} {cs:List Value} {c:Value} (hj:(j == k)=true) (h:Od Γ x (Qv (Au j cs))) (hc:Au k cs=c):Od Γ x (Qv c):=by
 have:j=k:=by simpa using hj
 subst this;rw [hc] at h;exact h
end
end Go.Pn
namespace Go.Pn
open Go Go.RowKit
structure Kd (k:IntKind) where
 v:Int
instance {k:IntKind}:Rep (Kd k) where
 sz:=1
 agg:=false
 rep _ _ cs x:=cs=[.int k x.v]
 len h:=by subst h;rfl
 ext h _:=h
 sub h _:=h
 one h:=by subst h;simp [Value.oneCell']
 flat _:=rfl
class Ik (k:outParam IntKind) (α:Type) [Rep α] where
 toI:α->Int
 ofI:Int->α
 rep:∀ {F M w v} {x:α},(Va x).p F M w v->v=.int k (toI x)
 mkv:∀ {M w} {x:α},(Va x).p [] M w (.int k (toI x))
 wrp:∀ n,toI (ofI n)=k.wrap n
instance {k:IntKind}:Ik k (Kd k) where
 toI x:=x.v
 ofI n:=⟨k.wrap n⟩
 rep h:=by
  obtain ⟨_,cs,rfl,hr⟩:=h;have:cs=_:=hr;subst this;rfl
 mkv:=⟨rfl,_,rfl,rfl⟩
 wrp _:=rfl
instance:Ik .i64 Int where
 toI x:=x
 ofI n:=wr n
 rep h:=Va.int h
 mkv:=Va.mkInt
 wrp _:=rfl
theorem wrap8 (n:Int):IntKind.u8.wrap n=((wr8 n).toNat:Int):=by
 have h1:0<=n % 256:=Int.emod_nonneg _ (by decide);have h2:n % 256 < 256:=Int.emod_lt_of_pos _ (by decide);have:(wr8 n).toNat=(n % 256).toNat:=by
  unfold wr8;rw [UInt8.toNat_ofNat'];omega
 rw [this];simp [IntKind.wrap,IntKind.bits,IntKind.signed];omega
instance:Ik .u8 UInt8 where
 toI x:=x.toNat
 ofI n:=wr8 n
 rep h:=Va.byte h
 mkv:=⟨rfl,_,rfl,rfl⟩
 wrp n:=(wrap8 n).symm
section
variable {P:Program} {Γ:Cx} {ty:TypeId} {k:IntKind} {α:Type} [Rep α] [ik:Ik k α]
theorem ckd {k:IntKind} {n:Int}:Od Γ (.const (.int k n)) (Va (⟨n⟩:Kd k)):=λρ _ _ r=>⟨[],rfl,[.int k n],by rw [r.con];rfl,rfl⟩
theorem bink {op:BinOp} {x y:Operand} {T T':TypeId} {m n:α} {e:Ent} (hx:Od Γ x (Va m)) (hy:Od Γ y (Va n))
  (h:∀ w,∃ v,(binOp op T (.int k (ik.toI m)) (.int k (ik.toI n))).run P w=.ok v w/\∀ M,e.p [] M w v):OR P (.binOp op T x y T') ty Γ e:=by
 refine OR.val λρ M w r=>?_;obtain ⟨_,h1⟩:=hx ρ M w r;obtain ⟨_,h2⟩:=hy ρ M w r;obtain ⟨v,hv,hp⟩:=h w;refine ⟨v,λ_ _ _ _=>?_,hp M⟩;simp only [execOp,ik.rep h1,ik.rep h2];have:∀ o,(eqGuard o T x y (.int k (ik.toI m)) (.int k (ik.toI n))).run P w=.ok () w:=by
  intro o; unfold eqGuard; cases o <;> rfl
 simp only [EU,this,ER,hv];rfl
theorem gtk {x y:Operand} {T T':TypeId} {m n:α} (hx:Od Γ x (Va m)) (hy:Od Γ y (Va n)):OR P (.binOp .gtr T x y T') ty Γ (Va (decide (ik.toI m > ik.toI n))):=bink hx hy λ_=>⟨_,by simp [binOp];rfl,λ_=>Va.mkBool⟩
theorem nek {x y:Operand} {T T':TypeId} {m n:α} (hx:Od Γ x (Va m)) (hy:Od Γ y (Va n)):OR P (.binOp .neq T x y T') ty Γ (Va (ik.toI m != ik.toI n)):=bink hx hy λ_=>⟨_,by simp [binOp];rfl,λ_=>Va.mkBool⟩
theorem cvk {β:Type} [Rep β] {k':IntKind} [jk:Ik k' β] {S T:TypeId} {x:Operand} {m:α} (h:Od Γ x (Va m)) (hs:(P.underlying S).isSome=true) (hT:P.underlying T=some (.int k')):OR P (.convert S T x) ty Γ (Va (jk.ofI (ik.toI m))):=
 OR.val λρ M w r=>by
  obtain ⟨_,h1⟩:=h ρ M w r;have hk:P.intKind T=k':=by simp [Program.intKind,hT]
  have hr:=run_convert_int (P:=P) w S T k (ik.toI m) hs (by rw [hk];exact hT);rw [hk] at hr;exact ⟨.int k' (k'.wrap (ik.toI m)),λ_ _ _ _=>by simp only [execOp,ik.rep h1,EU,hr,ER,EW],by rw [← jk.wrp];exact jk.mkv⟩
def Co (n:Int):ByteArray:=Utf8.encode n
theorem cvs {S T:TypeId} {x:Operand} {m:α} (h:Od Γ x (Va m)) (hS:(P.underlying S).map (λd=>match d with | .int _=>true | _=>false)=some true) (hT:P.underlying T=some .string):OR P (.convert S T x) ty Γ (Va (Co (ik.toI m))):=
 OR.val λρ M w r=>by
  obtain ⟨_,h1⟩:=h ρ M w r;refine ⟨.string (Co (ik.toI m)),λ_ _ _ _=>?_,Va.mkStr⟩;have hr:(convert S T (.int k (ik.toI m))).run P w=.ok (.string (Co (ik.toI m))) w:=by
   cases hu:P.underlying S with
   | none=>simp [hu] at hS
   | some d=>
    cases d <;> simp [hu] at hS
    simp only [convert,EU,run_underlying hu,run_underlying hT,ER];rfl
  simp only [execOp,ik.rep h1,EU,hr,ER,EW]
end
end Go.Pn
namespace Go.Pn
open Go Go.RowKit
variable {rr:Option Nat}
class FV (α:Type) [Rep α] where
 val:α->Value
 of:∀ {M w cs x},Rep.rep (α:=α) M w cs x->mk (Rep.agg α) cs=val x
 to:∀ (x:α),∃ cs,val x=mk (Rep.agg α) cs/\∀ M w,Rep.rep M w cs x
instance:FV Int where
 val x:=.int .i64 x
 of h:=by have h:_=_:=h;rw [h];rfl
 to x:=⟨[.int .i64 x],rfl,λ_ _=>rfl⟩
instance:FV ByteArray where
 val x:=.string x
 of h:=by have h:_=_:=h;rw [h];rfl
 to x:=⟨[.string x],rfl,λ_ _=>rfl⟩
theorem Va.fv {α:Type} [Rep α] [FV α] {F:List Nat} {M:Nat->Prop} {w:World} {v:Value} {x:α} (h:(Va x).p F M w v):v=FV.val x:=by
 obtain ⟨_,cs,hv,hr⟩:=h;rw [hv];exact FV.of hr
theorem FV.va {α:Type} [Rep α] [FV α] (x:α) (M:Nat->Prop) (w:World):(Va x).p [] M w (FV.val x):=by
 obtain ⟨cs,h1,h2⟩:=FV.to x;exact ⟨rfl,cs,h1,h2 M w⟩
def Cq {κ β:Type} (eqb:κ->κ->Bool) (k:κ):List (κ×β)->Nat->Option (Nat×β)
 | [],_=>none
 | (k',y) :: m,i=>if eqb k k' then some (i,y) else Cq eqb k m (i + 1)
class MK (P:Program) (K:TypeId) (κ:Type) [Rep κ] [FV κ] (eqb:outParam (κ->κ->Bool)):Prop where
 find:∀ (k:κ) (m:List (κ×Value)) (es:List MapEntry) (w:World),es.map (λe=>(e.key,e.val))=m.map (λp=>(FV.val p.1,p.2))->(Instr.findKey K (FV.val k) es).run P w=.ok (Cq eqb k m 0) w
 check:∀ (k:κ) (b:Bool) (w:World),(Instr.checkKey b 10000 K (FV.val k)).run P w=.ok () w
 stays:∀ (k k':κ),eqb k k'=true->k'=k
 same:∀ (k:κ),Instr.sameBits 10000 (FV.val k) (FV.val k)=true
theorem MK.plain {P:Program} {K:Nat} {κ:Type} [Rep κ] [FV κ] {f:κ->κ->Bool} {d:TypeDesc} (hu:P.underlying K=some d) (hk:∀ k:κ,MapKept.IsKey d (FV.val k)) (hf:∀ k k':κ,Instr.sameNow d (FV.val k) (FV.val k')=some (f k k'))
  (hs:∀ k k':κ,f k k'=true->k'=k) (hb:∀ k:κ,Instr.sameBits 10000 (FV.val k) (FV.val k)=true):MK P K κ f where
 check k b w:=MapKept.run_checkKey hu (hk k) b 9999
 stays:=hs
 same:=hb
 find k m es w h:=by
  refine MapKept.run_findKey hu ?_;have gen:∀ (m:List (κ×Value)) (es:List MapEntry) (i:Nat),es.map (λe=>(e.key,e.val))=m.map (λp=>(FV.val p.1,p.2))->Instr.findNow d (FV.val k) es i=some (Cq f k m i):=by
   intro m
   induction m with
   | nil=>intro es i h;cases es with
    | nil=>rfl
    | cons _ _=>cases h
   | cons p m ih=>
    intro es i h;cases es with
    | nil=>cases h
    | cons e es=>
     simp only [FC,List.cons.injEq] at h;obtain ⟨h1,h2⟩:=h;have hk1:e.key=FV.val p.1:=congrArg Prod.fst h1;have hk2:e.val=p.2:=congrArg Prod.snd h1;obtain ⟨pk,pv⟩:=p;simp only [Instr.findNow,hk1,hf,Cq,hk2];cases f k pk
     ·simpa using ih es (i + 1) h2
     ·rfl
  exact gen m es 0 h
def Xd (a b:ByteArray):Bool:=a.data.toList == b.data.toList
theorem AZ {a b:ByteArray}:(a.data.toList == b.data.toList)=(a == b):=by
 rw [FT];constructor
 ·intro h;have h:a.data.toList=b.data.toList:=by simpa using h
  have:a=b:=by
   cases a;cases b
   rw [ByteArray.mk.injEq];exact Array.ext' h
  rw [this];exact (MapKept.bytes_beq b b).2 rfl
 ·intro h;rw [(MapKept.bytes_beq a b).1 h];simp
theorem DZ {n:Nat} {k:IntKind} {a b:Int}:Instr.sameBits n (.int k a) (.int k b)=(a == b):=by simp [Instr.sameBits]
theorem BT {n:Nat} {a b:Bool}:Instr.sameBits n (.bool a) (.bool b)=(a == b):=by simp [Instr.sameBits]
theorem DY {n:Nat} {a:ByteArray}:Instr.sameBits n (.string a) (.string a)=true:=by simp only [Instr.sameBits];exact (MapKept.bytes_beq a a).2 rfl
theorem MK.str {P:Program} {K:Nat} (hu:P.underlying K=some .string):MK P K ByteArray (λa b=>a.data.toList == b.data.toList):=
 MK.plain hu (λ_=>trivial) (λk k'=>by
  show some (k == k')=_;rw [AZ]) (λk k' h=>by
   rw [AZ] at h;exact ((MapKept.bytes_beq k k').1 h).symm) λk=>(MapKept.bytes_beq k k).2 rfl
def Om {κ ν:Type} [Rep κ] [Rep ν] [FV κ] [FV ν] (r:Nat) (m:List (κ×ν)):Ent where
 p F M w _:=F=[r]/\∃ es clock,w.heap[r]?=some (.map es clock)/\es.toList.map (λe=>(e.key,e.val))=m.map (λp=>(FV.val p.1,FV.val p.2))
 st h e:=by
  obtain ⟨rfl,es,cl,hc,hm⟩:=h;exact ⟨rfl,es,cl,by rw [e.block r (E6.1 hc).1 As];exact hc,hm⟩
 sb h _:=h
instance {κ ν:Type} [Rep κ] [Rep ν] [FV κ] [FV ν] {r:Nat} {m:List (κ×ν)}:Gh (Om r m):=⟨λh _=>h⟩
def OM {κ ν:Type} [Rep κ] [Rep ν] [FV κ] [FV ν] (m:List (κ×ν)):Ent where
 p F M w v:=∃ r,v=.map (some r)/\(Om r m).p F M w v
 st h e:=let ⟨r,hv,h⟩:=h;⟨r,hv,(Om r m).st h e⟩
 sb h s:=let ⟨r,hv,h⟩:=h;⟨r,hv,(Om r m).sb h s⟩
def mat {κ ν:Type} (eqb:κ->κ->Bool) (m:List (κ×ν)) (k:κ):Option ν:=(Cq eqb k m 0).map (·.2)
def BN {κ ν:Type} (eqb:κ->κ->Bool) (m:List (κ×ν)) (k:κ) (y:ν):List (κ×ν):=
 match Cq eqb k m 0 with
 | some (i,_)=>m.modify i λp=>(p.1,y)
 | none=>m ++ [(k,y)]
theorem Jw {κ β γ:Type} {eqb:κ->κ->Bool} {k:κ} (f:β->γ):∀ {m:List (κ×β)} {i:Nat},Cq eqb k (m.map λp=>(p.1,f p.2)) i=(Cq eqb k m i).map λq=>(q.1,f q.2)
 | [],_=>rfl
 | (k',y) :: m,i=>by
  simp only [FC,Cq];split
  ·rfl
  ·exact Jw f
theorem Lu {κ β:Type} {eqb:κ->κ->Bool} {k:κ}:∀ {m:List (κ×β)} {i j:Nat} {y:β},Cq eqb k m i=some (j,y)->∃ k',i<=j/\m[j - i]?=some (k',y)/\eqb k k'=true
 | [],_,_,_,h=>by cases h
 | (k',y') :: m,i,j,y,h=>by
  unfold Cq at h;split at h
  ·rename_i hb;cases h
   exact ⟨k',FH _,by simp,hb⟩
  ·obtain ⟨k2,h1,h2,h3⟩:=Lu h;refine ⟨k2,by omega,?_,h3⟩;rw [show j - i=(j - (i + 1)) + 1 by omega];simpa using h2
section
variable {P:Program} {M0:Fm} {w0:World} {n:Nat} {Γ:Cx} {Q:Exit->Act->World->Prop} {a:Act} {w:World} {ty:TypeId}
theorem mkm {κ ν:Type} [Rep κ] [Rep ν] [FV κ] [FV ν] {T:TypeId}:OR P (.makeMap T none) ty Γ (OM ([]:List (κ×ν))):=by
 refine OR.run λρ M w r=>?_;refine ⟨.map (some w.heap.size),w.alloc (.map #[] 0),λ_ _ _ _=>?_,Ext.alloc _ _ _,[w.heap.size],by simp,λk hk=>?_,w.heap.size,rfl,rfl,#[],0,Bz _ _,rfl⟩
 ·simp only [execOp,JP,Instr.makeMap,EU,run_newObj,ER,EW];rfl
 ·simp at hk;subst hk;exact ⟨Nat.le_refl _,by simp⟩
theorem opm {κ ν:Type} [Rep κ] [Rep ν] [FV κ] [FV ν] {d:Nat} {m:List (κ×ν)} {R:Prop} (k:Nat) (h:St M0 w0 n Γ a w) (hd:Am Γ d=some (OM m)) (hne:Nat.beq d k=false) (r:∀ b,St M0 w0 n ((d,Qv (.map (some b))) :: (k,Om b m) :: Γ) a w->R):R:=by
 obtain ⟨M,φ,h⟩:=h;obtain ⟨b,hv,hb⟩:=h.holds d _ hd;refine r b ?_;unfold St;rw [Fh];exact h.split (by rw [hd];rfl) (F8 hne) ⟨rfl,hv⟩ hb
theorem sqm {ops:Array Oper} {rest:List Oper} {d:Nat} {op:Op} {pos:String} {aft:Array Edge} {κ ν:Type} [Rep κ] [Rep ν] [FV κ] [FV ν] {m:List (κ×ν)} (K:Nat)
  (hs:St M0 w0 n Γ a w) (ho:OR P op ty Γ (OM m)) (hn:Nat.blt d n=true) (hdk:Nat.beq d K=false)
  (k:∀ b a' w',St M0 w0 n ((d,Qv (.map (some b))) :: (K,Om b m) :: (d,OM m) :: Γ) a' w'->wpListIn (Fr rr) 0 P ops Q rest a' w'):wpListIn (Fr rr) 0 P ops Q (⟨some d,op,ty,pos,aft,none⟩ :: rest) a w:=
 sq hs ho hn λa' w' s=>opm K s (by simp [Am]) hdk λb s=>k b a' w' s
def Wq (P:Program) (T:Nat):Option (Nat×Nat):=match P.underlying T with | some (.map k e)=>some (k,e) | _=>none
theorem Jx {P:Program} {T k e:Nat} (h:Wq P T=some (k,e)):P.underlying T=some (.map k e):=by
 unfold Wq at h;split at h
 ·rename_i hu;rw [hu];simpa using h
 ·cases h
theorem BU {κ ν:Type} [Rep κ] [Rep ν] [FV κ] [FV ν] {T K E:Nat} {eqb:κ->κ->Bool} [mk:MK P K κ eqb] {zv:Value} {r:Nat} {m:List (κ×ν)} {F:List Nat} {M:Nat->Prop} {w:World} {u:Value} (h:(Om r m).p F M w u) (hT:Wq P T=some (K,E)) (k:κ) (hz:(P.info? E).map (·.zero)=some (some zv)) (c:Bool) :
  (Instr.lookup T (.map (some r)) (FV.val k) c).run P w=.ok (let q:=match mat eqb m k with | some y=>(FV.val y,true) | none=>(zv,false);if c then .tuple #[q.1,.bool q.2] else q.1) w:=by
 obtain ⟨_,es,cl,hc,hm⟩:=h;have hf:=mk.find k (m.map λp=>(p.1,FV.val p.2)) es.toList w (by rw [hm];simp);rw [Jw] at hf;have hchk:=mk.check k es.isEmpty w;have hzr:(zeroValue E).run P w=.ok zv w:=by
  cases hi:P.info? E with
  | none=>simp [hi] at hz
  | some i=>
   simp only [hi,Option.map_some,Option.some.injEq] at hz;simp only [zeroValue,typeInfo,EU,run_program,ER,hi,EW,hz]
 have hg:(getObj r).run P w=.ok (.map es cl) w:=MapKept.run_getObj_map hc;simp only [Instr.lookup,EU,run_underlying (Jx hT),ER,hg,EW,hchk,hf];unfold mat
 cases hq:Cq eqb k m 0 with
 | none=>simp only [JP,EU,hzr,ER,EW]
 | some q=>rfl
theorem lko {κ ν:Type} [Rep κ] [Rep ν] [FV κ] [FV ν] {T K E KK:Nat} {eqb:κ->κ->Bool} [MK P K κ eqb] {z:ν} {x y:Operand} {r:Nat} {m:List (κ×ν)} {k:κ} (hx:Od Γ x (Qv (.map (some r)))) (hk:Am Γ KK=some (Om r m)) (hy:Od Γ y (Va k)) (hT:Wq P T=some (K,E)) (hz:(P.info? E).map (·.zero)=some (some (FV.val z))) :
  OR P (.lookup T x y true) ty Γ (T2 (Va ((mat eqb m k).getD z)) (Va (mat eqb m k).isSome)):=by
 refine OR.val λρ M w rd=>?_;obtain ⟨_,_,hv⟩:=hx ρ M w rd;obtain ⟨_,hb⟩:=hy ρ M w rd;obtain ⟨_,ho⟩:=rd.tmp _ _ hk;have hr:=BU (P:=P) ho hT k hz true;refine ⟨.tuple #[FV.val ((mat eqb m k).getD z),.bool (mat eqb m k).isSome],λ_ _ _ _=>?_,_,_,[],[],rfl,rfl,FV.va _ _ _,Va.mkBool⟩;simp only [execOp,hv,Va.fv hb,EU,hr,ER,EW];cases mat eqb m k <;> rfl
theorem stm {κ ν:Type} [Rep κ] [Rep ν] [FV κ] [FV ν] {ops:Array Oper} {rest:List Oper} {T K E KK:Nat} {eqb:κ->κ->Bool} [hmk:MK P K κ eqb] {x y u:Operand} {pos:String} {aft:Array Edge} {r:Nat} {m:List (κ×ν)} {k:κ} {v:ν}
  (hs:St M0 w0 n Γ a w) (hx:Od Γ x (Qv (.map (some r)))) (hk:Am Γ KK=some (Om r m)) (hy:Od Γ y (Va k)) (hu:Od Γ u (Va v)) (hT:Wq P T=some (K,E))
  (cont:∀ w',St M0 w0 n ((KK,Om r (BN eqb m k v)) :: Γ) a w'->wpListIn (Fr rr) 0 P ops Q rest a w'):wpListIn (Fr rr) 0 P ops Q (⟨none,.mapUpdate T x y u,ty,pos,aft,none⟩ :: rest) a w:=by
 refine wpListIn_plain rfl λKc hK=>?_;obtain ⟨M,φ,h⟩:=hs;obtain ⟨_,_,hv⟩:=hx _ _ _ h.rd;obtain ⟨_,hb⟩:=hy _ _ _ h.rd;obtain ⟨_,hd⟩:=hu _ _ _ h.rd;obtain ⟨hF,es,cl,hc,hm⟩:=h.holds KK _ hk;have hf:=hmk.find k (m.map λp=>(p.1,FV.val p.2)) es.toList w (by rw [hm];simp);rw [Jw] at hf;have hchk:=hmk.check k false w;have hg:(getObj r).run P w=.ok (.map es cl) w:=MapKept.run_getObj_map hc;have hlt:=(E6.1 hc).1;have hset:=λo=>MapKept.run_setObj_map (P:=P) (w:=w) o hc;have hput:∃ es' cl',(Instr.mapUpdate T (.map (some r)) (FV.val k) (FV.val v)).run P w=.ok () { w with heap:=w.heap.setIfInBounds r (.map es' cl') }/\es'.toList.map (λe=>(e.key,e.val))=(BN eqb m k v).map (λp=>(FV.val p.1,FV.val p.2)):=by
  simp only [Instr.mapUpdate,EU,run_underlying (Jx hT),ER,hg,hchk,hf];unfold BN;cases hq:Cq eqb k m 0 with
  | none=>
   refine ⟨es.push { key:=FV.val k,val:=FV.val v,born:=cl },cl + 1,?_,?_⟩
   ·simp only [JP];exact hset _
   ·simp [hm]
  | some q=>
   obtain ⟨i,y⟩:=q;obtain ⟨k',_,h2,h3⟩:=Lu hq;have hkk:=hmk.stays k k' h3;subst hkk;rw [Nat.sub_zero] at h2;have hi:(es.toList.map (λe=>(e.key,e.val)))[i]?=some (FV.val k',FV.val y):=by rw [hm,FD,h2];rfl
   rw [FD] at hi;obtain ⟨e,he,hee⟩:=Option.map_eq_some_iff.1 hi;have hek:e.key=FV.val k':=congrArg Prod.fst hee;have hei:es[i]?=some e:=by rw [← HL];exact he
   refine ⟨es.modify i λe=>{ e with key:=FV.val k',val:=FV.val v },cl,?_,?_⟩
   ·simp only [Option.map_some,hei,HA,hek,Instr.keyThatStays,hmk.same,if_true,EW,EU,ER];exact hset _
   ·rw [Array.toList_modify];refine HO λq=>?_;have hmq:(es.toList[q]?).map (λe=>(e.key,e.val))=(m[q]?).map λp=>(FV.val p.1,FV.val p.2):=by rw [← FD,hm,FD]
    simp only [FD,List.getElem?_modify];by_cases hiq:i=q
    ·subst hiq;rw [he,h2];simp
    ·simp only [hiq,if_false];rw [show (λa:MapEntry=>a) <$> es.toList[q]?=es.toList[q]? by simp,show (λa:κ×ν=>a) <$> m[q]?=m[q]? by simp];exact hmq
 obtain ⟨es',cl',hrun,hm'⟩:=hput;refine Bh.upon (Bh.skip (w':={ w with heap:=w.heap.setIfInBounds r (.map es' cl') }) ?_ ?_)
 ·simp only [execOp,hv,Va.fv hb,Va.fv hd,EU,hrun,ER,EW]
 ·refine hK _ _ (cont _ ?_);unfold St;rw [Aj];refine h.write (b:=r) (by rw [hk];rfl) (by rw [hF];simp) ⟨rfl,rfl,rfl,by simp,λq _ hq=>?_,FH _⟩ ⟨hF,es',cl',(?_:({ w with heap:=w.heap.setIfInBounds r (.map es' cl') }:World).heap[r]?=_),hm'⟩
  ·simp only [HV];rw [if_neg (λe=>hq e.symm)]
  ·simp only [HV,if_true];rw [if_pos hlt]
end
end Go.Pn
namespace Go.Pn
open Go Go.RowKit
def Wv:Value->Bool
 | .slice none _ _=>true
 | _=>false
section
variable {P:Program} {Γ:Cx} {ty:TypeId}
theorem sae {x:Operand} {e:Ent} [z:Zf e] (h:Od Γ x e):OR P (.assign x) ty Γ e:=
 OR.val λρ M w r=>let ⟨F,hF⟩:=h ρ M w r;⟨ρ x,λ_ _ _ _=>rfl,by have h1:=z.z hF;subst h1;exact hF⟩
instance {c:Value} {o:Nat}:Zf (Pe c o):=⟨λh=>h.1⟩
theorem nke {x:Operand} {c:Value} {o:Nat} (h:Od Γ x (Pe c o)):OR P (.nilCheck x) ty Γ (Pe c o):=
 OR.val λρ M w r=>by
  obtain ⟨_,_,g,hg,hv⟩:=h ρ M w r;exact ⟨ρ x,λ_ _ _ _=>by simp [execOp,hv,Sem.run,pure],rfl,g,hg,hv⟩
end
section
variable {P:Program} {M0:Fm} {w0:World} {n:Nat} {Γ:Cx} {a:Act} {w:World} {ty:TypeId}
theorem eqn {α:Type} [Rep α] {T e T':TypeId} {x y:Operand} {c:Value} {K:Nat} {xs:List α} (hx:Od Γ x (Qv c)) (hy:Od Γ y (Qv (.slice none 0 0))) (hk:Am Γ K=some (At c (Va xs))) (hT:P.underlying T=some (.slice e)):OR P (.binOp .eql T x y T') ty Γ (Va (Wv c)):=by
 refine OR.val λρ M w r=>?_;obtain ⟨_,_,h1⟩:=hx ρ M w r;obtain ⟨_,_,h2⟩:=hy ρ M w r;obtain ⟨F,h3⟩:=r.tmp _ _ hk;obtain ⟨_,cs,hc,v,rfl,p,cap,hv,_⟩:=h3;have hc:c=.slice p xs.length (cap + xs.length):=(show c=v from hc).trans hv;subst hc;refine ⟨.bool (Wv (.slice p xs.length (cap + xs.length))),λ_ _ _ _=>?_,Va.mkBool⟩;have h3:(binOp .eql T (.slice p xs.length (cap + xs.length)) (.slice none 0 0)).run P w=.ok (.bool (Wv (.slice p xs.length (cap + xs.length)))) w:=by
  show ((do pure (.bool (← Op.equal T (.slice p xs.length (cap + xs.length)) (.slice none 0 0))):Sem Value)).run P w=_;have:(Op.equal T (.slice p xs.length (cap + xs.length)) (.slice none 0 0)).run P w=.ok (Wv (.slice p xs.length (cap + xs.length))) w:=by
   unfold Op.equal Op.maxDepth Op.equalIn;simp only [EU,run_underlying hT,ER];cases p <;> simp [Wv]
  simp only [EU,this,ER,EW]
 have h4:(eqGuard .eql T x y (.slice p xs.length (cap + xs.length)) (.slice none 0 0)).run P w=.ok () w:=rfl;simp only [execOp,h1,h2,EU,h3,h4,ER,EW]
theorem nilv {α:Type} [Rep α] {c:Value} {K:Nat} {xs:List α} (hs:St M0 w0 n Γ a w) (hk:Am Γ K=some (At c (Va xs))) (hb:Wv c=true):xs=[]:=by
 obtain ⟨M,φ,h⟩:=hs;obtain ⟨F,h3⟩:=h.rd.tmp _ _ hk;obtain ⟨_,cs,hc,v,rfl,p,cap,hv,hr⟩:=h3;have hc:c=v:=hc;rcases hr with h | ⟨b,o,hp,_⟩
 ·exact h
 ·rw [hc,hv,hp] at hb;cases hb
end
end Go.Pn
namespace Go.Pn
open Go Go.RowKit
def sel3 (j a b c:Nat):Nat:=if j=0 then a else if j=1 then b else c
theorem selt {ρ:Type} {j:Nat} {x y z:Option ρ} {r:ρ} (h:(bif j == 0 then x else bif j == 1 then y else bif j == 2 then z else none)=some r):j < 3:=by
 match j,h with
 | 0,_=>omega
 | 1,_=>omega
 | 2,_=>omega
 | (n+3),h=>simp at h
theorem EE {ρ:Type} {j a b c:Nat} {x y z:Option ρ} {r:ρ} {Q:Nat->Prop} (h:(bif j == 0 then x else bif j == 1 then y else bif j == 2 then z else none)=some r) (h0:x=some r->Q a) (h1:y=some r->Q b) (h2:z=some r->Q c):Q (sel3 j a b c):=by
 match j,h with
 | 0,h=>exact h0 h
 | 1,h=>exact h1 h
 | 2,h=>exact h2 h
 | (n+3),h=>simp at h
theorem qsel3 {Γ:Cx} {x:Operand} {j a b c:Nat} {fs cs:List Value} (hj:j < 3) (h:Od Γ x (Qv (Au j [fv a fs cs,fv b fs cs,fv c fs cs]))):Od Γ x (Qv (fv (sel3 j a b c) fs cs)):=by
 match j,hj,h with
 | 0,_,h=>exact h
 | 1,_,h=>exact h
 | 2,_,h=>exact h
end Go.Pn
namespace Go.Pn
open Go Go.RowKit
def Fv1 {α:Type} [Rep α] (f:Nat) (y:α):Ent where
 p F M w v:=F=[]/\∃ c,v=fv f [] [c]/\(Pt y).p [] M w c
 st h e:=⟨h.1,let ⟨c,h1,h2⟩:=h.2;⟨c,h1,(Pt y).st h2 (e.mono λk _ hk=>by obtain ⟨h3,h4⟩:=hk;exact ⟨h3,by simp⟩)⟩⟩
 sb h s:=⟨h.1,let ⟨c,h1,h2⟩:=h.2;⟨c,h1,(Pt y).sb h2 s⟩⟩
instance {α:Type} [Rep α] {f:Nat} {y:α}:Zf (Fv1 f y):=⟨λh=>h.1⟩
section
variable {P:Program} {Γ:Cx} {ty:TypeId}
theorem fvi {α:Type} [Rep α] {x:Operand} {f k:Nat} {c:Value} {y:α} (h:Od Γ x (Qv (fv f [] [c]))) (hk:Am Γ k=some (At c (Pt y))):Od Γ x (Fv1 f y):=λρ M w r=>by
 obtain ⟨_,_,hv⟩:=h ρ M w r;obtain ⟨F,hp⟩:=r.tmp _ _ hk;exact ⟨[],rfl,c,hv,hp.1 ▸ hp⟩
theorem ccf {α:Type} [Rep α] {y:α} {x:Operand} {f:FuncId} {A:Array TypeId} {args:Array Operand} {xs:List Operand} {ps:List Ent} {e:Ent} (hx:Od Γ x (Fv1 f y)) (ha:args.toList=xs) (h:Odl Γ xs ps)
  (c:Sp P f (ps ++ [Pt y]) e):OR P (.call { callee:=.value x,args:=args,argTypes:=A }) ty Γ e:=by
 intro d pos aft gd ρ M w rd;subst ha;obtain ⟨_,_,cc,hv,hp⟩:=hx ρ M w rd;have hc:=c _ M w rd.bd ((h.fits rd).app (show Ql M w [Pt y] [cc] from ⟨hp,trivial⟩));unfold Bh;rw [La hv hc.1];exact hc.2
end
end Go.Pn
namespace Go.Pn
open Go Go.RowKit
section
variable {P:Program} {Γ:Cx} {ty:TypeId} {e1 e2 e3 e4:Ent} {x:Operand}
end
end Go.Pn
namespace Go.Pn
open Go Go.RowKit
variable {rr:Option Nat}
section
variable {P:Program} {M0:Fm} {w0:World} {n:Nat} {Γ:Cx} {Q:Exit->Act->World->Prop} {a:Act} {w:World} {ty:TypeId}
theorem iab {T e:Nat} {x i:Operand} {b:Nat} {m:Int} {j:Nat} (h:Od Γ x (Qv (pb b 0))) (hi:Od Γ i (Va m)) (hA:P.underlying T=some (.array 6 e)) (he:(P.info? e).map (·.size)=some 1) (hy:idx (List.range 6) m=some j):OR P (.indexAddr T x i) ty Γ (Qv (pb b j)):=by
 have:=iax (ty:=ty) h hi hA he hy
 rwa [GV] at this
theorem stA {ops:Array Oper} {rest:List Oper} {T K:Nat} {x y:Operand} {ty:TypeId} {pos:String} {aft:Array Edge} [Ty P T Bool] {b j:Nat} {z:Ar6} {v:Bool}
  (hs:St M0 w0 n Γ a w) (hx:Od Γ x (Qv (pb b j))) (hp:Am Γ K=some (Mg b z)) (hy:Od Γ y (Va v)) (hj:j < 6)
  (k:∀ w',St M0 w0 n ((K,Mg b (z.put j v)) :: Γ) a w'->wpListIn (Fr rr) 0 P ops Q rest a w'):wpListIn (Fr rr) 0 P ops Q (⟨none,.store T x y,ty,pos,aft,none⟩ :: rest) a w:=
 sf (u:=λ(x:Ar6) (v:Bool)=>x.put j v) (hu:=Ar6.du hj) hs hx hp hy k
theorem EH {cs:List Value} {y:Ar6} {j:Nat} (h:cs=y.l.map Value.bool/\y.l.length=6) (hj:j < 6):cs[j]?=some (.bool (y.at_ j)):=by
 have hlt:j < y.l.length:=by omega
 rw [h.1,FD];unfold Ar6.at_;rw [ES,FY hlt];rfl
theorem iap {T e:Nat} {x i:Operand} {m:Int} {j:Nat} {y:Ar6} (h:Od Γ x (Pt y)) (hi:Od Γ i (Va m)) (hA:P.underlying T=some (.array 6 e)) (he:(P.info? e).map (·.size)=some 1) (hy:idx (List.range 6) m=some j):OR P (.indexAddr T x i) ty Γ (Pt (y.at_ j)):=by
 refine OR.val λρ M w r=>?_;obtain ⟨_,_,b,o,hv,hp⟩:=h ρ M w r;obtain ⟨_,h2⟩:=hi ρ M w r;obtain ⟨h0,hlt,hg⟩:=Ay hy;have hlt:m < 6:=by simpa using hlt
 have hj:m.toNat=j:=by
  rw [FB om_] at hg;exact Option.some.inj hg
 have hr:(sizeOf e).run P w=.ok 1 w:=by
  cases hie:P.info? e with
  | none=>simp [hie] at he
  | some i=>simp [hie] at he;simp [sizeOf,typeInfo,hie,he]
 refine ⟨.pointer (some ⟨b,o + j,none⟩),λ_ _ _ _=>?_,rfl,b,o + j,rfl,(Ar6.df om_).pl hp⟩;simp only [execOp,hv,Va.int h2,Instr.indexAt,EU,asIntOf,EW,ER,run_underlying hA];simp [h0,hlt,Instr.sureAddr,hr,hj,Bc]
theorem bl6 {T e:Nat} (hT:P.underlying T=some (.array 6 e)) (hz:(P.info? T).map (·.zero)=some (some (.agg ((List.replicate 6 (Value.bool false)).toArray)))) (he:(P.info? e).map (·.size)=some 1):OR P (.build T #[]) ty Γ (Va Ar6.z):=by
 refine OR.val λρ M w r=>?_;refine ⟨.agg ((List.replicate 6 (Value.bool false)).toArray),λ_ _ _ _=>?_,rfl,_,rfl,rfl,rfl⟩;cases hi:P.info? T with
 | none=>simp [hi] at hz
 | some i=>
  cases hie:P.info? e with
  | none=>simp [hie] at he
  | some i'=>
   simp only [hi,Option.map_some,Option.some.injEq] at hz;simp only [hie,Option.map_some,Option.some.injEq] at he;simp [execOp,Instr.build,zeroValue,typeInfo,EU,run_program,hi,hz,run_underlying hT,sizeOf,hie,he,Value.cells,Instr.fill]
theorem Sr {e:Nat} (hu:P.underlying e=some .bool) (hc:P.cellsOf e=1) {x y:Ar6} {cs ds:List Value} (hx:cs=x.l.map Value.bool/\x.l.length=6) (hy:ds=y.l.map Value.bool/\y.l.length=6) (w:World):∀ (is:List Nat),(∀ j∈is,j < 6) ->
  (Op.eqItems 9999 e 1 cs.toArray ds.toArray is).run P w=.ok (is.all λj=>x.at_ j == y.at_ j) w
 | [],_=>rfl
 | j :: is,h=>by
  have ha:(P.underlying e).map Bp=some false:=by rw [hu];rfl
  have hj:=h j (GD ..);have h1:=Bi (P:=P) (T:=e) (xs:=cs.toArray) (o:=j * 1) (v:=.bool (x.at_ j)) (w:=w) ha (by rw [List.getElem?_toArray,HQ];exact EH hx hj);have h2:=Bi (P:=P) (T:=e) (xs:=ds.toArray) (o:=j * 1) (v:=.bool (y.at_ j)) (w:=w) ha (by rw [List.getElem?_toArray,HQ];exact EH hy hj);have h3:=run_equalIn_bool' (P:=P) w 9998 e (x.at_ j) (y.at_ j) hu;have h4:=Sr hu hc hx hy w is λj hj=>h j (FR _ hj);simp only [Op.eqItems,EU,h1,h2,h3,ER,HW];cases (x.at_ j == y.at_ j)
  ·rfl
  ·simp [h4]
theorem eqsA {T e:Nat} (hT:P.underlying T=some (.array 6 e)) (hu:P.underlying e=some .bool) (hc:P.cellsOf e=1/\(P.info? e).isSome=true) (hg:P.eqGuardType P.depth T=false):Eqs P T eqqA:=⟨λ{M M' w w' cs ds x y} hx hy w1=>by
 cases hi:P.info? e with
 | none=>rw [hi] at hc;cases hc.2
 | some i=>
  rw [run_equalIn_array (w:=w1) 9999 cs.toArray ds.toArray hT hi,hc.1];exact Sr hu hc.1 hx hy w1 (List.range 6) λj hj=>E4.1 hj,rfl,hg⟩
end
end Go.Pn
namespace Go.Pn
open Go Go.RowKit Go.Proofs
instance:Ea Tryz.prog 30 9 (ByteArray):=⟨by kernel_rfl,by kernel_rfl,by kernel_rfl⟩
instance:Ea Tryz.prog 31 85 (Ae):=⟨by kernel_rfl,by kernel_rfl,by kernel_rfl⟩
instance:Ea Tryz.prog 32 3 (Int):=⟨by kernel_rfl,by kernel_rfl,by kernel_rfl⟩
instance:Ea Tryz.prog 39 74 (Af):=⟨by kernel_rfl,by kernel_rfl,by kernel_rfl⟩
instance:Ea Tryz.prog 60 69 (Pair):=⟨by kernel_rfl,by kernel_rfl,by kernel_rfl⟩
instance:Ea Tryz.prog 65 4 (Bool):=⟨by kernel_rfl,by kernel_rfl,by kernel_rfl⟩
instance:Ea Tryz.prog 81 83 (Expr):=⟨by kernel_rfl,by kernel_rfl,by kernel_rfl⟩
instance:Ea Tryz.prog 92 39 (List Af):=⟨by kernel_rfl,by kernel_rfl,by kernel_rfl⟩
instance:Ea Tryz.prog 138 32 (List Int):=⟨by kernel_rfl,by kernel_rfl,by kernel_rfl⟩
instance:Ea Tryz.prog 168 155 (Pilots):=⟨by kernel_rfl,by kernel_rfl,by kernel_rfl⟩
instance:Ea Tryz.prog 282 65 (List Bool):=⟨by kernel_rfl,by kernel_rfl,by kernel_rfl⟩
def Tz (x y:Af):Bool:=(x.Kind == y.Kind) && ((x.Index == y.Index) && ((x.Value == y.Value) && (true)))
instance:Eqs Tryz.prog 74 Tz:=⟨by
 rintro M M' w w' cs ds x y ⟨c0,d0,rfl,h0,c1,d1,rfl,h1,h2⟩ ⟨p0,q0,rfl,g0,p1,q1,rfl,g1,g2⟩ w1;have e0:c0=[.int .i64 x.Kind]:=h0;have k0:p0=[.int .i64 y.Kind]:=g0;have e1:c1=[.int .i64 x.Index]:=h1;have k1:p1=[.int .i64 y.Index]:=g1;have e2:d1=[.bool x.Value]:=h2;have k2:q1=[.bool y.Value]:=g2;subst e0 k0 e1 k1 e2 k2;rw [run_equalIn_agg w1 9999 74 _ _ kr_ kr_];have hf:(Tryz.prog.fieldsOf 74).toList.map Wx=[(false,3,0),(false,3,1),(false,4,2)]:=by kernel_rfl
 obtain ⟨f0,l,hl,n0,t0,o0,hf⟩:=eqm hf;rw [hl];obtain ⟨f1,l,rfl,n1,t1,o1,hf⟩:=eqm hf;obtain ⟨f2,l,rfl,n2,t2,o2,hf⟩:=eqm hf;obtain rfl:=eqm0 hf;exact (eqfi n0 (by rw [t0];kernel_rfl) (by rw [o0];rfl) (by rw [o0];rfl) (eqfi n1 (by rw [t1];kernel_rfl) (by rw [o1];rfl) (by rw [o1];rfl) (eqfb n2 (by rw [t2];kernel_rfl) (by rw [o2];rfl) (by rw [o2];rfl) eqf0))),rfl,by kernel_rfl⟩
def Sq (x y:Ab):Bool:=(x.Actuator == y.Actuator) && ((x.Out == y.Out) && (true))
instance:Eqs Tryz.prog 107 Sq:=⟨by
 rintro M M' w w' cs ds x y ⟨c0,d0,rfl,h0,h1⟩ ⟨p0,q0,rfl,g0,g1⟩ w1;have e0:c0=[.int .i64 x.Actuator]:=h0;have k0:p0=[.int .i64 y.Actuator]:=g0;have e1:d0=[.bool x.Out]:=h1;have k1:q0=[.bool y.Out]:=g1;subst e0 k0 e1 k1;rw [run_equalIn_agg w1 9999 107 _ _ kr_ kr_];have hf:(Tryz.prog.fieldsOf 107).toList.map Wx=[(false,3,0),(false,4,1)]:=by kernel_rfl
 obtain ⟨f0,l,hl,n0,t0,o0,hf⟩:=eqm hf;rw [hl];obtain ⟨f1,l,rfl,n1,t1,o1,hf⟩:=eqm hf;obtain rfl:=eqm0 hf;exact (eqfi n0 (by rw [t0];kernel_rfl) (by rw [o0];rfl) (by rw [o0];rfl) (eqfb n1 (by rw [t1];kernel_rfl) (by rw [o1];rfl) (by rw [o1];rfl) eqf0)),rfl,by kernel_rfl⟩
instance:Eqs Tryz.prog 119 eqqA:=eqsA (e:=4) kr_ kr_ ⟨by kernel_rfl,by kernel_rfl⟩ kr_
instance:MK Tryz.prog 9 ByteArray Xd:=MK.str kr_
end Go.Pn
namespace Go.Pn
open Go Go.RowKit Go.Proofs
instance:Ty Tryz.prog 159 (Kd .u64):=⟨by kernel_rfl,by kernel_rfl⟩
theorem Xo {Γ:Cx} {y0:Int} {y1:List Step} (l:List Value×List Value) (h0:Rp Γ (l.1) y0) (h1:Rp Γ (l.2) y1):Rp Γ (l.1 ++ l.2) (⟨y0,y1⟩:Ah):=(rpp h0 h1)
theorem Js {Γ:Cx} {y0:Int} {y1:List ByteArray} {y2:List Ae} {y3:List Int} {y4:List Int} (l:List Value×List Value×List Value×List Value×List Value) (h0:Rp Γ (l.1) y0) (h1:Rp Γ (l.2.1) y1) (h2:Rp Γ (l.2.2.1) y2) (h3:Rp Γ (l.2.2.2.1) y3) (h4:Rp Γ (l.2.2.2.2) y4):Rp Γ (l.1 ++ (l.2.1 ++ (l.2.2.1 ++ (l.2.2.2.1 ++ l.2.2.2.2)))) (⟨y0,y1,y2,y3,y4⟩:Aa):=(rpp h0 (rpp h1 (rpp h2 (rpp h3 h4))))
theorem Xn {Γ:Cx} {y0:Ah} {y1:List Int} {y2:List Int} {y3:List Int} {y4:List Int} {y5:Aa} (l:List Value×List Value×List Value×List Value×List Value×List Value) (h0:Rp Γ (l.1) y0) (h1:Rp Γ (l.2.1) y1) (h2:Rp Γ (l.2.2.1) y2) (h3:Rp Γ (l.2.2.2.1) y3) (h4:Rp Γ (l.2.2.2.2.1) y4) (h5:Rp Γ (l.2.2.2.2.2) y5):Rp Γ (l.1 ++ (l.2.1 ++ (l.2.2.1 ++ (l.2.2.2.1 ++ (l.2.2.2.2.1 ++ l.2.2.2.2.2))))) (⟨y0,y1,y2,y3,y4,y5⟩:Builder):=(rpp h0 (rpp h1 (rpp h2 (rpp h3 (rpp h4 h5)))))
theorem rpS61 {Γ:Cx} {y0:List Pair} {y1:List Af} {y2:Bool} (l:List Value×List Value×List Value) (h0:Rp Γ (l.1) y0) (h1:Rp Γ (l.2.1) y1) (h2:Rp Γ (l.2.2) y2):Rp Γ (l.1 ++ (l.2.1 ++ l.2.2)) (⟨y0,y1,y2⟩:Ai):=(rpp h0 (rpp h1 h2))
theorem Cc {Γ:Cx} {y0:List Int} {y1:List Bool} {y2:List Bool} {y3:List Bool} {y4:List Int} (l:List Value×List Value×List Value×List Value×List Value) (h0:Rp Γ (l.1) y0) (h1:Rp Γ (l.2.1) y1) (h2:Rp Γ (l.2.2.1) y2) (h3:Rp Γ (l.2.2.2.1) y3) (h4:Rp Γ (l.2.2.2.2) y4):Rp Γ (l.1 ++ (l.2.1 ++ (l.2.2.1 ++ (l.2.2.2.1 ++ l.2.2.2.2)))) (⟨y0,y1,y2,y3,y4⟩:Ad):=(rpp h0 (rpp h1 (rpp h2 (rpp h3 h4))))
theorem rpS82 {Γ:Cx} {y0:Int} {y1:Int} {y2:List Expr} (l:List Value×List Value×List Value) (h0:Rp Γ (l.1) y0) (h1:Rp Γ (l.2.1) y1) (h2:Rp Γ (l.2.2) y2):Rp Γ (l.1 ++ (l.2.1 ++ l.2.2)) (⟨y0,y1,y2⟩:Expr):=λρ M w r=>Ee.2 (show Rep.rep M w _ (y0,y1,y2) from (rpp h0 (rpp h1 h2)) ρ M w r)
theorem opv23 {M0:Fm} {w0:World} {n d:Nat} {Γ:Cx} {a:Act} {w:World} {x:Ah} {R:Prop} (k0:Nat) (h:St M0 w0 n Γ a w) (hd:Am Γ d=some (Va x)) (hdis:dis [d,k0]=true) (r:∀ c0,St M0 w0 n ((d,Qa [.int .i64 x.Actuators,c0]) :: (k0,At c0 (Va (x.Steps))) :: Γ) a w->R):R:=by
 obtain ⟨M,φ,h⟩:=h;obtain ⟨hF,cs,hv,hr⟩:=h.holds d _ hd;have h1:=Rep.one hr;obtain ⟨_,_,rfl,rfl,⟨c0,rfl,s0⟩⟩:=hr;refine r c0 ?_;have g0:=StM.more1 h k0 (e:=At c0 (Va (x.Steps))) (λ_=>Va.mkList s0);exact St.turnT g0 (by obtain ⟨e0,hdis⟩:=Dp hdis;simp only [Aj,put];simp only [if_neg e0,if_false];exact hd) ⟨rfl,hv,h1⟩
theorem opv33 {M0:Fm} {w0:World} {n d:Nat} {Γ:Cx} {a:Act} {w:World} {x:Aa} {R:Prop} (k0 k1 k2 k3:Nat) (h:St M0 w0 n Γ a w) (hd:Am Γ d=some (Va x)) (hdis:dis [d,k0,k1,k2,k3]=true) (r:∀ c0 c1 c2 c3,St M0 w0 n ((d,Qa [.int .i64 x.Actuators,c0,c1,c2,c3]) :: (k0,At c0 (Va (x.Inputs))) :: (k1,At c1 (Va (x.Signals))) :: (k2,At c2 (Va (x.Plus))) :: (k3,At c3 (Va (x.Minus))) :: Γ) a w->R):R:=by
 obtain ⟨M,φ,h⟩:=h;obtain ⟨hF,cs,hv,hr⟩:=h.holds d _ hd;have h1:=Rep.one hr;obtain ⟨_,_,rfl,rfl,⟨_,_,rfl,⟨c0,rfl,s0⟩,⟨_,_,rfl,⟨c1,rfl,s1⟩,⟨_,_,rfl,⟨c2,rfl,s2⟩,⟨c3,rfl,s3⟩⟩⟩⟩⟩:=hr;refine r c0 c1 c2 c3 ?_;have g3:=StM.more1 h k3 (e:=At c3 (Va (x.Minus))) (λ_=>Va.mkList s3);have g2:=StM.more1 g3 k2 (e:=At c2 (Va (x.Plus))) (λ_=>Va.mkList s2);have g1:=StM.more1 g2 k1 (e:=At c1 (Va (x.Signals))) (λ_=>Va.mkList s1);have g0:=StM.more1 g1 k0 (e:=At c0 (Va (x.Inputs))) (λ_=>Va.mkList s0);exact St.turnT g0 (by obtain ⟨e0,hdis⟩:=Dp hdis;obtain ⟨e1,hdis⟩:=Dp hdis;obtain ⟨e2,hdis⟩:=Dp hdis;obtain ⟨e3,hdis⟩:=Dp hdis;simp only [Aj,put];simp only [if_neg e0,if_neg e1,if_neg e2,if_neg e3,if_false];exact hd) ⟨rfl,hv,h1⟩
set_option maxRecDepth 100000 in
theorem DR {Γ:Cx} {ty:TypeId} {x0:Operand} {y0:Int} {x1:Operand} {y1:Int} (h0:Od Γ x0 (Va y0)) (h1:Od Γ x1 (Va y1)):OR Tryz.prog (.build 26 #[(0,x0),(1,x1)]) ty Γ (Va (⟨y0,y1⟩:Fault)):=by
 refine OR.val λρ M w r=>?_;obtain ⟨_,_,c0,e0,q0⟩:=h0 ρ M w r;obtain ⟨a0_0,rfl⟩:=Dy (Rep.len q0);obtain ⟨_,_,c1,e1,q1⟩:=h1 ρ M w r;obtain ⟨a1_0,rfl⟩:=Dy (Rep.len q1);have h:=Ap (P:=Tryz.prog) (T:=26) (w:=w) (L:=[(0,1),(1,1)]) (z:=[.int .i64 0,.int .i64 0]) (res:=[a0_0,a1_0]) (l:=[(0,ρ x0),(1,ρ x1)]) (m:=[(0,[a0_0]),(1,[a1_0])]) kr_ kr_ ⟨rfl,An e0 q0,⟨rfl,An e1 q1,trivial⟩⟩ rfl;refine ⟨.agg #[a0_0,a1_0],λ_ _ _ _=>?_,rfl,[a0_0,a1_0],rfl,⟨[a0_0],[a1_0],rfl,q0,q1⟩⟩;simp only [execOp,FO,FC,FW,EU,h,ER,EW]
set_option maxRecDepth 100000 in
theorem DQ {Γ:Cx} {ty:TypeId} :OR Tryz.prog (.build 34 #[]) ty Γ (Va (⟨(0:Int),([]:List ByteArray),([]:List Ae),([]:List Int),([]:List Int)⟩:Aa)):=by
 refine OR.val λρ M w r=>?_;have h:=Ap (P:=Tryz.prog) (T:=34) (w:=w) (L:=[(0,1),(1,1),(2,1),(3,1),(4,1)]) (z:=[.int .i64 0,.slice none 0 0,.slice none 0 0,.slice none 0 0,.slice none 0 0]) (res:=[.int .i64 0,.slice none 0 0,.slice none 0 0,.slice none 0 0,.slice none 0 0]) (l:=[]) (m:=[]) kr_ kr_ trivial rfl;refine ⟨.agg #[.int .i64 0,.slice none 0 0,.slice none 0 0,.slice none 0 0,.slice none 0 0],λ_ _ _ _=>?_,rfl,[.int .i64 0,.slice none 0 0,.slice none 0 0,.slice none 0 0,.slice none 0 0],rfl,⟨[.int .i64 0],[.slice none 0 0,.slice none 0 0,.slice none 0 0,.slice none 0 0],rfl,rfl,⟨[.slice none 0 0],[.slice none 0 0,.slice none 0 0,.slice none 0 0],rfl,⟨_,rfl,none,0,rfl,.inl rfl⟩,⟨[.slice none 0 0],[.slice none 0 0,.slice none 0 0],rfl,⟨_,rfl,none,0,rfl,.inl rfl⟩,⟨[.slice none 0 0],[.slice none 0 0],rfl,⟨_,rfl,none,0,rfl,.inl rfl⟩,⟨_,rfl,none,0,rfl,.inl rfl⟩⟩⟩⟩⟩⟩;simp only [execOp,FO,FC,FW,EU,h,ER,EW]
set_option maxRecDepth 100000 in
theorem Lm {Γ:Cx} {ty:TypeId} {x0:Operand} {y0:Int} {x1:Operand} {y1:List ByteArray} {x2:Operand} {y2:List Ae} {x3:Operand} {y3:List Int} {x4:Operand} {y4:List Int} (h0:Od Γ x0 (Va y0)) (h1:Od Γ x1 (Va y1)) (h2:Od Γ x2 (Va y2)) (h3:Od Γ x3 (Va y3)) (h4:Od Γ x4 (Va y4)):OR Tryz.prog (.build 34 #[(0,x0),(1,x1),(2,x2),(3,x3),(4,x4)]) ty Γ (Va (⟨y0,y1,y2,y3,y4⟩:Aa)):=by
 refine OR.val λρ M w r=>?_;obtain ⟨_,_,c0,e0,q0⟩:=h0 ρ M w r;obtain ⟨a0_0,rfl⟩:=Dy (Rep.len q0);obtain ⟨_,_,c1,e1,q1⟩:=h1 ρ M w r;obtain ⟨a1_0,rfl⟩:=Dy (Rep.len q1);obtain ⟨_,_,c2,e2,q2⟩:=h2 ρ M w r;obtain ⟨a2_0,rfl⟩:=Dy (Rep.len q2);obtain ⟨_,_,c3,e3,q3⟩:=h3 ρ M w r;obtain ⟨a3_0,rfl⟩:=Dy (Rep.len q3);obtain ⟨_,_,c4,e4,q4⟩:=h4 ρ M w r;obtain ⟨a4_0,rfl⟩:=Dy (Rep.len q4);have h:=Ap (P:=Tryz.prog) (T:=34) (w:=w) (L:=[(0,1),(1,1),(2,1),(3,1),(4,1)]) (z:=[.int .i64 0,.slice none 0 0,.slice none 0 0,.slice none 0 0,.slice none 0 0]) (res:=[a0_0,a1_0,a2_0,a3_0,a4_0]) (l:=[(0,ρ x0),(1,ρ x1),(2,ρ x2),(3,ρ x3),(4,ρ x4)]) (m:=[(0,[a0_0]),(1,[a1_0]),(2,[a2_0]),(3,[a3_0]),(4,[a4_0])]) kr_ kr_ ⟨rfl,An e0 q0,⟨rfl,An e1 q1,⟨rfl,An e2 q2,⟨rfl,An e3 q3,⟨rfl,An e4 q4,trivial⟩⟩⟩⟩⟩ rfl;refine ⟨.agg #[a0_0,a1_0,a2_0,a3_0,a4_0],λ_ _ _ _=>?_,rfl,[a0_0,a1_0,a2_0,a3_0,a4_0],rfl,⟨[a0_0],[a1_0,a2_0,a3_0,a4_0],rfl,q0,⟨[a1_0],[a2_0,a3_0,a4_0],rfl,q1,⟨[a2_0],[a3_0,a4_0],rfl,q2,⟨[a3_0],[a4_0],rfl,q3,q4⟩⟩⟩⟩⟩;simp only [execOp,FO,FC,FW,EU,h,ER,EW]
set_option maxRecDepth 100000 in
theorem bl57_ {Γ:Cx} {ty:TypeId} :OR Tryz.prog (.build 57 #[]) ty Γ (Va (⟨(⟨(0:Int),([]:List ByteArray),([]:List Ae),([]:List Int),([]:List Int)⟩:Aa),(⟨(0:Int),([]:List ByteArray),([]:List Ae),([]:List Int),([]:List Int)⟩:Aa)⟩:World_detect)):=by
 refine OR.val λρ M w r=>?_;have h:=Ap (P:=Tryz.prog) (T:=57) (w:=w) (L:=[(0,5),(5,5)]) (z:=[.int .i64 0,.slice none 0 0,.slice none 0 0,.slice none 0 0,.slice none 0 0,.int .i64 0,.slice none 0 0,.slice none 0 0,.slice none 0 0,.slice none 0 0]) (res:=[.int .i64 0,.slice none 0 0,.slice none 0 0,.slice none 0 0,.slice none 0 0,.int .i64 0,.slice none 0 0,.slice none 0 0,.slice none 0 0,.slice none 0 0]) (l:=[]) (m:=[]) kr_ kr_ trivial rfl;refine ⟨.agg #[.int .i64 0,.slice none 0 0,.slice none 0 0,.slice none 0 0,.slice none 0 0,.int .i64 0,.slice none 0 0,.slice none 0 0,.slice none 0 0,.slice none 0 0],λ_ _ _ _=>?_,rfl,[.int .i64 0,.slice none 0 0,.slice none 0 0,.slice none 0 0,.slice none 0 0,.int .i64 0,.slice none 0 0,.slice none 0 0,.slice none 0 0,.slice none 0 0],rfl,⟨[.int .i64 0,.slice none 0 0,.slice none 0 0,.slice none 0 0,.slice none 0 0],[.int .i64 0,.slice none 0 0,.slice none 0 0,.slice none 0 0,.slice none 0 0],rfl,⟨[.int .i64 0],[.slice none 0 0,.slice none 0 0,.slice none 0 0,.slice none 0 0],rfl,rfl,⟨[.slice none 0 0],[.slice none 0 0,.slice none 0 0,.slice none 0 0],rfl,⟨_,rfl,none,0,rfl,.inl rfl⟩,⟨[.slice none 0 0],[.slice none 0 0,.slice none 0 0],rfl,⟨_,rfl,none,0,rfl,.inl rfl⟩,⟨[.slice none 0 0],[.slice none 0 0],rfl,⟨_,rfl,none,0,rfl,.inl rfl⟩,⟨_,rfl,none,0,rfl,.inl rfl⟩⟩⟩⟩⟩,⟨[.int .i64 0],[.slice none 0 0,.slice none 0 0,.slice none 0 0,.slice none 0 0],rfl,rfl,⟨[.slice none 0 0],[.slice none 0 0,.slice none 0 0,.slice none 0 0],rfl,⟨_,rfl,none,0,rfl,.inl rfl⟩,⟨[.slice none 0 0],[.slice none 0 0,.slice none 0 0],rfl,⟨_,rfl,none,0,rfl,.inl rfl⟩,⟨[.slice none 0 0],[.slice none 0 0],rfl,⟨_,rfl,none,0,rfl,.inl rfl⟩,⟨_,rfl,none,0,rfl,.inl rfl⟩⟩⟩⟩⟩⟩⟩;simp only [execOp,FO,FC,FW,EU,h,ER,EW]
set_option maxRecDepth 100000 in
theorem DP {Γ:Cx} {ty:TypeId} {x0:Operand} {y0:Aa} {x1:Operand} {y1:Aa} (h0:Od Γ x0 (Va y0)) (h1:Od Γ x1 (Va y1)):OR Tryz.prog (.build 57 #[(0,x0),(1,x1)]) ty Γ (Va (⟨y0,y1⟩:World_detect)):=by
 refine OR.val λρ M w r=>?_;obtain ⟨_,_,c0,e0,q0⟩:=h0 ρ M w r;obtain ⟨a0_0,a0_1,a0_2,a0_3,a0_4,rfl⟩:=len5 (Rep.len q0);obtain ⟨_,_,c1,e1,q1⟩:=h1 ρ M w r;obtain ⟨a1_0,a1_1,a1_2,a1_3,a1_4,rfl⟩:=len5 (Rep.len q1);have h:=Ap (P:=Tryz.prog) (T:=57) (w:=w) (L:=[(0,5),(5,5)]) (z:=[.int .i64 0,.slice none 0 0,.slice none 0 0,.slice none 0 0,.slice none 0 0,.int .i64 0,.slice none 0 0,.slice none 0 0,.slice none 0 0,.slice none 0 0]) (res:=[a0_0,a0_1,a0_2,a0_3,a0_4,a1_0,a1_1,a1_2,a1_3,a1_4]) (l:=[(0,ρ x0),(1,ρ x1)]) (m:=[(0,[a0_0,a0_1,a0_2,a0_3,a0_4]),(1,[a1_0,a1_1,a1_2,a1_3,a1_4])]) kr_ kr_ ⟨rfl,An e0 q0,⟨rfl,An e1 q1,trivial⟩⟩ rfl;refine ⟨.agg #[a0_0,a0_1,a0_2,a0_3,a0_4,a1_0,a1_1,a1_2,a1_3,a1_4],λ_ _ _ _=>?_,rfl,[a0_0,a0_1,a0_2,a0_3,a0_4,a1_0,a1_1,a1_2,a1_3,a1_4],rfl,⟨[a0_0,a0_1,a0_2,a0_3,a0_4],[a1_0,a1_1,a1_2,a1_3,a1_4],rfl,q0,q1⟩⟩;simp only [execOp,FO,FC,FW,EU,h,ER,EW]
set_option maxRecDepth 100000 in
theorem DO {Γ:Cx} {ty:TypeId} :OR Tryz.prog (.build 62 #[]) ty Γ (Va (⟨([]:List Pair),([]:List Af),false⟩:Ai)):=by
 refine OR.val λρ M w r=>?_;have h:=Ap (P:=Tryz.prog) (T:=62) (w:=w) (L:=[(0,1),(1,1),(2,1)]) (z:=[.slice none 0 0,.slice none 0 0,.bool false]) (res:=[.slice none 0 0,.slice none 0 0,.bool false]) (l:=[]) (m:=[]) kr_ kr_ trivial rfl;refine ⟨.agg #[.slice none 0 0,.slice none 0 0,.bool false],λ_ _ _ _=>?_,rfl,[.slice none 0 0,.slice none 0 0,.bool false],rfl,⟨[.slice none 0 0],[.slice none 0 0,.bool false],rfl,⟨_,rfl,none,0,rfl,.inl rfl⟩,⟨[.slice none 0 0],[.bool false],rfl,⟨_,rfl,none,0,rfl,.inl rfl⟩,rfl⟩⟩⟩;simp only [execOp,FO,FC,FW,EU,h,ER,EW]
set_option maxRecDepth 100000 in
theorem bl62_2 {Γ:Cx} {ty:TypeId} {x2:Operand} {y2:Bool} (h2:Od Γ x2 (Va y2)):OR Tryz.prog (.build 62 #[(2,x2)]) ty Γ (Va (⟨([]:List Pair),([]:List Af),y2⟩:Ai)):=by
 refine OR.val λρ M w r=>?_;obtain ⟨_,_,c2,e2,q2⟩:=h2 ρ M w r;obtain ⟨a2_0,rfl⟩:=Dy (Rep.len q2);have h:=Ap (P:=Tryz.prog) (T:=62) (w:=w) (L:=[(0,1),(1,1),(2,1)]) (z:=[.slice none 0 0,.slice none 0 0,.bool false]) (res:=[.slice none 0 0,.slice none 0 0,a2_0]) (l:=[(2,ρ x2)]) (m:=[(2,[a2_0])]) kr_ kr_ ⟨rfl,An e2 q2,trivial⟩ rfl;refine ⟨.agg #[.slice none 0 0,.slice none 0 0,a2_0],λ_ _ _ _=>?_,rfl,[.slice none 0 0,.slice none 0 0,a2_0],rfl,⟨[.slice none 0 0],[.slice none 0 0,a2_0],rfl,⟨_,rfl,none,0,rfl,.inl rfl⟩,⟨[.slice none 0 0],[a2_0],rfl,⟨_,rfl,none,0,rfl,.inl rfl⟩,q2⟩⟩⟩;simp only [execOp,FO,FC,FW,EU,h,ER,EW]
set_option maxRecDepth 100000 in
theorem bl67_ {Γ:Cx} {ty:TypeId} :OR Tryz.prog (.build 67 #[]) ty Γ (Va (⟨([]:List Int),([]:List Bool),([]:List Bool),([]:List Bool),([]:List Int)⟩:Ad)):=by
 refine OR.val λρ M w r=>?_;have h:=Ap (P:=Tryz.prog) (T:=67) (w:=w) (L:=[(0,1),(1,1),(2,1),(3,1),(4,1)]) (z:=[.slice none 0 0,.slice none 0 0,.slice none 0 0,.slice none 0 0,.slice none 0 0]) (res:=[.slice none 0 0,.slice none 0 0,.slice none 0 0,.slice none 0 0,.slice none 0 0]) (l:=[]) (m:=[]) kr_ kr_ trivial rfl;refine ⟨.agg #[.slice none 0 0,.slice none 0 0,.slice none 0 0,.slice none 0 0,.slice none 0 0],λ_ _ _ _=>?_,rfl,[.slice none 0 0,.slice none 0 0,.slice none 0 0,.slice none 0 0,.slice none 0 0],rfl,⟨[.slice none 0 0],[.slice none 0 0,.slice none 0 0,.slice none 0 0,.slice none 0 0],rfl,⟨_,rfl,none,0,rfl,.inl rfl⟩,⟨[.slice none 0 0],[.slice none 0 0,.slice none 0 0,.slice none 0 0],rfl,⟨_,rfl,none,0,rfl,.inl rfl⟩,⟨[.slice none 0 0],[.slice none 0 0,.slice none 0 0],rfl,⟨_,rfl,none,0,rfl,.inl rfl⟩,⟨[.slice none 0 0],[.slice none 0 0],rfl,⟨_,rfl,none,0,rfl,.inl rfl⟩,⟨_,rfl,none,0,rfl,.inl rfl⟩⟩⟩⟩⟩⟩;simp only [execOp,FO,FC,FW,EU,h,ER,EW]
set_option maxRecDepth 100000 in
theorem bl69_ {Γ:Cx} {ty:TypeId} :OR Tryz.prog (.build 69 #[]) ty Γ (Va (⟨(⟨([]:List Int),([]:List Bool),([]:List Bool),([]:List Bool),([]:List Int)⟩:Ad),(⟨([]:List Int),([]:List Bool),([]:List Bool),([]:List Bool),([]:List Int)⟩:Ad)⟩:Pair)):=by
 refine OR.val λρ M w r=>?_;have h:=Ap (P:=Tryz.prog) (T:=69) (w:=w) (L:=[(0,5),(5,5)]) (z:=[.slice none 0 0,.slice none 0 0,.slice none 0 0,.slice none 0 0,.slice none 0 0,.slice none 0 0,.slice none 0 0,.slice none 0 0,.slice none 0 0,.slice none 0 0]) (res:=[.slice none 0 0,.slice none 0 0,.slice none 0 0,.slice none 0 0,.slice none 0 0,.slice none 0 0,.slice none 0 0,.slice none 0 0,.slice none 0 0,.slice none 0 0]) (l:=[]) (m:=[]) kr_ kr_ trivial rfl;refine ⟨.agg #[.slice none 0 0,.slice none 0 0,.slice none 0 0,.slice none 0 0,.slice none 0 0,.slice none 0 0,.slice none 0 0,.slice none 0 0,.slice none 0 0,.slice none 0 0],λ_ _ _ _=>?_,rfl,[.slice none 0 0,.slice none 0 0,.slice none 0 0,.slice none 0 0,.slice none 0 0,.slice none 0 0,.slice none 0 0,.slice none 0 0,.slice none 0 0,.slice none 0 0],rfl,⟨[.slice none 0 0,.slice none 0 0,.slice none 0 0,.slice none 0 0,.slice none 0 0],[.slice none 0 0,.slice none 0 0,.slice none 0 0,.slice none 0 0,.slice none 0 0],rfl,⟨[.slice none 0 0],[.slice none 0 0,.slice none 0 0,.slice none 0 0,.slice none 0 0],rfl,⟨_,rfl,none,0,rfl,.inl rfl⟩,⟨[.slice none 0 0],[.slice none 0 0,.slice none 0 0,.slice none 0 0],rfl,⟨_,rfl,none,0,rfl,.inl rfl⟩,⟨[.slice none 0 0],[.slice none 0 0,.slice none 0 0],rfl,⟨_,rfl,none,0,rfl,.inl rfl⟩,⟨[.slice none 0 0],[.slice none 0 0],rfl,⟨_,rfl,none,0,rfl,.inl rfl⟩,⟨_,rfl,none,0,rfl,.inl rfl⟩⟩⟩⟩⟩,⟨[.slice none 0 0],[.slice none 0 0,.slice none 0 0,.slice none 0 0,.slice none 0 0],rfl,⟨_,rfl,none,0,rfl,.inl rfl⟩,⟨[.slice none 0 0],[.slice none 0 0,.slice none 0 0,.slice none 0 0],rfl,⟨_,rfl,none,0,rfl,.inl rfl⟩,⟨[.slice none 0 0],[.slice none 0 0,.slice none 0 0],rfl,⟨_,rfl,none,0,rfl,.inl rfl⟩,⟨[.slice none 0 0],[.slice none 0 0],rfl,⟨_,rfl,none,0,rfl,.inl rfl⟩,⟨_,rfl,none,0,rfl,.inl rfl⟩⟩⟩⟩⟩⟩⟩;simp only [execOp,FO,FC,FW,EU,h,ER,EW]
set_option maxRecDepth 100000 in
theorem Wj {Γ:Cx} {ty:TypeId} {x0:Operand} {y0:Ad} {x1:Operand} {y1:Ad} (h0:Od Γ x0 (Va y0)) (h1:Od Γ x1 (Va y1)):OR Tryz.prog (.build 69 #[(0,x0),(1,x1)]) ty Γ (Va (⟨y0,y1⟩:Pair)):=by
 refine OR.val λρ M w r=>?_;obtain ⟨_,_,c0,e0,q0⟩:=h0 ρ M w r;obtain ⟨a0_0,a0_1,a0_2,a0_3,a0_4,rfl⟩:=len5 (Rep.len q0);obtain ⟨_,_,c1,e1,q1⟩:=h1 ρ M w r;obtain ⟨a1_0,a1_1,a1_2,a1_3,a1_4,rfl⟩:=len5 (Rep.len q1);have h:=Ap (P:=Tryz.prog) (T:=69) (w:=w) (L:=[(0,5),(5,5)]) (z:=[.slice none 0 0,.slice none 0 0,.slice none 0 0,.slice none 0 0,.slice none 0 0,.slice none 0 0,.slice none 0 0,.slice none 0 0,.slice none 0 0,.slice none 0 0]) (res:=[a0_0,a0_1,a0_2,a0_3,a0_4,a1_0,a1_1,a1_2,a1_3,a1_4]) (l:=[(0,ρ x0),(1,ρ x1)]) (m:=[(0,[a0_0,a0_1,a0_2,a0_3,a0_4]),(1,[a1_0,a1_1,a1_2,a1_3,a1_4])]) kr_ kr_ ⟨rfl,An e0 q0,⟨rfl,An e1 q1,trivial⟩⟩ rfl;refine ⟨.agg #[a0_0,a0_1,a0_2,a0_3,a0_4,a1_0,a1_1,a1_2,a1_3,a1_4],λ_ _ _ _=>?_,rfl,[a0_0,a0_1,a0_2,a0_3,a0_4,a1_0,a1_1,a1_2,a1_3,a1_4],rfl,⟨[a0_0,a0_1,a0_2,a0_3,a0_4],[a1_0,a1_1,a1_2,a1_3,a1_4],rfl,q0,q1⟩⟩;simp only [execOp,FO,FC,FW,EU,h,ER,EW]
set_option maxRecDepth 100000 in
theorem Wi {Γ:Cx} {ty:TypeId} {x0:Operand} {y0:Int} {x1:Operand} {y1:Int} (h0:Od Γ x0 (Va y0)) (h1:Od Γ x1 (Va y1)):OR Tryz.prog (.build 74 #[(0,x0),(1,x1)]) ty Γ (Va (⟨y0,y1,false⟩:Af)):=by
 refine OR.val λρ M w r=>?_;obtain ⟨_,_,c0,e0,q0⟩:=h0 ρ M w r;obtain ⟨a0_0,rfl⟩:=Dy (Rep.len q0);obtain ⟨_,_,c1,e1,q1⟩:=h1 ρ M w r;obtain ⟨a1_0,rfl⟩:=Dy (Rep.len q1);have h:=Ap (P:=Tryz.prog) (T:=74) (w:=w) (L:=[(0,1),(1,1),(2,1)]) (z:=[.int .i64 0,.int .i64 0,.bool false]) (res:=[a0_0,a1_0,.bool false]) (l:=[(0,ρ x0),(1,ρ x1)]) (m:=[(0,[a0_0]),(1,[a1_0])]) kr_ kr_ ⟨rfl,An e0 q0,⟨rfl,An e1 q1,trivial⟩⟩ rfl;refine ⟨.agg #[a0_0,a1_0,.bool false],λ_ _ _ _=>?_,rfl,[a0_0,a1_0,.bool false],rfl,⟨[a0_0],[a1_0,.bool false],rfl,q0,⟨[a1_0],[.bool false],rfl,q1,rfl⟩⟩⟩;simp only [execOp,FO,FC,FW,EU,h,ER,EW]
set_option maxRecDepth 100000 in
theorem Xb {Γ:Cx} {ty:TypeId} {x0:Operand} {y0:Int} {x1:Operand} {y1:Int} {x2:Operand} {y2:Bool} (h0:Od Γ x0 (Va y0)) (h1:Od Γ x1 (Va y1)) (h2:Od Γ x2 (Va y2)):OR Tryz.prog (.build 74 #[(0,x0),(1,x1),(2,x2)]) ty Γ (Va (⟨y0,y1,y2⟩:Af)):=by
 refine OR.val λρ M w r=>?_;obtain ⟨_,_,c0,e0,q0⟩:=h0 ρ M w r;obtain ⟨a0_0,rfl⟩:=Dy (Rep.len q0);obtain ⟨_,_,c1,e1,q1⟩:=h1 ρ M w r;obtain ⟨a1_0,rfl⟩:=Dy (Rep.len q1);obtain ⟨_,_,c2,e2,q2⟩:=h2 ρ M w r;obtain ⟨a2_0,rfl⟩:=Dy (Rep.len q2);have h:=Ap (P:=Tryz.prog) (T:=74) (w:=w) (L:=[(0,1),(1,1),(2,1)]) (z:=[.int .i64 0,.int .i64 0,.bool false]) (res:=[a0_0,a1_0,a2_0]) (l:=[(0,ρ x0),(1,ρ x1),(2,ρ x2)]) (m:=[(0,[a0_0]),(1,[a1_0]),(2,[a2_0])]) kr_ kr_ ⟨rfl,An e0 q0,⟨rfl,An e1 q1,⟨rfl,An e2 q2,trivial⟩⟩⟩ rfl;refine ⟨.agg #[a0_0,a1_0,a2_0],λ_ _ _ _=>?_,rfl,[a0_0,a1_0,a2_0],rfl,⟨[a0_0],[a1_0,a2_0],rfl,q0,⟨[a1_0],[a2_0],rfl,q1,q2⟩⟩⟩;simp only [execOp,FO,FC,FW,EU,h,ER,EW]
set_option maxRecDepth 100000 in
theorem Jk {Γ:Cx} {ty:TypeId} {x0:Operand} {y0:Int} {x1:Operand} {y1:Int} (h0:Od Γ x0 (Va y0)) (h1:Od Γ x1 (Va y1)):OR Tryz.prog (.build 83 #[(0,x0),(1,x1)]) ty Γ (Va (⟨y0,y1,([]:List Expr)⟩:Expr)):=by
 refine OR.val λρ M w r=>?_;obtain ⟨_,_,c0,e0,q0⟩:=h0 ρ M w r;obtain ⟨a0_0,rfl⟩:=Dy (Rep.len q0);obtain ⟨_,_,c1,e1,q1⟩:=h1 ρ M w r;obtain ⟨a1_0,rfl⟩:=Dy (Rep.len q1);have h:=Ap (P:=Tryz.prog) (T:=83) (w:=w) (L:=[(0,1),(1,1),(2,1)]) (z:=[.int .i64 0,.int .i64 0,.slice none 0 0]) (res:=[a0_0,a1_0,.slice none 0 0]) (l:=[(0,ρ x0),(1,ρ x1)]) (m:=[(0,[a0_0]),(1,[a1_0])]) kr_ kr_ ⟨rfl,An e0 q0,⟨rfl,An e1 q1,trivial⟩⟩ rfl;refine ⟨.agg #[a0_0,a1_0,.slice none 0 0],λ_ _ _ _=>?_,rfl,[a0_0,a1_0,.slice none 0 0],rfl,Ee.2 (show Rep.rep M w _ (y0,y1,([]:List Expr)) from ⟨[a0_0],[a1_0,.slice none 0 0],rfl,q0,⟨[a1_0],[.slice none 0 0],rfl,q1,⟨_,rfl,none,0,rfl,.inl rfl⟩⟩⟩)⟩;simp only [execOp,FO,FC,FW,EU,h,ER,EW]
set_option maxRecDepth 100000 in
theorem Qh {Γ:Cx} {ty:TypeId} {x0:Operand} {y0:Int} {x2:Operand} {y2:List Expr} (h0:Od Γ x0 (Va y0)) (h2:Od Γ x2 (Va y2)):OR Tryz.prog (.build 83 #[(0,x0),(2,x2)]) ty Γ (Va (⟨y0,(0:Int),y2⟩:Expr)):=by
 refine OR.val λρ M w r=>?_;obtain ⟨_,_,c0,e0,q0⟩:=h0 ρ M w r;obtain ⟨a0_0,rfl⟩:=Dy (Rep.len q0);obtain ⟨_,_,c2,e2,q2⟩:=h2 ρ M w r;obtain ⟨a2_0,rfl⟩:=Dy (Rep.len q2);have h:=Ap (P:=Tryz.prog) (T:=83) (w:=w) (L:=[(0,1),(1,1),(2,1)]) (z:=[.int .i64 0,.int .i64 0,.slice none 0 0]) (res:=[a0_0,.int .i64 0,a2_0]) (l:=[(0,ρ x0),(2,ρ x2)]) (m:=[(0,[a0_0]),(2,[a2_0])]) kr_ kr_ ⟨rfl,An e0 q0,⟨rfl,An e2 q2,trivial⟩⟩ rfl;refine ⟨.agg #[a0_0,.int .i64 0,a2_0],λ_ _ _ _=>?_,rfl,[a0_0,.int .i64 0,a2_0],rfl,Ee.2 (show Rep.rep M w _ (y0,(0:Int),y2) from ⟨[a0_0],[.int .i64 0,a2_0],rfl,q0,⟨[.int .i64 0],[a2_0],rfl,rfl,q2⟩⟩)⟩;simp only [execOp,FO,FC,FW,EU,h,ER,EW]
set_option maxRecDepth 100000 in
theorem Xa {Γ:Cx} {ty:TypeId} {x0:Operand} {y0:ByteArray} {x1:Operand} {y1:Int} {x2:Operand} {y2:Expr} (h0:Od Γ x0 (Va y0)) (h1:Od Γ x1 (Va y1)) (h2:Od Γ x2 (Va y2)):OR Tryz.prog (.build 85 #[(0,x0),(1,x1),(2,x2)]) ty Γ (Va (⟨y0,y1,y2,(⟨(0:Int),(0:Int),([]:List Expr)⟩:Expr),(0:Int),false⟩:Ae)):=by
 refine OR.val λρ M w r=>?_;obtain ⟨_,_,c0,e0,q0⟩:=h0 ρ M w r;obtain ⟨a0_0,rfl⟩:=Dy (Rep.len q0);obtain ⟨_,_,c1,e1,q1⟩:=h1 ρ M w r;obtain ⟨a1_0,rfl⟩:=Dy (Rep.len q1);obtain ⟨_,_,c2,e2,q2⟩:=h2 ρ M w r;obtain ⟨a2_0,a2_1,a2_2,rfl⟩:=len3 (Rep.len q2);have h:=Ap (P:=Tryz.prog) (T:=85) (w:=w) (L:=[(0,1),(1,1),(2,3),(5,3),(8,1),(9,1)]) (z:=[.string ByteArray.empty,.int .i64 0,.int .i64 0,.int .i64 0,.slice none 0 0,.int .i64 0,.int .i64 0,.slice none 0 0,.int .i64 0,.bool false]) (res:=[a0_0,a1_0,a2_0,a2_1,a2_2,.int .i64 0,.int .i64 0,.slice none 0 0,.int .i64 0,.bool false]) (l:=[(0,ρ x0),(1,ρ x1),(2,ρ x2)]) (m:=[(0,[a0_0]),(1,[a1_0]),(2,[a2_0,a2_1,a2_2])]) kr_ kr_ ⟨rfl,An e0 q0,⟨rfl,An e1 q1,⟨rfl,An e2 q2,trivial⟩⟩⟩ rfl;refine ⟨.agg #[a0_0,a1_0,a2_0,a2_1,a2_2,.int .i64 0,.int .i64 0,.slice none 0 0,.int .i64 0,.bool false],λ_ _ _ _=>?_,rfl,[a0_0,a1_0,a2_0,a2_1,a2_2,.int .i64 0,.int .i64 0,.slice none 0 0,.int .i64 0,.bool false],rfl,⟨[a0_0],[a1_0,a2_0,a2_1,a2_2,.int .i64 0,.int .i64 0,.slice none 0 0,.int .i64 0,.bool false],rfl,q0,⟨[a1_0],[a2_0,a2_1,a2_2,.int .i64 0,.int .i64 0,.slice none 0 0,.int .i64 0,.bool false],rfl,q1,⟨[a2_0,a2_1,a2_2],[.int .i64 0,.int .i64 0,.slice none 0 0,.int .i64 0,.bool false],rfl,q2,⟨[.int .i64 0,.int .i64 0,.slice none 0 0],[.int .i64 0,.bool false],rfl,(by show Qk _ _ _ _;unfold Qk;exact ⟨none,0,rfl,.inl rfl⟩),⟨[.int .i64 0],[.bool false],rfl,rfl,rfl⟩⟩⟩⟩⟩⟩;simp only [execOp,FO,FC,FW,EU,h,ER,EW]
set_option maxRecDepth 100000 in
theorem Sx {Γ:Cx} {ty:TypeId} {x0:Operand} {y0:ByteArray} {x1:Operand} {y1:Int} {x2:Operand} {y2:Expr} {x3:Operand} {y3:Expr} (h0:Od Γ x0 (Va y0)) (h1:Od Γ x1 (Va y1)) (h2:Od Γ x2 (Va y2)) (h3:Od Γ x3 (Va y3)):OR Tryz.prog (.build 85 #[(0,x0),(1,x1),(2,x2),(3,x3)]) ty Γ (Va (⟨y0,y1,y2,y3,(0:Int),false⟩:Ae)):=by
 refine OR.val λρ M w r=>?_;obtain ⟨_,_,c0,e0,q0⟩:=h0 ρ M w r;obtain ⟨a0_0,rfl⟩:=Dy (Rep.len q0);obtain ⟨_,_,c1,e1,q1⟩:=h1 ρ M w r;obtain ⟨a1_0,rfl⟩:=Dy (Rep.len q1);obtain ⟨_,_,c2,e2,q2⟩:=h2 ρ M w r;obtain ⟨a2_0,a2_1,a2_2,rfl⟩:=len3 (Rep.len q2);obtain ⟨_,_,c3,e3,q3⟩:=h3 ρ M w r;obtain ⟨a3_0,a3_1,a3_2,rfl⟩:=len3 (Rep.len q3);have h:=Ap (P:=Tryz.prog) (T:=85) (w:=w) (L:=[(0,1),(1,1),(2,3),(5,3),(8,1),(9,1)]) (z:=[.string ByteArray.empty,.int .i64 0,.int .i64 0,.int .i64 0,.slice none 0 0,.int .i64 0,.int .i64 0,.slice none 0 0,.int .i64 0,.bool false]) (res:=[a0_0,a1_0,a2_0,a2_1,a2_2,a3_0,a3_1,a3_2,.int .i64 0,.bool false]) (l:=[(0,ρ x0),(1,ρ x1),(2,ρ x2),(3,ρ x3)]) (m:=[(0,[a0_0]),(1,[a1_0]),(2,[a2_0,a2_1,a2_2]),(3,[a3_0,a3_1,a3_2])]) kr_ kr_ ⟨rfl,An e0 q0,⟨rfl,An e1 q1,⟨rfl,An e2 q2,⟨rfl,An e3 q3,trivial⟩⟩⟩⟩ rfl;refine ⟨.agg #[a0_0,a1_0,a2_0,a2_1,a2_2,a3_0,a3_1,a3_2,.int .i64 0,.bool false],λ_ _ _ _=>?_,rfl,[a0_0,a1_0,a2_0,a2_1,a2_2,a3_0,a3_1,a3_2,.int .i64 0,.bool false],rfl,⟨[a0_0],[a1_0,a2_0,a2_1,a2_2,a3_0,a3_1,a3_2,.int .i64 0,.bool false],rfl,q0,⟨[a1_0],[a2_0,a2_1,a2_2,a3_0,a3_1,a3_2,.int .i64 0,.bool false],rfl,q1,⟨[a2_0,a2_1,a2_2],[a3_0,a3_1,a3_2,.int .i64 0,.bool false],rfl,q2,⟨[a3_0,a3_1,a3_2],[.int .i64 0,.bool false],rfl,q3,⟨[.int .i64 0],[.bool false],rfl,rfl,rfl⟩⟩⟩⟩⟩⟩;simp only [execOp,FO,FC,FW,EU,h,ER,EW]
set_option maxRecDepth 100000 in
theorem Lj {Γ:Cx} {ty:TypeId} {x0:Operand} {y0:ByteArray} {x1:Operand} {y1:Int} {x2:Operand} {y2:Expr} {x3:Operand} {y3:Expr} {x5:Operand} {y5:Bool} (h0:Od Γ x0 (Va y0)) (h1:Od Γ x1 (Va y1)) (h2:Od Γ x2 (Va y2)) (h3:Od Γ x3 (Va y3)) (h5:Od Γ x5 (Va y5)):OR Tryz.prog (.build 85 #[(0,x0),(1,x1),(2,x2),(3,x3),(5,x5)]) ty Γ (Va (⟨y0,y1,y2,y3,(0:Int),y5⟩:Ae)):=by
 refine OR.val λρ M w r=>?_;obtain ⟨_,_,c0,e0,q0⟩:=h0 ρ M w r;obtain ⟨a0_0,rfl⟩:=Dy (Rep.len q0);obtain ⟨_,_,c1,e1,q1⟩:=h1 ρ M w r;obtain ⟨a1_0,rfl⟩:=Dy (Rep.len q1);obtain ⟨_,_,c2,e2,q2⟩:=h2 ρ M w r;obtain ⟨a2_0,a2_1,a2_2,rfl⟩:=len3 (Rep.len q2);obtain ⟨_,_,c3,e3,q3⟩:=h3 ρ M w r;obtain ⟨a3_0,a3_1,a3_2,rfl⟩:=len3 (Rep.len q3);obtain ⟨_,_,c5,e5,q5⟩:=h5 ρ M w r;obtain ⟨a5_0,rfl⟩:=Dy (Rep.len q5);have h:=Ap (P:=Tryz.prog) (T:=85) (w:=w) (L:=[(0,1),(1,1),(2,3),(5,3),(8,1),(9,1)]) (z:=[.string ByteArray.empty,.int .i64 0,.int .i64 0,.int .i64 0,.slice none 0 0,.int .i64 0,.int .i64 0,.slice none 0 0,.int .i64 0,.bool false]) (res:=[a0_0,a1_0,a2_0,a2_1,a2_2,a3_0,a3_1,a3_2,.int .i64 0,a5_0]) (l:=[(0,ρ x0),(1,ρ x1),(2,ρ x2),(3,ρ x3),(5,ρ x5)]) (m:=[(0,[a0_0]),(1,[a1_0]),(2,[a2_0,a2_1,a2_2]),(3,[a3_0,a3_1,a3_2]),(5,[a5_0])]) kr_ kr_ ⟨rfl,An e0 q0,⟨rfl,An e1 q1,⟨rfl,An e2 q2,⟨rfl,An e3 q3,⟨rfl,An e5 q5,trivial⟩⟩⟩⟩⟩ rfl;refine ⟨.agg #[a0_0,a1_0,a2_0,a2_1,a2_2,a3_0,a3_1,a3_2,.int .i64 0,a5_0],λ_ _ _ _=>?_,rfl,[a0_0,a1_0,a2_0,a2_1,a2_2,a3_0,a3_1,a3_2,.int .i64 0,a5_0],rfl,⟨[a0_0],[a1_0,a2_0,a2_1,a2_2,a3_0,a3_1,a3_2,.int .i64 0,a5_0],rfl,q0,⟨[a1_0],[a2_0,a2_1,a2_2,a3_0,a3_1,a3_2,.int .i64 0,a5_0],rfl,q1,⟨[a2_0,a2_1,a2_2],[a3_0,a3_1,a3_2,.int .i64 0,a5_0],rfl,q2,⟨[a3_0,a3_1,a3_2],[.int .i64 0,a5_0],rfl,q3,⟨[.int .i64 0],[a5_0],rfl,rfl,q5⟩⟩⟩⟩⟩⟩;simp only [execOp,FO,FC,FW,EU,h,ER,EW]
set_option maxRecDepth 100000 in
theorem Sv {Γ:Cx} {ty:TypeId} {x0:Operand} {y0:ByteArray} {x1:Operand} {y1:Int} {x2:Operand} {y2:Expr} {x4:Operand} {y4:Int} (h0:Od Γ x0 (Va y0)) (h1:Od Γ x1 (Va y1)) (h2:Od Γ x2 (Va y2)) (h4:Od Γ x4 (Va y4)):OR Tryz.prog (.build 85 #[(0,x0),(1,x1),(2,x2),(4,x4)]) ty Γ (Va (⟨y0,y1,y2,(⟨(0:Int),(0:Int),([]:List Expr)⟩:Expr),y4,false⟩:Ae)):=by
 refine OR.val λρ M w r=>?_;obtain ⟨_,_,c0,e0,q0⟩:=h0 ρ M w r;obtain ⟨a0_0,rfl⟩:=Dy (Rep.len q0);obtain ⟨_,_,c1,e1,q1⟩:=h1 ρ M w r;obtain ⟨a1_0,rfl⟩:=Dy (Rep.len q1);obtain ⟨_,_,c2,e2,q2⟩:=h2 ρ M w r;obtain ⟨a2_0,a2_1,a2_2,rfl⟩:=len3 (Rep.len q2);obtain ⟨_,_,c4,e4,q4⟩:=h4 ρ M w r;obtain ⟨a4_0,rfl⟩:=Dy (Rep.len q4);have h:=Ap (P:=Tryz.prog) (T:=85) (w:=w) (L:=[(0,1),(1,1),(2,3),(5,3),(8,1),(9,1)]) (z:=[.string ByteArray.empty,.int .i64 0,.int .i64 0,.int .i64 0,.slice none 0 0,.int .i64 0,.int .i64 0,.slice none 0 0,.int .i64 0,.bool false]) (res:=[a0_0,a1_0,a2_0,a2_1,a2_2,.int .i64 0,.int .i64 0,.slice none 0 0,a4_0,.bool false]) (l:=[(0,ρ x0),(1,ρ x1),(2,ρ x2),(4,ρ x4)]) (m:=[(0,[a0_0]),(1,[a1_0]),(2,[a2_0,a2_1,a2_2]),(4,[a4_0])]) kr_ kr_ ⟨rfl,An e0 q0,⟨rfl,An e1 q1,⟨rfl,An e2 q2,⟨rfl,An e4 q4,trivial⟩⟩⟩⟩ rfl;refine ⟨.agg #[a0_0,a1_0,a2_0,a2_1,a2_2,.int .i64 0,.int .i64 0,.slice none 0 0,a4_0,.bool false],λ_ _ _ _=>?_,rfl,[a0_0,a1_0,a2_0,a2_1,a2_2,.int .i64 0,.int .i64 0,.slice none 0 0,a4_0,.bool false],rfl,⟨[a0_0],[a1_0,a2_0,a2_1,a2_2,.int .i64 0,.int .i64 0,.slice none 0 0,a4_0,.bool false],rfl,q0,⟨[a1_0],[a2_0,a2_1,a2_2,.int .i64 0,.int .i64 0,.slice none 0 0,a4_0,.bool false],rfl,q1,⟨[a2_0,a2_1,a2_2],[.int .i64 0,.int .i64 0,.slice none 0 0,a4_0,.bool false],rfl,q2,⟨[.int .i64 0,.int .i64 0,.slice none 0 0],[a4_0,.bool false],rfl,(by show Qk _ _ _ _;unfold Qk;exact ⟨none,0,rfl,.inl rfl⟩),⟨[a4_0],[.bool false],rfl,q4,rfl⟩⟩⟩⟩⟩⟩;simp only [execOp,FO,FC,FW,EU,h,ER,EW]
set_option maxRecDepth 100000 in
theorem Qg {Γ:Cx} {ty:TypeId} {x0:Operand} {y0:ByteArray} {x2:Operand} {y2:Expr} (h0:Od Γ x0 (Va y0)) (h2:Od Γ x2 (Va y2)):OR Tryz.prog (.build 85 #[(0,x0),(2,x2)]) ty Γ (Va (⟨y0,(0:Int),y2,(⟨(0:Int),(0:Int),([]:List Expr)⟩:Expr),(0:Int),false⟩:Ae)):=by
 refine OR.val λρ M w r=>?_;obtain ⟨_,_,c0,e0,q0⟩:=h0 ρ M w r;obtain ⟨a0_0,rfl⟩:=Dy (Rep.len q0);obtain ⟨_,_,c2,e2,q2⟩:=h2 ρ M w r;obtain ⟨a2_0,a2_1,a2_2,rfl⟩:=len3 (Rep.len q2);have h:=Ap (P:=Tryz.prog) (T:=85) (w:=w) (L:=[(0,1),(1,1),(2,3),(5,3),(8,1),(9,1)]) (z:=[.string ByteArray.empty,.int .i64 0,.int .i64 0,.int .i64 0,.slice none 0 0,.int .i64 0,.int .i64 0,.slice none 0 0,.int .i64 0,.bool false]) (res:=[a0_0,.int .i64 0,a2_0,a2_1,a2_2,.int .i64 0,.int .i64 0,.slice none 0 0,.int .i64 0,.bool false]) (l:=[(0,ρ x0),(2,ρ x2)]) (m:=[(0,[a0_0]),(2,[a2_0,a2_1,a2_2])]) kr_ kr_ ⟨rfl,An e0 q0,⟨rfl,An e2 q2,trivial⟩⟩ rfl;refine ⟨.agg #[a0_0,.int .i64 0,a2_0,a2_1,a2_2,.int .i64 0,.int .i64 0,.slice none 0 0,.int .i64 0,.bool false],λ_ _ _ _=>?_,rfl,[a0_0,.int .i64 0,a2_0,a2_1,a2_2,.int .i64 0,.int .i64 0,.slice none 0 0,.int .i64 0,.bool false],rfl,⟨[a0_0],[.int .i64 0,a2_0,a2_1,a2_2,.int .i64 0,.int .i64 0,.slice none 0 0,.int .i64 0,.bool false],rfl,q0,⟨[.int .i64 0],[a2_0,a2_1,a2_2,.int .i64 0,.int .i64 0,.slice none 0 0,.int .i64 0,.bool false],rfl,rfl,⟨[a2_0,a2_1,a2_2],[.int .i64 0,.int .i64 0,.slice none 0 0,.int .i64 0,.bool false],rfl,q2,⟨[.int .i64 0,.int .i64 0,.slice none 0 0],[.int .i64 0,.bool false],rfl,(by show Qk _ _ _ _;unfold Qk;exact ⟨none,0,rfl,.inl rfl⟩),⟨[.int .i64 0],[.bool false],rfl,rfl,rfl⟩⟩⟩⟩⟩⟩;simp only [execOp,FO,FC,FW,EU,h,ER,EW]
set_option maxRecDepth 100000 in
theorem A8 {Γ:Cx} {ty:TypeId} {x0:Operand} {y0:Int} {x1:Operand} {y1:Bool} (h0:Od Γ x0 (Va y0)) (h1:Od Γ x1 (Va y1)):OR Tryz.prog (.build 107 #[(0,x0),(1,x1)]) ty Γ (Va (⟨y0,y1⟩:Ab)):=by
 refine OR.val λρ M w r=>?_;obtain ⟨_,_,c0,e0,q0⟩:=h0 ρ M w r;obtain ⟨a0_0,rfl⟩:=Dy (Rep.len q0);obtain ⟨_,_,c1,e1,q1⟩:=h1 ρ M w r;obtain ⟨a1_0,rfl⟩:=Dy (Rep.len q1);have h:=Ap (P:=Tryz.prog) (T:=107) (w:=w) (L:=[(0,1),(1,1)]) (z:=[.int .i64 0,.bool false]) (res:=[a0_0,a1_0]) (l:=[(0,ρ x0),(1,ρ x1)]) (m:=[(0,[a0_0]),(1,[a1_0])]) kr_ kr_ ⟨rfl,An e0 q0,⟨rfl,An e1 q1,trivial⟩⟩ rfl;refine ⟨.agg #[a0_0,a1_0],λ_ _ _ _=>?_,rfl,[a0_0,a1_0],rfl,⟨[a0_0],[a1_0],rfl,q0,q1⟩⟩;simp only [execOp,FO,FC,FW,EU,h,ER,EW]
set_option maxRecDepth 100000 in
theorem Sy {Γ:Cx} {ty:TypeId} {x0:Operand} {y0:Int} {x1:Operand} {y1:Int} (h0:Od Γ x0 (Va y0)) (h1:Od Γ x1 (Va y1)):OR Tryz.prog (.build 155 #[(0,x0),(1,x1)]) ty Γ (Va (⟨y0,y1⟩:Pilots)):=by
 refine OR.val λρ M w r=>?_;obtain ⟨_,_,c0,e0,q0⟩:=h0 ρ M w r;obtain ⟨a0_0,rfl⟩:=Dy (Rep.len q0);obtain ⟨_,_,c1,e1,q1⟩:=h1 ρ M w r;obtain ⟨a1_0,rfl⟩:=Dy (Rep.len q1);have h:=Ap (P:=Tryz.prog) (T:=155) (w:=w) (L:=[(0,1),(1,1)]) (z:=[.int .i64 0,.int .i64 0]) (res:=[a0_0,a1_0]) (l:=[(0,ρ x0),(1,ρ x1)]) (m:=[(0,[a0_0]),(1,[a1_0])]) kr_ kr_ ⟨rfl,An e0 q0,⟨rfl,An e1 q1,trivial⟩⟩ rfl;refine ⟨.agg #[a0_0,a1_0],λ_ _ _ _=>?_,rfl,[a0_0,a1_0],rfl,⟨[a0_0],[a1_0],rfl,q0,q1⟩⟩;simp only [execOp,FO,FC,FW,EU,h,ER,EW]
set_option maxRecDepth 100000 in
theorem bl269_ {Γ:Cx} {ty:TypeId} :OR Tryz.prog (.build 269 #[]) ty Γ (Va (⟨false,(0:Int),false⟩:Ag)):=by
 refine OR.val λρ M w r=>?_;have h:=Ap (P:=Tryz.prog) (T:=269) (w:=w) (L:=[(0,1),(1,1),(2,1)]) (z:=[.bool false,.int .i64 0,.bool false]) (res:=[.bool false,.int .i64 0,.bool false]) (l:=[]) (m:=[]) kr_ kr_ trivial rfl;refine ⟨.agg #[.bool false,.int .i64 0,.bool false],λ_ _ _ _=>?_,rfl,[.bool false,.int .i64 0,.bool false],rfl,⟨[.bool false],[.int .i64 0,.bool false],rfl,rfl,⟨[.int .i64 0],[.bool false],rfl,rfl,rfl⟩⟩⟩;simp only [execOp,FO,FC,FW,EU,h,ER,EW]
set_option maxRecDepth 100000 in
theorem Uc {Γ:Cx} {ty:TypeId} {x0:Operand} {y0:Bool} {x1:Operand} {y1:Int} {x2:Operand} {y2:Bool} (h0:Od Γ x0 (Va y0)) (h1:Od Γ x1 (Va y1)) (h2:Od Γ x2 (Va y2)):OR Tryz.prog (.build 269 #[(0,x0),(1,x1),(2,x2)]) ty Γ (Va (⟨y0,y1,y2⟩:Ag)):=by
 refine OR.val λρ M w r=>?_;obtain ⟨_,_,c0,e0,q0⟩:=h0 ρ M w r;obtain ⟨a0_0,rfl⟩:=Dy (Rep.len q0);obtain ⟨_,_,c1,e1,q1⟩:=h1 ρ M w r;obtain ⟨a1_0,rfl⟩:=Dy (Rep.len q1);obtain ⟨_,_,c2,e2,q2⟩:=h2 ρ M w r;obtain ⟨a2_0,rfl⟩:=Dy (Rep.len q2);have h:=Ap (P:=Tryz.prog) (T:=269) (w:=w) (L:=[(0,1),(1,1),(2,1)]) (z:=[.bool false,.int .i64 0,.bool false]) (res:=[a0_0,a1_0,a2_0]) (l:=[(0,ρ x0),(1,ρ x1),(2,ρ x2)]) (m:=[(0,[a0_0]),(1,[a1_0]),(2,[a2_0])]) kr_ kr_ ⟨rfl,An e0 q0,⟨rfl,An e1 q1,⟨rfl,An e2 q2,trivial⟩⟩⟩ rfl;refine ⟨.agg #[a0_0,a1_0,a2_0],λ_ _ _ _=>?_,rfl,[a0_0,a1_0,a2_0],rfl,⟨[a0_0],[a1_0,a2_0],rfl,q0,⟨[a1_0],[a2_0],rfl,q1,q2⟩⟩⟩;simp only [execOp,FO,FC,FW,EU,h,ER,EW]
end Go.Pn
namespace Go.Pn
open Go Go.RowKit
theorem zc_size {z:Array Value} {n:Nat}:(Builtin.zeroCells z n).size=n * z.size:=by
 simp [Builtin.zeroCells]
theorem growS {P:Program} {N e:Nat} {α:Type} [Rep α] (hc:cal P N=true) (h0:∀ w:World,Calls P N #[.slice none 0 0,.int .i64 0] w λe w'=>e=.returned (.slice none 0 0)/\w'=w)
  (h1:∀ (n:Nat),0 < n->n<=1000000000->∀ w:World,Calls P N #[.slice none 0 0,.int .i64 n] w λen w'=>∃ k q cs,en=.returned (.slice (some ⟨w.heap.size,0,none⟩) 0 k)/\w'=(w.alloc (.cells cs e)).drewN q/\k<=maxLen/\cs.size=k * Rep.sz α) {v0:Int} (hv:0<=v0) (hv2:v0<=1000000000) :
  Sp P N [Qv (.slice none 0 0),Va v0] (Rz (λx:Value=>Qv x) (λx=>[Ow e x ([]:List α)])):=by
 intro vs M w hM hf
 match vs,hf with
 | [a,b],⟨⟨_,ha⟩,hb,_⟩=>
  subst ha;have hb:=Va.int hb;subst hb;obtain ⟨n,rfl⟩:=Int.eq_ofNat_of_zero_le hv;refine ⟨hc,?_⟩;rcases H7 n with rfl | hn
  ·refine (h0 w).mono ?_;rintro en w' ⟨rfl,rfl⟩;exact ⟨_,rfl,Ext.refl _ _,[],by simp,by simp,_,⟨rfl,rfl⟩,[],[],rfl,λu=>.inl ⟨rfl,[],⟨by simp,.inl ⟨rfl,rfl⟩⟩,rfl⟩,rfl⟩
  ·refine (h1 n hn om_ w).mono ?_;rintro en w' ⟨k,q,cs,rfl,rfl,hk,hcs⟩;have hh:((w.alloc (.cells cs e)).drewN q).heap[w.heap.size]?=some (.cells cs e (0,0)):=Bz w _;refine ⟨_,rfl,(Ext.alloc No w _).trans (Ext.drawn _ _ _ (H3 _ _)),[w.heap.size],by simp,λj hj=>?_,_,⟨rfl,rfl⟩,[w.heap.size],[],by simp,λu=>.inl ⟨rfl,[],⟨by simp,.inr ⟨w.heap.size,k,cs,rfl,GH _,hh,GH _,hk,hcs,by simp⟩⟩,rfl⟩,rfl⟩;simp at hj;subst hj;exact ⟨Nat.le_refl _,(E6.1 hh).1⟩
end Go.Pn
namespace Go.Proofs
open Go Go.RowKit
theorem AE (w:World):Calls Tryz.prog 158 #[.slice none 0 0,.int .i64 0] w λe w'=>e=.returned (.slice none 0 0)/\w'=w:=by
 go_enter Tryz.func158,Tryz.ntmps158
 go_wp2
 go_ret
 exact ⟨rfl,rfl⟩
theorem AA (n:Nat) (h:0 < n) (hn:n<=1000000000) (w:World):Calls Tryz.prog 158 #[.slice none 0 0,.int .i64 n] w λe w'=>∃ k q cs,e=.returned (.slice (some ⟨w.heap.size,0,none⟩) 0 k)/\w'=(w.alloc (.cells cs 3)).drewN q/\k<=maxLen/\cs.size=k * 1:=by
 have happ:=λw=>Lib.run_append_nil_zeros (P:=Tryz.prog) w 32 3 32 3 Tryz.t3 (.int .i64 0) .i64 .i64 Tryz.underlying32 Tryz.underlying3 Go.Pn.kr_ Go.Pn.kr_ n h (by decide) Go.Pn.om_ (by show n * 8<=_;omega)
 go_enter Tryz.func158,Tryz.ntmps158
 go_wp2_with (at_builtin;refine Lib.wpList_append_run _ rfl _ _ _ _ rfl _ _ rfl rfl _ _ (happ _) ?_)
 go_ret
 have h1:=grownCap_ge w n 0 3;refine ⟨grownCap w n 0 3,1,_,rfl,rfl,grownCap_le_maxLen w n 0 3 (by unfold maxLen;omega),?_⟩;rw [JL,Pn.zc_size,Pn.zc_size];show n * 1 + (grownCap w n 0 3 - n) * 1=grownCap w n 0 3 * 1;omega
end Go.Proofs
namespace Go.Pn
open Go Go.RowKit Go.Proofs
def m158 (f:Nat) (v0:Int):Option Unit:=if 0<=v0/\v0<=1000000000 then some () else none
end Go.Pn
namespace Go.Proofs
open Go Go.RowKit
end Go.Proofs
namespace Go.Pn
open Go Go.RowKit Go.Proofs
theorem s158 (f:Nat) (v0:Int) (r:Unit) (hm:Pn.m158 f v0=some r):Pn.Sp Tryz.prog 158 [Pn.Qv (.slice none 0 0),Pn.Va v0] (Pn.Rz (λx:Value=>Pn.Qv x) (λx=>[Pn.Ow 3 x ([]:List Int)])):=by
 unfold Pn.m158 at hm;split at hm
 case isFalse=>cases hm
 rename_i hv;refine Pn.growS kr_ (λw=>AE w) (λn h1 h2 w=>AA n h1 h2 w) hv.1 hv.2
end Go.Pn
namespace Go.Proofs
open Go Go.RowKit
theorem AB (w:World):Calls Tryz.prog 220 #[.slice none 0 0,.int .i64 0] w λe w'=>e=.returned (.slice none 0 0)/\w'=w:=by
 go_enter Tryz.func220,Tryz.ntmps220
 go_wp2
 go_ret
 exact ⟨rfl,rfl⟩
theorem Zy (n:Nat) (h:0 < n) (hn:n<=1000000000) (w:World):Calls Tryz.prog 220 #[.slice none 0 0,.int .i64 n] w λe w'=>∃ k q cs,e=.returned (.slice (some ⟨w.heap.size,0,none⟩) 0 k)/\w'=(w.alloc (.cells cs 4)).drewN q/\k<=maxLen/\cs.size=k * 1:=by
 have happ:=λw=>Lib.run_append_nil_zeros (P:=Tryz.prog) w 65 3 65 4 Tryz.t4 (.bool false) .i64 .i64 Tryz.underlying65 Tryz.underlying3 Go.Pn.kr_ Go.Pn.kr_ n h (by decide) Go.Pn.om_ (by show n * 1<=_;omega)
 go_enter Tryz.func220,Tryz.ntmps220
 go_wp2_with (at_builtin;refine Lib.wpList_append_run _ rfl _ _ _ _ rfl _ _ rfl rfl _ _ (happ _) ?_)
 go_ret
 have h1:=grownCap_ge w n 0 4;refine ⟨grownCap w n 0 4,1,_,rfl,rfl,grownCap_le_maxLen w n 0 4 (by unfold maxLen;omega),?_⟩;rw [JL,Pn.zc_size,Pn.zc_size];show n * 1 + (grownCap w n 0 4 - n) * 1=grownCap w n 0 4 * 1;omega
end Go.Proofs
namespace Go.Pn
open Go Go.RowKit Go.Proofs
def m220 (f:Nat) (v0:Int):Option Unit:=if 0<=v0/\v0<=1000000000 then some () else none
end Go.Pn
namespace Go.Proofs
open Go Go.RowKit
end Go.Proofs
namespace Go.Pn
open Go Go.RowKit Go.Proofs
theorem s220 (f:Nat) (v0:Int) (r:Unit) (hm:Pn.m220 f v0=some r):Pn.Sp Tryz.prog 220 [Pn.Qv (.slice none 0 0),Pn.Va v0] (Pn.Rz (λx:Value=>Pn.Qv x) (λx=>[Pn.Ow 4 x ([]:List Bool)])):=by
 unfold Pn.m220 at hm;split at hm
 case isFalse=>cases hm
 rename_i hv;refine Pn.growS kr_ (λw=>AB w) (λn h1 h2 w=>Zy n h1 h2 w) hv.1 hv.2
end Go.Pn
namespace Go.Proofs
open Go Go.RowKit
end Go.Proofs
namespace Go.Pn
open Go Go.RowKit Go.Sort
theorem Chk.ints {M:Nat->Prop} {w:World}:∀ {xs:List Int} {cs:List Value},Chk M w cs xs->cs=xs.map (Value.int .i64)
 | [],_,h=>h
 | x :: xs,_,⟨c,d,rfl,h1,h2⟩=>by
  have h1:c=[.int .i64 x]:=h1;rw [h1,Chk.ints h2];rfl
theorem Chk.ofInts {M:Nat->Prop} {w:World}:∀ {xs:List Int},Chk M w (xs.map (Value.int .i64)) xs
 | []=>rfl
 | x :: xs=>⟨[.int .i64 x],xs.map (Value.int .i64),rfl,rfl,Chk.ofInts⟩
theorem Tt {enc:Int->Value} {w:World} {b:Nat} {d:Array Int} {cur:Array Value} {e:TypeId} {fz:Nat×Nat} (h:w.heap[b]?=some (.cells cur e fz)):(putRow enc w b 0 d).heap[b]?=some (.cells (putCells enc 0 d cur) e fz):=by
 unfold putRow mapBlock;simp only [Array.getElem?_modify,if_true,h,Option.map_some,onCells]
theorem Sc {enc:Int->Value} {w:World} {b k:Nat} {d:Array Int} (h:k≠b):(putRow enc w b 0 d).heap[k]?=w.heap[k]?:=by
 unfold putRow mapBlock;simp only [Array.getElem?_modify];rw [if_neg (λe=>h e.symm)]
theorem Xs {w w':World} {b n:Nat} {d:Array Int} {os:Array Obj} {cur:Array Value} {e:TypeId} (h:w.heap[b]?=some (.cells cur e (0,0))) (hw:w'=grow (putRow (Value.int .i64) (Sort.ahead w n) b 0 d) os) :
  Ext (λk=>k=b) w w'/\w'.heap[b]?=some (.cells (putCells (Value.int .i64) 0 d cur) e (0,0)):=by
 subst hw;have hsz:(putRow (Value.int .i64) (Sort.ahead w n) b 0 d).heap.size=w.heap.size:=by simp [putRow,mapBlock,Sort.ahead]
 have hb:b < w.heap.size:=(E6.1 h).1;refine ⟨⟨rfl,rfl,rfl,?_,λk hk hne=>?_,H3 _ _⟩,?_⟩
 ·simp [grow,hsz]
 ·simp only [grow];rw [JG (by rw [hsz];exact hk),Sc hne];rfl
 ·simp only [grow];rw [JG (by rw [hsz];exact hb)];exact Tt h
theorem Fy {d:Array Int} {cur:Array Value} (h:d.size<=cur.size):(putCells (Value.int .i64) 0 d cur).toList.take d.size=d.toList.map (Value.int .i64):=by
 refine HO λj=>?_;rw [JZ];split
 ·rename_i hj;rw [HL];simp only [putCells,Array.getElem?_mapIdx,FD,HL];rw [G9 om_,G9 hj];simp [hj]
 ·rename_i hj;rw [GC (by simp;omega)]
theorem Ga {enc:Int->Value} {d:Array Int} {cur:Array Value}:(putCells enc 0 d cur).size=cur.size:=by simp [putCells]
theorem Ry {w:World} {g:Nat} {cur:Array Value} {e:TypeId} {zs:List Int} (h:w.heap[g]?=some (.cells cur e (0,0))) (ht:cur.toList.take zs.length=zs.map (Value.int .i64)):Holds (Value.int .i64) w g 0 zs.toArray:=by
 intro j hj;have hj:j < zs.length:=by simpa using hj
 have h1:(cur.toList.take zs.length)[j]?=some (.int .i64 zs[j]):=by rw [ht];simp [hj]
 rw [GZ hj,HL] at h1;refine ⟨?_,?_⟩
 ·simp [World.cell?,h,h1,hj]
 ·simp [World.frozen?,h]
theorem inpl {P:Program} {N e:Nat} {c:Value} {xs:List Int} (hcal:cal P N=true) (F:List Int->List Int) (hlen:∀ zs,(F zs).length=zs.length) (hsm:xs.length < 4611686018427387904)
  (h0:∀ (p:Option Addr) (cap:Nat) (w:World),Calls P N #[.slice p 0 cap] w λen w'=>en=.returned (.tuple #[])/\w'=w)
  (h1:∀ (b cap:Nat) (zs:List Int) (w:World),Holds (Value.int .i64) w b 0 zs.toArray->b < w.heap.size->zs.length < 4611686018427387904->Calls P N #[.slice (some ⟨b,0,none⟩) zs.length cap] w λen w'=>en=.returned (.tuple #[])/\∃ n os,w'=grow (putRow (Value.int .i64) (Sort.ahead w n) b 0 (F zs).toArray) os) :
  Cg P N [Qv c] [Ow e c xs] (Rz (λ_:Unit=>Dd) (λ_=>[Ow e c (F xs)])):=by
 refine ⟨hcal,?_⟩;intro vs M w Ft hM hf ho hnd hFM
 match vs,hf with
 | [v],⟨⟨_,hv⟩,_⟩=>
  have hv:v=c:=hv;subst hv;obtain ⟨F1,_,rfl,hown,rfl⟩:=ho;have hF0:xs=[]->F xs=[]:=λh=>HT.1 (by rw [hlen,h];rfl);rcases hown undef with ⟨hF,cs,hr,hc⟩ | ⟨hF,hx,g,hv⟩
  ·rcases hr.2 with ⟨hn,hx⟩ | ⟨g,cap,cur,hn,_,hg,hle,hcap,hsz,htk⟩
   ·have hx:xs=[]:=HT.1 hx;subst hx;rw [hn];refine (h0 none 0 w).mono ?_;rintro en w' ⟨rfl,rfl⟩;refine ⟨_,F1,rfl,Ext.refl _ _,by simpa using hnd,λk hk=>.inl (by simpa using hk),(),rfl,F1,[],by simp,λu=>?_,rfl⟩;rw [hF0 rfl,← hn];exact (Ow e v []).sb (hown u) (λk _ hk=>by rcases hk with h | h;exact h.1;exact hFM k (by simpa using h))
   ·have hcs:=Chk.ints hc;have hsz1:cur.size=cap:=by rw [hsz];show cap * 1=cap;omega
    have htk1:cur.toList.take xs.length=xs.map (Value.int .i64):=by rw [← hcs,← htk];show _=cur.toList.take (xs.length * 1);rw [HQ]
    have hgl:g < w.heap.size:=(E6.1 hg).1;rw [hn];refine (h1 g cap xs w (Ry hg htk1) hgl hsm).mono ?_;rintro en w' ⟨rfl,n,os,hw⟩;obtain ⟨hx,hb⟩:=Xs hg hw;have hF1:F1=[g]:=by rw [hF,hn];rfl
    subst hF1;refine ⟨_,[g],rfl,hx.mono λk _ hk=>by subst hk;simp,by simp,λk hk=>.inl (by simpa using hk),(),rfl,[g],[],by simp,λu=>.inl ⟨by rw [← hn,hn];rfl,(F xs).map (Value.int .i64),⟨?_,.inr ⟨g,cap,_,?_,GH _,hb,?_,hcap,?_,?_⟩⟩,Chk.ofInts⟩,rfl⟩
    ·rw [FL];exact (HQ _).symm
    ·rw [hlen]
    ·rw [hlen];exact hle
    ·rw [Ga];exact hsz
    ·have:=Fy (d:=(F xs).toArray) (cur:=cur) (by simp [hlen];omega);show _=_;have hm:(F xs).length * Rep.sz Int=(F xs).toArray.size:=by simp;show _ * 1=_;omega
     rw [hm,this]
  ·subst hx;rw [hv];refine (h0 _ 0 w).mono ?_;rintro en w' ⟨rfl,rfl⟩;refine ⟨_,F1,rfl,Ext.refl _ _,by simpa using hnd,λk hk=>.inl (by simpa using hk),(),rfl,F1,[],by simp,λu=>?_,rfl⟩;rw [hF0 rfl,← hv];exact (Ow e v []).sb (hown u) (λk _ hk=>by rcases hk with h | h;exact h.1;exact hFM k (by simpa using h))
end Go.Pn
namespace Go.Proofs
open Go Go.RowKit Go.Shelf Go.Sort
def Tryz.laysSort_ren:Go.Shelf.Ren:=⟨λ| 189=>146 | 125=>169 | 257=>168 | 128=>193 | 129=>176 | 294=>184 | 295=>185 | 296=>186 | 297=>187 | 298=>188 | 299=>189 | 216=>190 | 300=>191 | 301=>192 | 328=>205 | 329=>206 | 330=>207 | 331=>208 | 332=>209 | 215=>210 | 343=>219 | n=>n,λ| 28=>32 | 3=>3 | 46=>159 | 0=>0 | 51=>239 | 53=>213 | 4=>4 | 183=>252 | 182=>251 | 131=>208 | 5=>5 | 9=>9 | 218=>270 | 222=>201 | 228=>279 | 229=>280 | n=>n,λ| n=>n⟩
theorem Tryz.laysSort:Go.Proofs.Lays.n189 Tryz.prog Tryz.laysSort_ren:={
 mixed:=by kernel_rfl
 f125:=Tryz.func169.trans (congrArg some Go.Pn.kr_)
 f128:=Tryz.func193.trans (congrArg some Go.Pn.kr_)
 f129:=Tryz.func176.trans (congrArg some Go.Pn.kr_)
 f189:=Tryz.func146.trans (congrArg some Go.Pn.kr_)
 f215:=Tryz.func210.trans (congrArg some Go.Pn.kr_)
 f216:=Tryz.func190.trans (congrArg some Go.Pn.kr_)
 f257:=Tryz.func168.trans (congrArg some Go.Pn.kr_)
 f294:=Tryz.func184.trans (congrArg some Go.Pn.kr_)
 f295:=Tryz.func185.trans (congrArg some Go.Pn.kr_)
 f296:=Tryz.func186.trans (congrArg some Go.Pn.kr_)
 f297:=Tryz.func187.trans (congrArg some Go.Pn.kr_)
 f298:=Tryz.func188.trans (congrArg some Go.Pn.kr_)
 f299:=Tryz.func189.trans (congrArg some Go.Pn.kr_)
 f300:=Tryz.func191.trans (congrArg some Go.Pn.kr_)
 f301:=Tryz.func192.trans (congrArg some Go.Pn.kr_)
 f328:=Tryz.func205.trans (congrArg some Go.Pn.kr_)
 f329:=Tryz.func206.trans (congrArg some Go.Pn.kr_)
 f330:=Tryz.func207.trans (congrArg some Go.Pn.kr_)
 f331:=Tryz.func208.trans (congrArg some Go.Pn.kr_)
 f332:=Tryz.func209.trans (congrArg some Go.Pn.kr_)
 f343:=Tryz.func219.trans (congrArg some Go.Pn.kr_)
 t0:=Tryz.underlying0
 a0:=Tryz.isAgg0
 z0:=Tryz.sizeOf0
 v0:=Tryz.zeroValue0
 t3:=Tryz.underlying3
 a3:=Tryz.isAgg3
 z3:=Tryz.sizeOf3
 v3:=Tryz.zeroValue3
 t4:=Tryz.underlying4
 a4:=Tryz.isAgg4
 z4:=Tryz.sizeOf4
 v4:=Tryz.zeroValue4
 t5:=Tryz.underlying5
 a5:=Tryz.isAgg5
 z5:=Tryz.sizeOf5
 v5:=Tryz.zeroValue5
 t9:=Tryz.underlying9
 a9:=Tryz.isAgg9
 z9:=Tryz.sizeOf9
 v9:=Tryz.zeroValue9
 t28:=Tryz.underlying32
 a28:=Tryz.isAgg32
 z28:=Tryz.sizeOf32
 v28:=Tryz.zeroValue32
 t46:=Tryz.underlying159
 a46:=Tryz.isAgg159
 z46:=Tryz.sizeOf159
 v46:=Tryz.zeroValue159
 t51:=Tryz.underlying239
 a51:=Tryz.isAgg239
 z51:=Tryz.sizeOf239
 v51:=Tryz.zeroValue239
 t53:=Tryz.underlying213
 a53:=Tryz.isAgg213
 z53:=Tryz.sizeOf213
 v53:=Tryz.zeroValue213
 t131:=Tryz.underlying208
 a131:=Tryz.isAgg208
 z131:=Tryz.sizeOf208
 v131:=Tryz.zeroValue208
 t182:=Tryz.underlying251
 a182:=Tryz.isAgg251
 z182:=Tryz.sizeOf251
 v182:=Tryz.zeroValue251
 t183:=Tryz.underlying252
 a183:=Tryz.isAgg252
 z183:=Tryz.sizeOf252
 v183:=Tryz.zeroValue252
 t218:=Tryz.underlying270
 a218:=Tryz.isAgg270
 z218:=Tryz.sizeOf270
 v218:=Tryz.zeroValue270
 t222:=Tryz.underlying201
 a222:=Tryz.isAgg201
 z222:=Tryz.sizeOf201
 v222:=Tryz.zeroValue201
 t228:=Tryz.underlying279
 a228:=Tryz.isAgg279
 z228:=Tryz.sizeOf279
 v228:=Tryz.zeroValue279
 t229:=Tryz.underlying280
 a229:=Tryz.isAgg280
 z229:=Tryz.sizeOf280
 v229:=Tryz.zeroValue280 }
end Go.Proofs
namespace Go.Pn
open Go Go.RowKit Go.Shelf Go.Sort Go.Proofs
def ins1 (x:Int):List Int->List Int
 | []=>[x]
 | y :: l=>bif decide (x<=y) then x :: y :: l else y :: Pn.ins1 x l
end Go.Pn
namespace Go.Proofs
open Go Go.RowKit Go.Shelf Go.Sort
end Go.Proofs
namespace Go.Pn
open Go Go.RowKit Go.Shelf Go.Sort Go.Proofs
def isort:List Int->List Int
 | []=>[]
 | x :: l=>Pn.ins1 x (Pn.isort l)
end Go.Pn
namespace Go.Proofs
open Go Go.RowKit Go.Shelf Go.Sort
end Go.Proofs
namespace Go.Pn
open Go Go.RowKit Go.Shelf Go.Sort Go.Proofs
theorem ins1_perm (x:Int):∀ l:List Int,(Pn.ins1 x l).Perm (x :: l)
 | []=>.refl _
 | y :: l=>by
  unfold Pn.ins1;cases decide (x<=y) with
  | true=>exact .refl _
  | false=>exact ((Pn.ins1_perm x l).cons y).trans (.swap x y l)
end Go.Pn
namespace Go.Proofs
open Go Go.RowKit Go.Shelf Go.Sort
end Go.Proofs
namespace Go.Pn
open Go Go.RowKit Go.Shelf Go.Sort Go.Proofs
theorem isort_perm:∀ l:List Int,(Pn.isort l).Perm l
 | []=>.refl _
 | x :: l=>(Pn.ins1_perm x _).trans ((Pn.isort_perm l).cons x)
end Go.Pn
namespace Go.Proofs
open Go Go.RowKit Go.Shelf Go.Sort
end Go.Proofs
namespace Go.Pn
open Go Go.RowKit Go.Shelf Go.Sort Go.Proofs
theorem ins1_pw (x:Int):∀ l:List Int,l.Pairwise (·<=·)->(Pn.ins1 x l).Pairwise (·<=·)
 | [],_=>by unfold Pn.ins1;simp
 | y :: l,h=>by
  obtain ⟨h1,h2⟩:=HK.1 h;unfold Pn.ins1;by_cases hx:x<=y
  ·rw [decide_eq_true hx,cond_true];refine HK.2 ⟨λz hz=>?_,h⟩;rcases FG.1 hz with rfl | hz
   ·exact hx
   ·have:=h1 z hz;omega
  ·rw [decide_eq_false hx,cond_false];refine HK.2 ⟨λz hz=>?_,Pn.ins1_pw x l h2⟩;rcases FG.1 ((Pn.ins1_perm x l).mem_iff.1 hz) with rfl | hz
   ·omega
   ·exact h1 z hz
end Go.Pn
namespace Go.Proofs
open Go Go.RowKit Go.Shelf Go.Sort
end Go.Proofs
namespace Go.Pn
open Go Go.RowKit Go.Shelf Go.Sort Go.Proofs
theorem isort_pw:∀ l:List Int,(Pn.isort l).Pairwise (·<=·)
 | []=>.nil
 | x :: l=>Pn.ins1_pw x _ (Pn.isort_pw l)
end Go.Pn
namespace Go.Proofs
open Go Go.RowKit Go.Shelf Go.Sort
end Go.Proofs
namespace Go.Pn
open Go Go.RowKit Go.Shelf Go.Sort Go.Proofs
theorem isort_eq (xs:List Int):Pn.isort xs=xs.mergeSort λx y=>decide (x<=y):=by
 have h:(xs.mergeSort λx y=>decide (x<=y)).Pairwise (λa b:Int=>a<=b):=(List.pairwise_mergeSort (le:=λx y:Int=>decide (x<=y)) (λa b c h1 h2=>by simp at h1 h2 ⊢;omega) (λa b=>by simp;omega) xs).imp λh=>by simpa using h
 exact List.Perm.eq_of_pairwise (λa b _ _ h1 h2=>Int.le_antisymm h1 h2) (Pn.isort_pw xs) h ((Pn.isort_perm xs).trans (List.mergeSort_perm xs _).symm)
end Go.Pn
namespace Go.Proofs
open Go Go.RowKit Go.Shelf Go.Sort
end Go.Proofs
namespace Go.Pn
open Go Go.RowKit Go.Shelf Go.Sort Go.Proofs
def m146 (f:Nat) (v0:List Int):Option (List Int):=if v0.length<=1000000000 then some (Pn.isort v0) else none
end Go.Pn
namespace Go.Proofs
open Go Go.RowKit Go.Shelf Go.Sort
end Go.Proofs
namespace Go.Pn
open Go Go.RowKit Go.Shelf Go.Sort Go.Proofs
theorem s146 (f:Nat) (n0:Value) (v0:List Int) (r:List Int) (hm:Pn.m146 f v0=some r):Pn.Cg Tryz.prog 146 [Pn.Qv n0] [Pn.Ow 3 n0 (v0)] (Pn.Rz (λx:Unit=>Pn.Dd) (λx=>[Pn.Ow 3 n0 (r)])):=by
 unfold Pn.m146 at hm;split at hm
 case isFalse=>cases hm
 rename_i hb;obtain rfl:=Option.some.inj hm;rw [Pn.isort_eq];exact Pn.inpl kr_ (λxs=>xs.mergeSort λx y=>decide (x<=y)) (λzs=>List.length_mergeSort zs) om_ (λp cap w=>Any.slices_Sort_int_none Tryz.laysSort p cap w) (λb cap zs w h1 h2 h3=>Any.slices_Sort_int Tryz.laysSort b 0 cap zs w h1 h2 h3)
end Go.Pn
namespace Go.Proofs
open Go Go.RowKit Go.Shelf Go.Sort
end Go.Proofs
namespace Go.Pn
open Go Go.RowKit Go.Sort
theorem inpc {P:Program} {N e:Nat} {c:Value} {xs:List Int} (hcal:cal P N=true) (F:List Int->List Int) (hlen:∀ zs,(F zs).length<=zs.length) (hsm:xs.length<=9223372036854775807)
  (h0:∀ (p:Option Addr) (cap:Nat) (w:World),Calls P N #[.slice p 0 cap] w λen w'=>en=.returned (.slice p 0 cap)/\w'=w)
  (h1:∀ (b cap:Nat) (zs:List Int) (w:World),Holds (Value.int .i64) w b 0 zs.toArray->zs.length<=9223372036854775807->zs.length<=cap->Calls P N #[.slice (some ⟨b,0,none⟩) zs.length cap] w λen w'=>en=.returned (.slice (some ⟨b,0,none⟩) (F zs).length cap)/\∃ n,w'=putRow (Value.int .i64) (Sort.ahead w n) b 0 (F zs ++ List.replicate (zs.length - (F zs).length) 0).toArray) :
  Cg P N [Qv c] [Ow e c xs] (Rz (λx:Value=>Qv x) (λx=>[Ow e x (F xs)])):=by
 refine ⟨hcal,?_⟩;intro vs M w Ft hM hf ho hnd hFM
 match vs,hf with
 | [v],⟨⟨_,hv⟩,_⟩=>
  have hv:v=c:=hv;subst hv;obtain ⟨F1,_,rfl,hown,rfl⟩:=ho;have hF0:xs=[]->F xs=[]:=λh=>HT.1 (by have:=hlen xs;rw [h] at this ⊢;simpa using this);rcases hown undef with ⟨hF,cs,hr,hc⟩ | ⟨hF,hx,g,hv⟩
  ·rcases hr.2 with ⟨hn,hx⟩ | ⟨g,cap,cur,hn,_,hg,hle,hcap,hsz,htk⟩
   ·have hx:xs=[]:=HT.1 hx;subst hx;rw [hn];refine (h0 none 0 w).mono ?_;rintro en w' ⟨rfl,rfl⟩;refine ⟨_,F1,rfl,Ext.refl _ _,by simpa using hnd,λk hk=>.inl (by simpa using hk),v,⟨rfl,hn.symm⟩,F1,[],by simp,λu=>?_,rfl⟩;rw [hF0 rfl];exact (Ow e v []).sb (hown u) (λk _ hk=>by rcases hk with h | h;exact h.1;exact hFM k (by simpa using h))
   ·have hcs:=Chk.ints hc;have hsz1:cur.size=cap:=by rw [hsz];show cap * 1=cap;omega
    have htk1:cur.toList.take xs.length=xs.map (Value.int .i64):=by rw [← hcs,← htk];show _=cur.toList.take (xs.length * 1);rw [HQ]
    have hgl:g < w.heap.size:=(E6.1 hg).1;have hl:=hlen xs;rw [hn];refine (h1 g cap xs w (Ry hg htk1) hsm hle).mono ?_;rintro en w' ⟨rfl,n,hw⟩;obtain ⟨hx,hb⟩:=Xs (os:=#[]) hg (hw.trans (Sort.grow_empty _).symm);have hF1:F1=[g]:=by rw [hF,hn];rfl
    subst hF1;refine ⟨_,[g],rfl,hx.mono λk _ hk=>by subst hk;simp,by simp,λk hk=>.inl (by simpa using hk),_,⟨rfl,rfl⟩,[g],[],by simp,λu=>.inl ⟨rfl,(F xs).map (Value.int .i64),⟨?_,.inr ⟨g,cap,_,rfl,GH _,hb,?_,hcap,?_,?_⟩⟩,Chk.ofInts⟩,rfl⟩
    ·rw [FL];exact (HQ _).symm
    ·omega
    ·rw [Ga];exact hsz
    ·have:=Fy (d:=(F xs ++ List.replicate (xs.length - (F xs).length) 0).toArray) (cur:=cur) (by simp;omega);have h2:=congrArg (List.take (F xs).length) this;rw [List.take_take,Nat.min_eq_left As] at h2;have hm:(F xs).length * Rep.sz Int=(F xs).length:=HQ _;rw [hm,h2];simp
  ·subst hx;rw [hv];refine (h0 _ 0 w).mono ?_;rintro en w' ⟨rfl,rfl⟩;refine ⟨_,F1,rfl,Ext.refl _ _,by simpa using hnd,λk hk=>.inl (by simpa using hk),v,⟨rfl,hv.symm⟩,F1,[],by simp,λu=>?_,rfl⟩;rw [hF0 rfl];exact (Ow e v []).sb (hown u) (λk _ hk=>by rcases hk with h | h;exact h.1;exact hFM k (by simpa using h))
end Go.Pn
namespace Go.Proofs
open Go Go.RowKit Go.Shelf Go.Sort
def Tryz.laysCompact_ren:Go.Shelf.Ren:=⟨λ| 20=>147 | n=>n,λ| 22=>32 | 3=>3 | 4=>4 | 0=>0 | n=>n,λ| n=>n⟩
theorem Tryz.laysCompact:Go.Proofs.Lays2.n20 Tryz.prog Tryz.laysCompact_ren:={
 mixed:=by kernel_rfl
 f20:=Tryz.func147.trans (congrArg some Go.Pn.kr_)
 t0:=Tryz.underlying0
 a0:=Tryz.isAgg0
 z0:=Tryz.sizeOf0
 v0:=Tryz.zeroValue0
 t3:=Tryz.underlying3
 a3:=Tryz.isAgg3
 z3:=Tryz.sizeOf3
 v3:=Tryz.zeroValue3
 t4:=Tryz.underlying4
 a4:=Tryz.isAgg4
 z4:=Tryz.sizeOf4
 v4:=Tryz.zeroValue4
 t22:=Tryz.underlying32
 a22:=Tryz.isAgg32
 z22:=Tryz.sizeOf32
 v22:=Tryz.zeroValue32
 i3:=by kernel_rfl }
end Go.Proofs
namespace Go.Pn
open Go Go.RowKit Go.Shelf Go.Sort Go.Proofs
def m147 (f:Nat) (v0:List Int):Option (List Int):=if v0.length<=1000000000 then some (Lib.compact v0) else none
end Go.Pn
namespace Go.Proofs
open Go Go.RowKit Go.Shelf Go.Sort
end Go.Proofs
namespace Go.Pn
open Go Go.RowKit Go.Shelf Go.Sort Go.Proofs
theorem compact_le (zs:List Int):(Lib.compact zs).length<=zs.length:=by
 unfold Lib.compact Lib.compactUpTo;rw [FL];exact F6 (JR _ _) As
end Go.Pn
namespace Go.Proofs
open Go Go.RowKit Go.Shelf Go.Sort
end Go.Proofs
namespace Go.Pn
open Go Go.RowKit Go.Shelf Go.Sort Go.Proofs
theorem s147 (f:Nat) (n0:Value) (v0:List Int) (r:List Int) (hm:Pn.m147 f v0=some r):Pn.Cg Tryz.prog 147 [Pn.Qv n0] [Pn.Ow 3 n0 (v0)] (Pn.Rz (λx:Value=>Pn.Qv x) (λx=>[Pn.Ow 3 x (r)])):=by
 unfold Pn.m147 at hm;split at hm
 case isFalse=>cases hm
 rename_i hb;obtain rfl:=Option.some.inj hm;exact Pn.inpc kr_ Lib.compact Pn.compact_le om_ (λp cap w=>Any.slices_Compact_int_empty Tryz.laysCompact p cap w) (λb cap zs w h1 h2 h3=>Any.slices_Compact_int Tryz.laysCompact b 0 cap zs w h1 h2 h3)
end Go.Pn
namespace Go.Proofs
open Go Go.RowKit Go.Shelf Go.Sort
end Go.Proofs
namespace Go.Pn
open Go Go.RowKit Go.Proofs
def m164 (f:Nat) (v0:Int):Option Int:=some v0
theorem s164 (f:Nat) (v0:Int) (r:Int) (hm:m164 f v0=some r):Sp Tryz.prog 164 [Va (v0)] (Fv1 165 r):=by
 obtain rfl:=si hm;refine ens Tryz.func164 kr_ rfl Tryz.ntmps164 rfl rfl λM w_0 a hM hD s=>?_;refine se (rg (sq s (bx (t rfl)) rfl λa w s=>sq s (saq cq) rfl λa w s=>nl ?_));refine se (rg (nmk (d:=1) 1000 s rfl rfl λc s=>sq s (mkf rfl rfl qn (qc (t rfl) qn)) rfl λa w s=>sq s (saq (t rfl)) rfl λa w s=>nl ?_));replace s:=tv (d:=2) s (fvi (k:=1000) (t rfl) rfl);refine wpIn_ret ?_;exact rn hD s rfl (rv1 (rt rfl))
end Go.Pn
namespace Go.Pn
open Go Go.RowKit
variable {rr:Option Nat}
def Dk (D:Nat):Ent where
 p F _ w _:=F=[D]/\w.heap[D]?=some (.deferred (some []))
 st h e:=by
  obtain ⟨rfl,h⟩:=h;exact ⟨rfl,by rw [e.block D (E6.1 h).1 As];exact h⟩
 sb h _:=h
def Lr (l:Nat) (r:Loop):Ent where
 p F _ w _:=F=[l]/\w.heap[l]?=some (.loop r)
 st h e:=by
  obtain ⟨rfl,h⟩:=h;exact ⟨rfl,by rw [e.block l (E6.1 h).1 As];exact h⟩
 sb h _:=h
instance {l:Nat} {r:Loop}:Gh (Lr l r):=⟨λh _=>h⟩
def Tm (tm:Array Value) (Γt:Cx):Ent where
 p F M w _:=F=[]/\∀ t e,Am Γt t=some e->e.p [] M w (tm.getD t undef)
 st h x:=⟨h.1,λt e he=>e.st (h.2 t e he) (x.mono λk _ hk=>⟨hk.1,by simp⟩)⟩
 sb h s:=⟨h.1,λt e he=>e.sb (h.2 t e he) s⟩
instance {tm:Array Value} {Γt:Cx}:Gh (Tm tm Γt):=⟨λh _=>h⟩
def Pk {X:Type} (G:X->List Ent):Ent where
 p F M w _:=∃ x,Hy M w (G x) F
 st h x:=let ⟨y,h⟩:=h;⟨y,h.st x⟩
 sb h s:=let ⟨y,h⟩:=h;⟨y,h.sb s⟩
def Ha:List Nat->List Ent->Mp->Mp
 | k :: ks,e :: es,g=>put k e (Ha ks es g)
 | _,_,g=>g
theorem Jl {k:Nat} {e:Ent} {ks:List Nat} {es:List Ent} {g:Mp}:Ha (k :: ks) (e :: es) g=put k e (Ha ks es g):=by
 conv=>lhs;unfold Ha
theorem Bv {Γ:Cx}:∀ {ks:List Nat} {es:List Ent},Am (Hb ks es Γ)=Ha ks es (Am Γ)
 | [],_=>by unfold Hb Ha;rfl
 | _ :: _,[]=>by unfold Hb Ha;rfl
 | k :: ks,e :: es=>by unfold Hb Ha;rw [Aj,Bv]
theorem Dj {g g':Mp}:∀ {ks:List Nat} {es:List Ent} {t:Nat} {e:Ent},ks.length=es.length->(∀ e,t ∉ ks->g t=some e->g' t=some e)->Ha ks es g t=some e->Ha ks es g' t=some e
 | [],[],t,e,_,h,k=>by
  unfold Ha at k ⊢;exact h e As k
 | k :: ks,x :: es,t,e,hl,h,q=>by
  unfold Ha at q ⊢;unfold put at q ⊢;split
  ·rename_i ht;rw [if_pos ht] at q;exact q
  ·rename_i ht;rw [if_neg ht] at q;exact Dj (by simpa using hl) (λe hn he=>h e (by simp [ht,hn]) he) q
section
variable {P:Program} {M0:Fm} {w0:World} {n:Nat} {Γ:Cx} {Q:Exit->Act->World->Prop} {a:Act} {w:World} {ty:TypeId}
theorem StM.add1 {g:Mp} {M:Nat->Prop} {φ:Nat->List Nat} {k:Nat} {e:Ent} {F:List Nat} (h:StM M0 w0 n g a w M φ) (hp:e.p F M w (a.get k)) (hn:F.Nodup) (hF:∀ q∈F,M q/\(w0.heap.size<=q\/M0.b q))
  (hd:∀ t,t≠k->(g t).isSome=true->∀ q∈φ t,q ∉ F):StM M0 w0 n (put k e g) a w M (λt=>if t=k then F else φ t):=by
 refine ⟨λt e' he=>?_,λt ht=>?_,λt s hts ht hs=>?_,h.sub,h.bd,h.fr,h.sz,h.df⟩
 ·unfold put at he;by_cases hk:t=k
  ·subst hk;simp only [if_true,Option.some.injEq] at he ⊢;subst he;exact hp
  ·simp only [if_neg hk] at he ⊢;exact h.holds t e' he
 ·by_cases hk:t=k
  ·subst hk;simp only [if_true];exact ⟨hn,hF⟩
  ·simp only [put,if_neg hk] at ht ⊢;exact h.own t ht
 ·by_cases hk:t=k
  ·subst hk;simp only [if_true,if_neg (Ne.symm hts)];simp only [put,if_neg (Ne.symm hts)] at hs;exact λq hq hq'=>hd s (Ne.symm hts) hs q hq' hq
  ·by_cases hk2:s=k
   ·subst hk2;simp only [if_true,if_neg hk];simp only [put,if_neg hk] at ht;exact λq hq=>hd t hk ht q hq
   ·simp only [put,if_neg hk,if_neg hk2] at ht hs ⊢;exact h.apart t s hts ht hs
theorem StM.addG {g:Mp} {M:Nat->Prop} {φ:Nat->List Nat} (h:StM M0 w0 n g a w M φ):∀ {ks:List Nat} {Gs:List Ent} {Ft:List Nat},ks.length=Gs.length->dis ks=true->Hy M w Gs Ft->Ft.Nodup ->
  (∀ q∈Ft,M q/\(w0.heap.size<=q\/M0.b q))->(∀ t,(g t).isSome=true->∀ q∈φ t,q ∉ Ft) ->
  ∃ φ',StM M0 w0 n (Ha ks Gs g) a w M φ'/\∀ t q,(Ha ks Gs g t).isSome=true->q∈φ' t->((g t).isSome=true/\q∈φ t)\/(t∈ks/\q∈Ft)
 | [],[],Ft,_,_,_,_,_,_=>⟨φ,by unfold Ha;exact h,λt q ht hq=>.inl ⟨by unfold Ha at ht;exact ht,hq⟩⟩
 | k :: ks,e :: Gs,Ft,hl,hd,⟨F,F',hFF,h1,h2⟩,hn,hF,hdj=>by
  subst hFF;obtain ⟨hd1,hd2⟩:=Av hd;obtain ⟨n1,n2,n3⟩:=H9.1 hn;obtain ⟨φ',i1,i2⟩:=h.addG (by simpa using hl) hd2 h2 n2 (λq hq=>hF q (FK _ hq)) (λt ht q hq hm=>hdj t ht q hq (FK _ hm));refine ⟨λt=>if t=k then F else φ' t,?_,?_⟩
  ·unfold Ha;refine i1.add1 (h1 _) n1 (λq hq=>hF q (FJ _ hq)) λt hne ht q hq hqF=>?_;rcases i2 t q ht hq with ⟨h3,h4⟩ | ⟨_,h4⟩
   ·exact hdj t h3 q h4 (FJ _ hqF)
   ·exact n3 q hqF q h4 rfl
  ·intro t q ht hq;by_cases hk:t=k
   ·subst hk;simp only [if_true] at hq;exact .inr ⟨List.mem_cons_self ..,FJ _ hq⟩
   ·simp only [if_neg hk] at hq;unfold Ha put at ht;rw [if_neg hk] at ht;rcases i2 t q ht hq with h3 | ⟨h3,h4⟩
    ·exact .inl h3
    ·exact .inr ⟨List.mem_cons_of_mem _ h3,FK _ h4⟩
theorem StM.called0 (hM:Bd M0 w0) {M:Nat->Prop} {φ:Nat->List Nat} {ks js:List Nat} {G G':List Ent} {w':World} {Fq:List Nat} (h:StM M0 w0 n (Am Γ) a w M φ) (hk:Kg (Am Γ) ks G) (hd:dis ks=true)
  (hx:Ext (λk=>k∈(ks.map φ).flatten) w w') (hn:Fq.Nodup) (hF:∀ k∈Fq,k∈(ks.map φ).flatten\/(w.heap.size<=k/\k < w'.heap.size))
  (ho:Hy (λk=>(M k/\k ∉ (ks.map φ).flatten)\/k∈Fq) w' G' Fq) (hl:js.length=G'.length) (hjs:dis js=true) (hkj:∀ k∈ks,k∈js):St M0 w0 n (Hb js G' Γ) a w':=by
 obtain ⟨o1,o2,o3,o4⟩:=Kg.owns h hk hd;have base:StM M0 w0 n (λt=>if t∈js then none else Am Γ t) a w' (λk=>(M k/\k ∉ (ks.map φ).flatten)\/k∈Fq) φ:=by
  have at':∀ t,((if t∈js then none else Am Γ t):Option Ent).isSome=true->t ∉ js/\(Am Γ t).isSome=true:=λt ht=>by
   by_cases hj:t∈js
   ·rw [if_pos hj] at ht;cases ht
   ·rw [if_neg hj] at ht;exact ⟨hj,ht⟩
  refine ⟨λt e he=>?_,λt ht=>?_,λt s hts ht hs=>h.apart t s hts (at' t ht).2 (at' s hs).2,λk hk=>?_,λk hk=>?_,?_,h.sz,h.df⟩
  ·have h3:=at' t (by rw [he];rfl);simp only [if_neg h3.1] at he;have hnl:=o4 t h3.2 λhm=>h3.1 (hkj t hm);have e1:e.p (φ t) (λk=>M k\/(w.heap.size<=k)) w (a.get t):=Ent.sb _ (h.holds t e he) λk hk hm=>hm.elim id λh=>by omega
   have e2:e.p (φ t) (λk=>M k\/(w.heap.size<=k)) w' (a.get t):=Ent.st _ e1 (hx.mono λk _ hk=>⟨.inl (o3 k hk).1,λhm=>hnl k hm hk⟩);refine Ent.sb _ e2 λk hk hm=>?_;rcases hm with hm | hm
   ·exact .inl hm.1
   ·rcases hF k hm with h5 | h5
    ·exact .inl (o3 k h5).1
    ·exact .inr h5.1
  ·have h3:=at' t ht;have:=h.own t h3.2;exact ⟨this.1,λk hk=>⟨.inl ⟨(this.2 k hk).1,o4 t h3.2 (λhm=>h3.1 (hkj t hm)) k hk⟩,(this.2 k hk).2⟩⟩
  ·refine .inl ⟨h.sub k hk,λhm=>?_⟩;rcases (o3 k hm).2 with h5 | h5
   ·have:=hM.1 k hk;omega
   ·exact hM.2 k h5 hk
  ·rcases hk with hk | hk
   ·exact FS (h.bd k hk.1) hx.size
   ·rcases hF k hk with h5 | h5
    ·exact FS (h.bd k (o3 k h5).1) hx.size
    ·exact h5.2
  ·exact ⟨hx.os.trans h.fr.os,hx.tape.trans h.fr.tape,hx.output.trans h.fr.output,F6 h.fr.size hx.size,λk hk hb=>
    (hx.block k (FS hk h.fr.size) λhm=>(o3 k hm).2.elim (λh5=>by omega) hb).trans (h.fr.block k hk hb),F6 h.fr.dr hx.dr⟩
 obtain ⟨φ',h1,_⟩:=base.addG hl hjs ho hn (λq hq=>⟨.inr hq,by
   rcases hF q hq with h5 | h5
   ·exact (o3 q h5).2
   ·exact .inl (F6 h.fr.size h5.1)⟩) (λt ht q hq hm=>by
   by_cases hj:t∈js
   ·rw [if_pos hj] at ht;cases ht
   ·rw [if_neg hj] at ht;rcases hF q hm with h5 | h5
    ·exact o4 t ht (λhm=>hj (hkj t hm)) q hq h5
    ·have:=h.bd q ((h.own t ht).2 q hq).1;omega)
 refine StF.less (g:=Ha js G' λt=>if t∈js then none else Am Γ t) ⟨_,φ',h1⟩ λt e he=>?_
 rw [Bv] at he;exact Dj hl (λe hn he=>by rw [if_neg hn];exact he) he
theorem StM.newb {g:Mp} {M:Nat->Prop} {φ:Nat->List Nat} {k:Nat} {e:Ent} {o:Obj} (h:StM M0 w0 n g a w M φ) (he:∀ M',e.p [w.heap.size] M' (w.alloc o) (a.get k)):StF M0 w0 n (put k e g) a (w.alloc o):=by
 have hx:Ext No w (w.alloc o):=Ext.alloc _ _ _;refine ⟨λq=>M q\/q=w.heap.size,λt=>if t=k then [w.heap.size] else φ t,λt e' he'=>?_,λt ht=>?_,λt s hts ht hs=>?_,λq hq=>.inl (h.sub q hq),λq hq=>?_,h.fr.trans hx.no,h.sz,h.df⟩
 ·unfold put at he';by_cases hk:t=k
  ·subst hk;simp only [if_true,Option.some.injEq] at he' ⊢;subst he';exact he _
  ·simp only [if_neg hk] at he' ⊢;refine Ent.st _ (Ent.sb _ (h.holds t e' he') (M':=λq=>M q\/q=w.heap.size) ?_) (hx.mono λ_ _ f=>f.elim);rintro q hq (hm | hm)
   ·exact hm
   ·omega
 ·by_cases hk:t=k
  ·subst hk;simp only [if_true];exact ⟨by simp,λq hq=>by simp at hq;subst hq;exact ⟨.inr rfl,.inl h.fr.size⟩⟩
  ·simp only [put,if_neg hk] at ht ⊢;have:=h.own t ht;exact ⟨this.1,λq hq=>⟨.inl (this.2 q hq).1,(this.2 q hq).2⟩⟩
 ·have key:∀ s,(g s).isSome=true->∀ q∈φ s,q≠w.heap.size:=λs hs q hq e=>by
   have:=h.bd q ((h.own s hs).2 q hq).1;omega
  by_cases hk:t=k
  ·subst hk;simp only [if_true,if_neg (Ne.symm hts)];simp only [put,if_neg (Ne.symm hts)] at hs;exact λq hq hq'=>by simp at hq;exact key s hs q hq' hq
  ·by_cases hk2:s=k
   ·subst hk2;simp only [if_true,if_neg hk];simp only [put,if_neg hk] at ht;exact λq hq hq'=>by simp at hq';exact key t ht q hq hq'
   ·simp only [put,if_neg hk,if_neg hk2] at ht hs ⊢;exact h.apart t s hts ht hs
 ·rcases hq with hq | hq
  ·exact FS (h.bd q hq) hx.size
  ·subst hq;simp
def Cy (P:Program) (l:Nat) (ps G:List Ent) (R:Ent):Prop:=
 ∀ (vs:List Value) (M:Nat->Prop) (w:World) (Ft:List Nat),(∀ k,M k->k < w.heap.size)->Ql M w ps vs->Hy M w G Ft->Ft.Nodup->(∀ k∈Ft,M k) ->
  ∃ fn tmps assign body,(Instr.yield l vs.toArray).run P w=.ok (.round l fn tmps assign body) w /\
   RoundIn (Fr none) 0 P l fn tmps assign body w (Pst ⟨λk=>M k/\k ∉ Ft,λk=>k∈Ft,[]⟩ w R)
@[reducible] def yv (l:Nat):Value:=.func (.yield l) #[] #[]
theorem cgy {ops:Array Oper} {rest:List Oper} {x:Operand} {l:Nat} {A:Array TypeId} {args:Array Operand} {xs:List Operand} {ps G:List Ent} {X:Type} {eo:X->Ent} {G':X->List Ent} {d:Nat} {pos:String} {aft:Array Edge} (ks js:List Nat)
  (hM:Bd M0 w0) (hs:St M0 w0 n Γ a w) (hx:Od Γ x (Qv (yv l))) (ha:args.toList=xs) (h:Odl Γ xs ps) (c:Cy P l ps G (Rz eo G')) (hk:Kg (Am Γ) ks G) (hd:dis ks=true) (hl:∀ x,js.length=(G' x).length) (hjs:dis (d :: js)=true) (hkj:(ks.all λk=>js.any (Nat.beq k))=true) (hn:Nat.blt d n=true)
  (k:∀ x a' w',St M0 w0 n ((d,eo x) :: Hb js (G' x) Γ) a' w'->wpListIn (Fr rr) 0 P ops Q rest a' w'):wpListIn (Fr rr) 0 P ops Q (⟨some d,.call { callee:=.value x,args:=args,argTypes:=A },ty,pos,aft,none⟩ :: rest) a w:=by
 refine wpListIn_plain rfl λKc hK=>?_;subst ha;obtain ⟨M,φ,hs⟩:=hs;obtain ⟨_,_,hv⟩:=hx _ _ _ hs.rd;obtain ⟨o1,o2,o3,o4⟩:=Kg.owns hs hk hd;obtain ⟨fn,tm,asg,bd,hy,hR⟩:=c _ M w _ hs.bd (h.fits hs.rd) o1 o2 (λk hk=>(o3 k hk).1);refine ⟨λ_ _=>trivial,?_⟩;have hrun:((⟨some d,.call { callee:=.value x,args:=args,argTypes:=A },ty,pos,aft,none⟩:Oper).semAt (Fr rr).round a.eval).run P w=.ok (.round l fn tm asg bd) w:=by
  rw [Oper.semAt_eq _ _ _ (by intro c;simp),← hy];simp [execOp,resolve,Deferred.ofValue,hv,invoke];congr 2;apply Array.ext';simp
 rw [hrun];refine ⟨Tj,RoundIn.mono (F:=Fr rr) hR ?_⟩;rintro en w' ⟨v,Fq,rfl,hx,hnd,hF,x,hp,ho⟩;refine hK _ _ (k x _ _ ?_);exact hs.called hM hk hd (FA hn) hx hnd hF hp ho (hl x) hjs λk hk'=>by
  have:=E8.1 hkj k hk';obtain ⟨j,hj,hb⟩:=E7.1 this;rw [G0 hb];exact hj
theorem St.putRec {K l:Nat} {r r':Loop} (hs:St M0 w0 n Γ a w) (hk:Am Γ K=some (Lr l r)):w.heap[l]?=some (.loop r)/\St M0 w0 n ((K,Lr l r') :: Γ) a (w.putObj l (.loop r')):=by
 obtain ⟨M,φ,h⟩:=hs;obtain ⟨hF,hc⟩:=h.holds K _ hk;refine ⟨hc,?_⟩;unfold St;rw [Aj];exact h.write (b:=l) (by rw [hk];rfl) (by rw [hF];simp) ⟨rfl,rfl,rfl,by simp,λq _ hq=>H6 hq,FH _⟩ ⟨hF,World.putObj_heap_same (E6.1 hc).1⟩
theorem bgn {K l:Nat} {r:Loop} {body:Code} (hs:St M0 w0 n Γ a w) (hk:Am Γ K=some (Lr l r)) (hr:r.state=.ready)
  (h:∀ RB w',RB=Lr l { r with state:=.busy }->St M0 w0 n ((K,RB) :: Γ) a w'->body.wpIn (Fr (some l)) 0 P Q a w'):∃ w₂,(Instr.beginRound l).run P w=.ok () w₂/\body.wpIn (Fr (some l)) 0 P Q a w₂:=by
 obtain ⟨h1,h2⟩:=hs.putRec (r':={ r with state:=.busy }) hk;exact ⟨_,run_beginRound h1 hr,h _ _ rfl h2⟩
def stj:Nat->LoopState
 | 0=>.ready
 | _ + 1=>.done
def isz:Nat->Bool
 | 0=>true
 | _ + 1=>false
def jmp (js:List Code) (j:Nat):Option Code:=match j with | 0=>none | k + 1=>js[k]?
@[reducible] def rcd (fn D:Nat) (tm:Array Value) (ps:Array Tmp) (asx bd:Code) (st:LoopState) (pd:Option Code):Loop:=⟨st,pd,fn,tm,ps,asx,bd,D⟩
def RE (l fn D:Nat) (tm:Array Value) (ps:Array Tmp) (asx bd:Code) (Γt:Cx) (js:List Code) {X σ:Type} (G:σ->X->List Ent) (s:σ×Nat):Ent:=
 Pk λx=>Lr l (rcd fn D tm ps asx bd (stj s.2) (jmp js s.2)) :: Tm tm Γt :: G s.1 x
instance {l fn D:Nat} {tm:Array Value} {ps:Array Tmp} {asx bd:Code} {Γt:Cx} {js:List Code} {X σ:Type} {G:σ->X->List Ent} {s:σ×Nat}:Gh (RE l fn D tm ps asx bd Γt js G s):=⟨λh _=>h⟩
theorem pstG {X:Type} {eo:X->Ent} {G':X->List Ent} (x:X) (ks:List Nat) {G:List Ent} (hM:Bd M0 w0) (hs:St M0 w0 n Γ a w) (hk:Kg (Am Γ) ks G) (hd:dis ks=true) {v:Value} (hv:∀ M w,(eo x).p [] M w v)
  (hG:∀ M w F,Hy M w G F->Hy M w (G' x) F):Pst M0 w0 (Rz eo G') (.returned v) w:=by
 obtain ⟨M,φ,h0⟩:=hs;obtain ⟨i1,i2,i3,_⟩:=Kg.owns h0 hk hd;have hs:∀ k,k < w.heap.size->(M0.k k\/k∈(ks.map φ).flatten)->M k:=λk _ hk=>hk.elim (h0.sub k) λh=>(i3 k h).1;exact ⟨v,_,rfl,h0.fr,i2,λk hk=>(i3 k hk).2.elim (λh=>.inr ⟨h,h0.bd k (i3 k hk).1⟩) .inl,x,hv _ _,hG _ _ _ (i1.sb hs)⟩
theorem rde {K:Fm} {l fn D KL KT:Nat} {tm:Array Value} {ps:Array Tmp} {asx bd:Code} {Γt:Cx} {js:List Code} {X σ:Type} {G:σ->X->List Ent} {pd:Option Code} (ks:List Nat) (jump:Option Code) (j:Nat) (b:Bool) (s:σ) (x:X)
  {RB TB:Ent} (hM:Bd K w0) (hs:St K w0 n Γ a w) (hk:Am Γ KL=some RB) (hT:Am Γ KT=some TB) (hRB:RB=Lr l (rcd fn D tm ps asx bd .busy pd)) (hTB:TB=Tm tm Γt) (hG:Kg (Am Γ) ks (G s x)) (hd:dis (KL :: KT :: ks)=true)
  (hj:jmp js j=jump) (hb:jump.isNone=b) (hj0:b=isz j) :
  ∃ v w',(Instr.endRound l jump).run P w=.ok v w'/\Pst K w0 (Rz (λ_:Unit=>Va b) (λ_=>[RE l fn D tm ps asx bd Γt js G (s,j)])) (.returned v) w':=by
 subst hRB hTB;obtain ⟨h1,h2⟩:=hs.putRec (r':=rcd fn D tm ps asx bd (stj j) (jmp js j)) hk;obtain ⟨d1,d2⟩:=Av hd;refine ⟨.bool b,_,?_,pstG () (KL :: KT :: ks) hM h2 (G:=Lr l (rcd fn D tm ps asx bd (stj j) (jmp js j)) :: Tm tm Γt :: G s x) ⟨⟨by rw [Aj];simp [put],inferInstance⟩,⟨by rw [Aj];simp only [put];rw [if_neg (d1 KT As)];exact hT,inferInstance⟩,?_⟩ hd (λM w=>Va.mkBool) ?_⟩
 ·rw [run_endRound jump h1,hb,hj];congr 3;subst hj0;cases j <;> rfl
 ·have:∀ {ks:List Nat} {es:List Ent},(∀ k∈ks,k≠KL)->Kg (Am Γ) ks es->Kg (Am ((KL,Lr l (rcd fn D tm ps asx bd (stj j) (jmp js j))) :: Γ)) ks es:=by
   intro ks
   induction ks with
   | nil=>intro es _ h;cases es with
    | nil=>exact trivial
    | cons=>exact h.elim
   | cons k ks ih=>
    intro es hne h;cases es with
    | nil=>exact h.elim
    | cons e es=>exact ⟨⟨by rw [Aj];simp only [put];rw [if_neg (hne k As)];exact h.1.1,h.1.2⟩,ih (λq hq=>hne q (by simp [hq])) h.2⟩
  exact this (λk hk=>d1 k (by simp [hk])) hG
 ·intro M w F ho;exact ⟨F,[],by simp,λu=>⟨x,ho⟩,rfl⟩
theorem Nv:∀ (ps:List Nat) (vs:List Value) (tm:Array Value),((ps.zip vs).foldl (λtm (p:Nat×Value)=>tm.setIfInBounds p.1 p.2) tm).size=tm.size
 | [],_,_=>by simp
 | _ :: _,[],_=>by simp
 | p :: ps,v :: vs,tm=>by simp [Nv]
theorem Px {t:Nat}:∀ (ps:List Nat) (vs:List Value) (tm:Array Value),t ∉ ps->((ps.zip vs).foldl (λtm (p:Nat×Value)=>tm.setIfInBounds p.1 p.2) tm).getD t undef=tm.getD t undef
 | [],_,_,_=>by simp
 | _ :: _,[],_,_=>by simp
 | p :: ps,v :: vs,tm,h=>by
  simp only [JY,H4];rw [Px ps vs _ (λhm=>h (FR _ hm))];simp only [FG,not_or] at h;simp [EZ,FZ (Ne.symm h.1)]
theorem Vw {t:Nat}:∀ (ps:List Nat) (vs:List Value) (tm:Array Value) (i:Nat) (v:Value),dis ps=true->ps[i]?=some t->vs[i]?=some v->t < tm.size->((ps.zip vs).foldl (λtm (p:Nat×Value)=>tm.setIfInBounds p.1 p.2) tm).getD t undef=v
 | [],_,_,i,v,_,h,_,_=>by simp at h
 | _ :: _,[],_,i,v,_,_,h,_=>by simp at h
 | p :: ps,u :: vs,tm,0,v,hd,h1,h2,hl=>by
  obtain ⟨d1,_⟩:=Av hd;simp only [List.getElem?_cons_zero,Option.some.injEq] at h1 h2;subst h1 h2;simp only [JY,H4];rw [Px ps vs _ (λhm=>d1 p hm rfl)];simp [EZ,hl]
 | p :: ps,u :: vs,tm,i + 1,v,hd,h1,h2,hl=>by
  obtain ⟨_,d2⟩:=Av hd;simp only [JY,H4];exact Vw ps vs _ i v d2 (by simpa using h1) (by simpa using h2) (by simpa using hl)
theorem Cy.mk {l fn D KL KT:Nat} {tm:Array Value} {ps:Array Tmp} {asx bd:Code} {Γt:Cx} {js:List Code} {X σ:Type} {G:σ->X->List Ent} {pe:List Ent} {R:Ent} (ks pts:List Nat) (s:σ) (htm:tm.size=n) (hp:ps.toList=pts) (hpl:pts.length=pe.length) (hpd:dis pts=true) (hpn:(pts.all λt=>Nat.blt t n)=true)
  (hpt:(pts.all λt=>(Am Γt t).isNone)=true) (hd:dis (KL :: KT :: ks)=true) (hkl:∀ x,ks.length=(G s x).length)
  (h:∀ K w a x TB,Bd K w->K.ds=[]->TB=Tm tm Γt->St K w n (Hb (KL :: KT :: ks) (Lr l (rcd fn D tm ps asx bd .ready none) :: TB :: G s x) (Hb pts pe Γt)) a w ->
   asx.wpIn (Fr (some l)) 0 P (Exit.then (λa₁ w₁=>∃ w₂,(Instr.beginRound l).run P w₁=.ok () w₂/\bd.wpIn (Fr (some l)) 0 P (roundPost P l (Pst K w R)) a₁ w₂) (λ_ _ _=>False)) a w) :
  Cy P l pe [RE l fn D tm ps asx bd Γt js G (s,0)] R:=by
 intro vs M w Ft hM hf ho hnd hFM;obtain ⟨F1,F2,rfl,hx,hF2⟩:=ho;have hF2:F2=[]:=hF2;subst hF2;rw [GA] at hnd hFM ⊢;obtain ⟨x,how⟩:=hx undef;obtain ⟨Fa,Fb,hab,h1,how2⟩:=id how;obtain ⟨_,hl⟩:=h1 undef;obtain ⟨Fc,Fd,hcd,h2,_⟩:=id how2;obtain ⟨_,hT⟩:=h2 undef;have hvl:=hf.len;have hsz:vs.toArray.size=ps.size:=by rw [← Array.length_toList (xs:=ps),hp,HG,hvl,hpl]
 refine ⟨_,_,_,_,run_yield hl hsz,?_⟩;have hfold:(ps.zip vs.toArray).foldl (λtmps (x:Tmp×Value)=>tmps.setIfInBounds x.1 x.2) tm=(pts.zip vs).foldl (λtm (p:Nat×Value)=>tm.setIfInBounds p.1 p.2) tm:=by
  rw [← JW,Array.toList_zip,hp]
 refine roundIn_of_wpIn (F:=Fr none) trivial ?_;refine h ⟨λk=>M k/\k ∉ F1,λk=>k∈F1,[]⟩ w _ x _ ⟨λk hk=>hM k hk.1,λk hk hk'=>hk'.2 hk⟩ rfl rfl ?_;have base:StM ⟨λk=>M k/\k ∉ F1,λk=>k∈F1,[]⟩ w n (Am (Hb pts pe Γt)) { tmps:=(ps.zip vs.toArray).foldl (λtmps (x:Tmp×Value)=>tmps.setIfInBounds x.1 x.2) tm,defers:=[] } w M (λ_=>[]):=by
  refine ⟨λt e he=>?_,λt _=>⟨by simp,λk hk=>by simp at hk⟩,λt s _ _ _ k hk=>by simp at hk,λk hk=>hk.1,hM,Ext.refl _ _,?_,rfl⟩
  ·show e.p [] M w (Array.getD _ t undef);rw [hfold];rcases Kt hpl he with ⟨i,h5,h6⟩ | ⟨h5,h6⟩
   ·have h7:=hf.get i e h6;have hi:i < vs.length:=by rw [hvl];exact (EY.1 h6).1
    have htn:t < n:=by
     have:=E8.1 hpn t (FP h5);exact FA this
    rw [Vw pts vs tm i (vs.getD i undef) hpd h5 (by simp [hi]) (by rw [htm];exact htn)];exact h7
   ·rw [Px pts vs tm h5];exact hT t e h6
  ·show Array.size _=n;rw [hfold,Nv,htm]
 obtain ⟨φ',h7,_⟩:=base.addG (ks:=KL :: KT :: ks) (by simp [hkl x]) hd how hnd (λq hq=>⟨hFM q hq,.inr hq⟩) (λt ht q hq=>by simp at hq);exact ⟨M,φ',by rw [Bv];exact h7⟩
theorem smR {f:FuncId} {ps:List Ent} {R:Ent} (h:Sp P f ps R):Sp P f ps R:=h
theorem gon {ops:Array Oper} {rest:List Oper} {d:Option Tmp} {j dj:Nat} {b want:Bool} {op:Op} {ty:TypeId} {pos:String} {aft:Array Edge}
  (hs:St M0 w0 n Γ a w) (hj:(ops[j]?).bind (·.dst)=some dj) (hl:Am Γ dj=some (Va b)) (hb:b=want)
  (k:wpListIn (Fr rr) 0 P ops Q (⟨d,op,ty,pos,aft,none⟩ :: rest) a w):wpListIn (Fr rr) 0 P ops Q (⟨d,op,ty,pos,aft,some (j,want)⟩ :: rest) a w:=by
 obtain ⟨M,φ,h⟩:=hs;have hyb:=Bb hj (Va.bool (h.holds dj _ hl));unfold wpListIn at k ⊢;rw [if_pos (by simp [Region.wanted])] at k;rw [if_pos (by simp [Region.wanted,hyb,hb])];exact k
theorem Tb {ops:Array Oper} {rest:List Oper} {d j dj:Nat} {b want:Bool} {op:Op} {ty:TypeId} {pos:String} {aft:Array Edge}
  (hs:St M0 w0 n Γ a w) (hj:(ops[j]?).bind (·.dst)=some dj) (hl:Am Γ dj=some (Va b)) (hb:b=!want) (hn:Nat.blt d n=true)
  (k:∀ a' w',St M0 w0 n ((d,Dd) :: Γ) a' w'->wpListIn (Fr rr) 0 P ops Q rest a' w'):wpListIn (Fr rr) 0 P ops Q (⟨some d,op,ty,pos,aft,some (j,want)⟩ :: rest) a w:=by
 obtain ⟨M,φ,h⟩:=hs;have hyb:=Bb hj (Va.bool (h.holds dj _ hl));have hne:b≠want:=by subst hb; cases want <;> simp
 unfold wpListIn;rw [if_neg (by simp [Region.wanted,hyb,hne])];exact ⟨λ_ _=>trivial,k _ _ (by unfold St;rw [Aj];exact h.gives ⟨Ext.refl _ _,[],GB,λk hk=>by simp at hk,rfl⟩ (FA hn))⟩
theorem pkF {c x y:Operand} {b:Bool} {e:Ent} (hc:Od Γ c (Va b)) (hb:b=false) (hy:Od Γ y e) [z:Zf e]:OR P (.pick c x y) ty Γ e:=by
 refine OR.val λρ M w r=>?_;obtain ⟨_,h⟩:=hc ρ M w r;obtain ⟨F,h2⟩:=hy ρ M w r;obtain rfl:=z.z h2;exact ⟨ρ y,λ_ _ _ _=>by simp only [execOp,Va.bool h,hb];rfl,h2⟩
theorem bfc {α:Type} {b:Bool} {x y:Option α} {r:α} (h:(bif b then x else y)=some r):(b=true/\x=some r)\/(b=false/\y=some r):=by
 cases b
 ·exact .inr ⟨rfl,h⟩
 ·exact .inl ⟨rfl,h⟩
def Aft (P:Program) (Q:Exit->Act->World->Prop) (js:List Code) (j:Nat) (a:Act) (w:World):Prop:=
 match jmp js j with
 | none=>Q .normal a w
 | some c=>c.wpIn (Fr none) 0 P Q a w
theorem af0 {js:List Code} {j:Nat} (hj:(j == 0)=true) (h:Q .normal a w):Aft P Q js j a w:=by
 have:j=0:=by simpa using hj
 subst this;exact h
theorem af1 {js:List Code} {j k:Nat} {c:Code} (hj:(j == k + 1)=true) (hc:js[k]?=some c) (h:c.wpIn (Fr none) 0 P Q a w):Aft P Q js j a w:=by
 have:j=k + 1:=by simpa using hj
 subst this;unfold Aft jmp;simp only [hc];exact h
theorem St.marked {D:Nat} (h:St M0 w0 n Γ a w):St (mf D M0) w0 n Γ { a with defers:=mark D :: a.defers } w:=by
 obtain ⟨M,φ,h⟩:=h;exact ⟨M,φ,h.holds,h.own,h.apart,h.sub,h.bd,h.fr,h.sz,by show _ :: a.defers=_ :: M0.ds;rw [h.df]⟩
def Zfs (Γt:Cx):Prop:=∀ t e,Am Γt t=some e->∀ {F M w v},e.p F M w v->F=[]
theorem zs0:Zfs []:=λt e h=>by simp [Am] at h
theorem zs1 {t:Nat} {e:Ent} {Γt:Cx} [z:Zf e] (h:Zfs Γt):Zfs ((t,e) :: Γt):=λs x hx=>by
 rw [Aj] at hx;unfold put at hx;split at hx
 ·cases hx;exact z.z
 ·exact h s x hx
theorem rfo {g:Operand} {ps:Array Tmp} {asx bd:Code} {f:FuncId} {fs cs:List Value} {p1 p2:List Ent} {α X σ:Type} {pe:α->List Ent} {eo:Ent} {gb:α->σ×Nat->Option (Bool×(σ×Nat))} {r:σ×Nat} (Γt:Cx) (js:List Code) (G:σ->X->List Ent) (s0:σ) (x0:X) (KD KL KT:Nat) (ks:List Nat)
  (hM:Bd M0 w0) (hs:St M0 w0 n Γ a w) (hg:Od Γ g (Qv (fv f fs cs))) (h1:Vdl Γ fs p1) (h2:Vdl Γ cs p2) (hG:Kg (Am Γ) ks (G s0 x0))
  (hd:dis (KD :: KL :: KT :: ks)=true) (hkl:∀ s x,ks.length=(G s x).length) (hΓt:∀ t e,Am Γt t=some e->Am Γ t=some e) (hz:Zfs Γt) (hKD:Am Γ KD=none) (hKL:Am Γ KL=none) (hKT:Am Γ KT=none)
  (hit:∀ (E:σ×Nat->Ent) [∀ s,Gh (E s)] (_:∀ s,∃ T:List Ent,E s=Pk λx=>T ++ G s.1 x) (l:Nat),(∀ x s r',gb x s=some r'->Cy P l (pe x) [E s] (Rz (λ_:Unit=>Va r'.1) λ_=>[E r'.2]))->Cg P f (p1 ++ ([Qv (yv l)] ++ p2)) [E (s0,0)] (Rz (λ_:Unit=>eo) λ_=>[E r]))
  (hbody:∀ (l fn D:Nat) (tm:Array Value) (htm:tm.size=n) (x:α) (s:σ×Nat) (r':Bool×(σ×Nat)),gb x s=some r'->Cy P l (pe x) [RE l fn D tm ps asx bd Γt js G s] (Rz (λ_:Unit=>Va r'.1) λ_=>[RE l fn D tm ps asx bd Γt js G r'.2]))
  (hafter:∀ (D:Nat) (a:Act) (w:World) (x:X),St (mf D M0) w0 n ((KD,Dk D) :: Hb ks (G r.1 x) Γ) a w->Aft P Q js r.2 a w) :
  (Code.rangeFunc g ps asx bd).wpIn (Fr none) 0 P Q a w:=by
 refine wpIn_rangeFunc λfn _=>?_;obtain ⟨d1,d2⟩:=Av hd;obtain ⟨d3,d4⟩:=Av d2;obtain ⟨d5,d6⟩:=Av d4;obtain ⟨M,φ,hs0⟩:=id hs;have htn:a.tmps.size=n:=hs0.sz
 -- the two blocks
 have hs1:St M0 w0 n ((KD,Dk w.heap.size) :: Γ) a (w.alloc (.deferred (some []))):=by
  unfold St;rw [Aj];exact hs0.newb λM'=>⟨rfl,World.alloc_heap_new _ _⟩
 obtain ⟨M1,φ1,hs1⟩:=hs1;have hs2:St M0 w0 n ((KL,Lr (w.heap.size + 1) (rcd fn w.heap.size a.tmps ps asx bd .ready none)) :: (KD,Dk w.heap.size) :: Γ) a ((w.alloc (.deferred (some []))).alloc (.loop (rcd fn w.heap.size a.tmps ps asx bd .ready none))):=by
  have:=hs1.newb (k:=KL) (e:=Lr (w.heap.size + 1) (rcd fn w.heap.size a.tmps ps asx bd .ready none)) (o:=.loop (rcd fn w.heap.size a.tmps ps asx bd .ready none)) λM'=>⟨by simp,by have:=World.alloc_heap_new (w.alloc (.deferred (some []))) (.loop (rcd fn w.heap.size a.tmps ps asx bd .ready none));simpa using this⟩;unfold St;rw [Aj];exact this
 obtain ⟨M2,φ2,hs2⟩:=hs2;have Fh:∀ t e,Am Γ t=some e->Am ((KL,Lr (w.heap.size + 1) (rcd fn w.heap.size a.tmps ps asx bd .ready none)) :: (KD,Dk w.heap.size) :: Γ) t=some e:=λt e he=>by
  have hne1:t≠KL:=λh=>by subst h;rw [hKL] at he;cases he
  have hne2:t≠KD:=λh=>by subst h;rw [hKD] at he;cases he
  rw [Aj,Aj];simp only [put,if_neg hne1,if_neg hne2];exact he
 have hs3:=hs2.add1 (k:=KT) (e:=Tm a.tmps Γt) (F:=[]) ⟨rfl,λt e he=>by
   have h5:=hs2.holds t e (Fh t e (hΓt t e he));have h6:=hz t e he h5;rw [h6] at h5;exact h5⟩ GB (λq hq=>by simp at hq) (λt _ _ q _ hq=>by simp at hq)
 rw [← Aj] at hs3;have kgΓ:∀ {ks:List Nat} {es:List Ent},(∀ k∈ks,k≠KT)->Kg (Am Γ) ks es->Kg (Am ((KT,Tm a.tmps Γt) :: (KL,Lr (w.heap.size + 1) (rcd fn w.heap.size a.tmps ps asx bd .ready none)) :: (KD,Dk w.heap.size) :: Γ)) ks es:=by
  intro ks
  induction ks with
  | nil=>intro es _ h;cases es with
   | nil=>exact trivial
   | cons=>exact h.elim
  | cons k ks ih=>
   intro es hne h;cases es with
   | nil=>exact h.elim
   | cons e es=>exact ⟨⟨by rw [Aj];simp only [put];rw [if_neg (hne k As)];exact Fh k e h.1.1,h.1.2⟩,ih (λq hq=>hne q (by simp [hq])) h.2⟩
 have hkg:Kg (Am ((KT,Tm a.tmps Γt) :: (KL,Lr (w.heap.size + 1) (rcd fn w.heap.size a.tmps ps asx bd .ready none)) :: (KD,Dk w.heap.size) :: Γ)) (KL :: KT :: ks) (Lr (w.heap.size + 1) (rcd fn w.heap.size a.tmps ps asx bd .ready none) :: Tm a.tmps Γt :: G s0 x0):=
  ⟨⟨by rw [Aj,Aj];simp only [put];rw [if_neg (Ne.symm (d3 KT As))];simp,inferInstance⟩,⟨by rw [Aj];simp [put],inferInstance⟩,kgΓ (λk hk=>d5 k hk) hG⟩
 obtain ⟨o1,o2,o3,o4⟩:=Kg.owns hs3 hkg d2;have rd0:∀ x e,Od Γ x e->Od ((KT,Tm a.tmps Γt) :: (KL,Lr (w.heap.size + 1) (rcd fn w.heap.size a.tmps ps asx bd .ready none)) :: (KD,Dk w.heap.size) :: Γ) x e:=λx e h ρ M w r=>h ρ M w ⟨λt e he=>r.tmp t e (by
   have hne1:t≠KT:=λh=>by subst h;rw [hKT] at he;cases he
   rw [Aj];simp only [put,if_neg hne1];exact Fh t e he),r.con,r.fn,r.bd,r.glo⟩
 have rd3:=hs3.rd;have rdΓ:Rd (Am Γ) M2 ((w.alloc (.deferred (some []))).alloc (.loop (rcd fn w.heap.size a.tmps ps asx bd .ready none))) a.eval:=⟨λt e he=>rd3.tmp t e (by
   have hne1:t≠KT:=λh=>by subst h;rw [hKT] at he;cases he
   rw [Aj];simp only [put,if_neg hne1];exact Fh t e he),rd3.con,rd3.fn,rd3.bd,rd3.glo⟩
 obtain ⟨_,_,hv⟩:=hg _ _ _ rdΓ;have hcg:=hit (λs=>RE (w.heap.size + 1) fn w.heap.size a.tmps ps asx bd Γt js G s) (λ_=>⟨[_,_],rfl⟩) (w.heap.size + 1) λx s r' hr=>hbody _ fn _ a.tmps htn x s r' hr;have how:Hy M2 ((w.alloc (.deferred (some []))).alloc (.loop (rcd fn w.heap.size a.tmps ps asx bd .ready none))) [RE (w.heap.size + 1) fn w.heap.size a.tmps ps asx bd Γt js G (s0,0)] ((KL :: KT :: ks).map (λt=>if t=KT then [] else φ2 t)).flatten:=
  ⟨_,[],by simp,λu=>⟨x0,o1⟩,rfl⟩
 have hcall:=hcg.2 (fs ++ ([yv (w.heap.size + 1)] ++ cs)) M2 _ _ hs3.bd ((h1 _ _ _ rdΓ).app (Ql.app (es:=[Qv (yv (w.heap.size + 1))]) ⟨⟨rfl,rfl⟩,trivial⟩ (h2 _ _ _ rdΓ))) how o2 (λk hk=>(o3 k hk).1);refine ⟨w.heap.size + 1,[mark w.heap.size],((w.alloc (.deferred (some []))).alloc (.loop (rcd fn w.heap.size a.tmps ps asx bd .ready none))),{ target:=.fn (.func f) cs.toArray,args:=fs.toArray ++ #[yv (w.heap.size + 1)] },((w.alloc (.deferred (some []))).alloc (.loop (rcd fn w.heap.size a.tmps ps asx bd .ready none))),f,(fs ++ ([yv (w.heap.size + 1)] ++ cs)).toArray,((w.alloc (.deferred (some []))).alloc (.loop (rcd fn w.heap.size a.tmps ps asx bd .ready none))),run_enterLoop_outer fn a.tmps ps asx bd,?_,λ_ _=>trivial,?_,Tj,A5.2 (Calls.mono hcall ?_)⟩
 ·simp only [resolve,rangeCall,hv,Deferred.ofValue];simp [Act.eval,EW]
 ·have hc:=hcg.1;cases hf:P.funcs[f]? with
  | none=>simp [cal,hf] at hc
  | some fn=>
   simp only [cal,hf,E3,FX] at hc;simp only [invoke,callFunc,EU,run_program,ER,hf,hc.2];have h2:fn.body.isNone=false:=by simpa using hc.1
   have h3:fs.toArray ++ #[yv (w.heap.size + 1)] ++ cs.toArray=(fs ++ ([yv (w.heap.size + 1)] ++ cs)).toArray:=by
    apply Array.ext';simp
   rw [h2,h3];rfl
 ·rintro en w' ⟨v,Fq,rfl,hx,hnd,hF,_,hp,ho⟩;obtain ⟨Fa,Fb,hFab,hre,hFb⟩:=ho;have hFb:Fb=[]:=hFb;subst hFb;rw [GA] at hFab;subst hFab;obtain ⟨x,hox⟩:=hre undef;have hc:=hs3.called0 (js:=KL :: KT :: ks) hM hkg d2 hx hnd hF hox (by simp [hkl r.1 x]) d2 λk hk=>hk;obtain ⟨h5,h6⟩:=hc.putRec (K:=KL) (l:=w.heap.size + 1) (r:=rcd fn w.heap.size a.tmps ps asx bd (stj r.2) (jmp js r.2)) (r':=rcd fn w.heap.size a.tmps ps asx bd .exhausted (jmp js r.2)) (by rw [Bv,Jl];simp [put]);have hst:(rcd fn w.heap.size a.tmps ps asx bd (stj r.2) (jmp js r.2)).state≠.busy:=by
   show stj r.2≠.busy;cases r.2 <;> simp [stj]
  refine ⟨_,_,run_endLoop h5 hst,?_⟩;have:=hafter w.heap.size { a with defers:=[mark w.heap.size] ++ a.defers } _ x (St.marked (StF.less h6 λt e he=>?_))
  ·exact this
  ·have hn:∀ t,t≠KL->t≠KT->∀ {e},Am (Hb (KL :: KT :: ks) (Lr (w.heap.size + 1) (rcd fn w.heap.size a.tmps ps asx bd (stj r.2) (jmp js r.2)) :: Tm a.tmps Γt :: G r.1 x) ((KT,Tm a.tmps Γt) :: (KL,Lr (w.heap.size + 1) (rcd fn w.heap.size a.tmps ps asx bd .ready none)) :: (KD,Dk w.heap.size) :: Γ)) t=some e↔Ha ks (G r.1 x) (put KD (Dk w.heap.size) (Am Γ)) t=some e:=by
    intro t ht1 ht2 e;rw [Bv,Jl,Jl];have e1:∀ (g:Mp),put KL (Lr (w.heap.size + 1) (rcd fn w.heap.size a.tmps ps asx bd (stj r.2) (jmp js r.2))) (put KT (Tm a.tmps Γt) g) t=g t:=λg=>by simp only [put,if_neg ht1,if_neg ht2]
    rw [e1];have hg:∀ e,t ∉ ks->((Am ((KT,Tm a.tmps Γt) :: (KL,Lr (w.heap.size + 1) (rcd fn w.heap.size a.tmps ps asx bd .ready none)) :: (KD,Dk w.heap.size) :: Γ)) t=some e↔put KD (Dk w.heap.size) (Am Γ) t=some e):=λe _=>by
     rw [Aj,Aj,Aj];simp only [put,if_neg ht1,if_neg ht2]
    exact ⟨Dj (hkl r.1 x) (λe h=>(hg e h).1),Dj (hkl r.1 x) (λe h=>(hg e h).2)⟩
   rw [Aj] at he ⊢;simp only [put] at he;by_cases hD:t=KD
   ·rw [if_pos hD] at he;have ht1:t≠KL:=by rw [hD];exact Ne.symm (d1 KL As)
    have ht2:t≠KT:=by rw [hD];exact Ne.symm (d1 KT As)
    simp only [put,if_neg ht1];refine (hn t ht1 ht2).2 ?_;have hnk:t ∉ ks:=λh=>d1 t (by simp [h]) hD;have:∀ {ks:List Nat} {es:List Ent} {g:Mp},t ∉ ks->Ha ks es g t=g t:=by
     intro ks
     induction ks with
     | nil=>intro es g _;unfold Ha;rfl
     | cons k ks ih=>
      intro es g hk;cases es with
      | nil=>unfold Ha;rfl
      | cons e es=>
       unfold Ha;simp only [FG,not_or] at hk;simp only [put,if_neg hk.1];exact ih hk.2
    rw [this hnk];simp only [put,if_pos hD];exact he
   ·rw [if_neg hD] at he;have hsome:∀ K',Am Γ K'=none->K' ∉ ks->Am (Hb ks (G r.1 x) Γ) K'=none:=by
     intro K' h7 h8;rw [Bv];have:∀ {ks:List Nat} {es:List Ent} {g:Mp},K' ∉ ks->Ha ks es g K'=g K':=by
      intro ks
      induction ks with
      | nil=>intro es g _;unfold Ha;rfl
      | cons k ks ih=>
       intro es g hk;cases es with
       | nil=>unfold Ha;rfl
       | cons e es=>
        unfold Ha;simp only [FG,not_or] at hk;simp only [put,if_neg hk.1];exact ih hk.2
     rw [this h8];exact h7
    have ht1:t≠KL:=λh=>by subst h;rw [hsome t hKL (λhm=>d3 t (by simp [hm]) rfl)] at he;cases he
    have ht2:t≠KT:=λh=>by subst h;rw [hsome t hKT (λhm=>d5 t hm rfl)] at he;cases he
    simp only [put,if_neg ht1];refine (hn t ht1 ht2).2 ?_;rw [Bv] at he;exact Dj (hkl r.1 x) (λe _ h=>by simp only [put,if_neg hD];exact h) he
theorem lvm {K:Fm} {fn:Func} {R:Ending->World->Prop} {tm:Array Value} {ds:List Deferred} {D KD:Nat} (hs:St (mf D K) w0 n Γ a w) (hk:Am Γ KD=some (Dk D)) (htm:a.tmps=tm) (hds:a.defers=ds)
  (h:∀ a w,a.tmps=tm->St K w0 n ((KD,Dd) :: Γ) a w->LeavesInM (Fr none) 0 P fn tm R a.defers .returning w):LeavesInM (Fr none) 0 P fn tm R ds .returning w:=by
 obtain ⟨M,φ,h0⟩:=hs;have hdf:=h0.df;rw [hds] at hdf;subst hdf;obtain ⟨hF,hc⟩:=h0.holds KD _ hk;have hlt:=(E6.1 hc).1;refine ⟨by simp,.inl ⟨D,_,rfl,run_takeDeferred hc,?_⟩⟩;refine h { a with defers:=K.ds } _ htm ?_;have hx:Ext (λk=>k=D) w (w.putObj D (.deferred none)):=⟨rfl,rfl,rfl,by simp,λq _ hq=>H6 hq,FH _⟩;have hko:=h0.own KD (by rw [hk];rfl);have hDF:D∈φ KD:=by rw [hF];simp
 refine ⟨M,λt=>if t=KD then [] else φ t,λt e he=>?_,λt ht=>?_,λt s hts ht hs=>?_,h0.sub,λk hk=>FS (h0.bd k hk) hx.size,?_,h0.sz,rfl⟩
 ·rw [Aj] at he;unfold put at he;by_cases h3:t=KD
  ·subst h3;simp only [if_true,Option.some.injEq] at he ⊢;subst he;rfl
  ·simp only [if_neg h3] at he ⊢;refine Ent.st _ (h0.holds t e he) (hx.mono λk _ hk'=>?_);subst hk';exact ⟨(hko.2 _ hDF).1,λhm=>h0.apart t KD h3 (by rw [he];rfl) (by rw [hk];rfl) _ hm hDF⟩
 ·rw [Aj] at ht;unfold put at ht;by_cases h3:t=KD
  ·simp [h3]
  ·simp only [if_neg h3] at ht ⊢;exact h0.own t ht
 ·rw [Aj] at ht hs;unfold put at ht hs;by_cases h3:t=KD
  ·simp [h3]
  ·by_cases h4:s=KD
   ·simp [h4]
   ·simp only [if_neg h3,if_neg h4] at ht hs ⊢;exact h0.apart t s hts ht hs
 ·have hD2:=(hko.2 _ hDF).2;exact ⟨hx.os.trans h0.fr.os,hx.tape.trans h0.fr.tape,hx.output.trans h0.fr.output,F6 h0.fr.size hx.size,λk hk hb=>
   (hx.block k (FS hk h0.fr.size) (λe=>by subst e;exact hD2.elim (λh=>absurd hk om_) hb)).trans (h0.fr.block k hk hb),F6 h0.fr.dr hx.dr⟩
theorem rfn {g:Operand} {ps:Array Tmp} {asx bd:Code} {f:FuncId} {fs cs:List Value} {p1 p2:List Ent} {α X σ:Type} {pe:α->List Ent} {eo:Ent} {gb:α->σ×Nat->Option (Bool×(σ×Nat))} {r:σ×Nat} (Γt:Cx) (js:List Code) (G:σ->X->List Ent) (s0:σ) (x0:X) (KD KL KT:Nat) (ks:List Nat)
  (hM:Bd M0 w0) (hs:St M0 w0 n Γ a w) (hg:Od Γ g (Qv (fv f fs cs))) (h1:Vdl Γ fs p1) (h2:Vdl Γ cs p2) (hG:Kg (Am Γ) ks (G s0 x0))
  (hd:dis (KD :: KL :: KT :: ks)=true) (hkl:∀ s x,ks.length=(G s x).length) (hΓt:∀ t e,Am Γt t=some e->Am Γ t=some e) (hz:Zfs Γt) (hKD:Am Γ KD=none) (hKL:Am Γ KL=none) (hKT:Am Γ KT=none)
  (hit:∀ (E:σ×Nat->Ent) [∀ s,Gh (E s)] (l:Nat),(∀ x s r',gb x s=some r'->Cy P l (pe x) [E s] (Rz (λ_:Unit=>Va r'.1) λ_=>[E r'.2]))->Cg P f (p1 ++ ([Qv (yv l)] ++ p2)) [E (s0,0)] (Rz (λ_:Unit=>eo) λ_=>[E r]))
  (hbody:∀ (l fn D:Nat) (tm:Array Value) (htm:tm.size=n) (x:α) (s:σ×Nat) (r':Bool×(σ×Nat)),gb x s=some r'->Cy P l (pe x) [RE l fn D tm ps asx bd Γt js G s] (Rz (λ_:Unit=>Va r'.1) λ_=>[RE l fn D tm ps asx bd Γt js G r'.2]))
  (hafter:∀ (D:Nat) (a:Act) (w:World) (x:X),St (mf D M0) w0 n ((KD,Dk D) :: Hb ks (G r.1 x) Γ) a w->Aft P Q js r.2 a w) :
  (Code.rangeFunc g ps asx bd).wpIn (Fr none) 0 P Q a w:=
 rfo Γt js G s0 x0 KD KL KT ks hM hs hg h1 h2 hG hd hkl hΓt hz hKD hKL hKT (λE _ _ l h=>hit E l h) hbody hafter
end
end Go.Pn
namespace Go.Pn
open Go Go.RowKit Go.Proofs
section
variable {P:Program} {M0:Fm} {w0:World} {n:Nat} {Γ:Cx} {Q:Exit->Act->World->Prop} {a:Act} {w:World} {ty:TypeId}
theorem lnm {κ ν:Type} [Rep κ] [Rep ν] [FV κ] [FV ν] {T K E KK:Nat} {x:Operand} {r:Nat} {m:List (κ×ν)} (hx:Od Γ x (Qv (.map (some r)))) (hk:Am Γ KK=some (Om r m)) (hT:Wq P T=some (K,E)):OR P (.call { callee:=.builtin .len,args:=#[x],argTypes:=#[T] }) ty Γ (Va (m.length:Int)):=by
 refine OR.val λρ M w rd=>?_;obtain ⟨_,_,hv⟩:=hx ρ M w rd;obtain ⟨_,_,es,cl,hc,hm⟩:=rd.tmp _ _ hk;have hg:(getObj r).run P w=.ok (.map es cl) w:=MapKept.run_getObj_map hc;have hl:es.size=m.length:=by
  have:=congrArg List.length hm;simpa using this
 refine ⟨.int .i64 m.length,λ_ _ _ _=>?_,Va.mkInt⟩;simp [execOp,hg,hl,resolve,hv,invoke,builtin,Builtin.len_,run_underlying (Jx hT),goInt]
def Rw (cs:List Value):Ent where
 p F M w v:=F=[]/\∃ b,v=.slice (some ⟨b,0,none⟩) cs.length cs.length/\Cls M w b 0 cs
 st h e:=let ⟨hF,b,hv,hc⟩:=h;⟨hF,b,hv,hc.ext (e.mono λ_ _ h=>h.1)⟩
 sb h s:=let ⟨hF,b,hv,hc⟩:=h;⟨hF,b,hv,hc.sub s⟩
theorem bsw {T e:Nat} {β:Type} [Rep β] [he:Ea P T e (List β)] {xs:List Operand} {cs:List Value} {parts:Array (Nat×Operand)} {len:Nat}
  (h:Cdl Γ xs cs) (hp:parts.toList=prt 0 xs) (hl:cs.length=len) (hs:Nat.ble len 16777216=true):OR P (.buildSlice T len parts) ty Γ (Rw cs):=by
 refine OR.run λρ M w r=>?_;obtain ⟨h1,h2,h3⟩:=h.map r;obtain ⟨i,z,hi,hz,hsz,hb,hzs⟩:=he.inf;have hsz:i.size=1:=hsz;have hs':=FA hs;have hrun:(Instr.buildSlice T len (parts.map λ(i,x)=>(i,ρ x))).run P w=.ok (.slice (some ⟨w.heap.size,0,none⟩) len len) (w.alloc (.cells cs.toArray e)):=by
  have hpm:(parts.map λ(i,x)=>(i,ρ x)).toList=prt 0 (xs.map ρ):=by
   rw [G4,hp];have:∀ (l:List Operand) (k:Nat),List.map (λ(x:Nat×Operand)=>(x.1,ρ x.2)) (prt k l)=prt k (l.map ρ):=by
    intro l
    induction l with
    | nil=>intro k;rfl
    | cons x l ih=>intro k;simp [prt,ih]
   exact this xs 0
  have hfl2:(cs.map λc=>[c]).flatten=cs:=by
   clear hpm h h1 h2 h3 hl
   induction cs with
   | nil=>rfl
   | cons c cs ih=>simp [ih]
  have hfl:∀ zz:List Value,zz.length=len * 1->Instr.fill (λi=>some (i * 1,1)) zz.toArray (prt 0 (xs.map ρ))=some cs.toArray:=by
   intro zz hzz;rw [h1];have hfl:=Gy (sz:=1) (vs:=cs) (cs:=cs.map λc=>[c]) (z:=zz) (k:=0) (Pu h2) om_;rw [hfl2] at hfl;simp only [GV,HQ,Nat.zero_mul,H8,G1] at hfl;rw [FN om_,GA] at hfl;simpa using hfl
  have hnot:¬ (len * 1 > 2 ^ 24):=by omega
  simp only [Instr.buildSlice,EU,run_underlying he.el,ER,sizeOf,typeInfo,run_program,hi,EW,hsz];rw [if_neg hnot];simp only [hpm];by_cases h0:len * 1=0
  ·have hz0:(Array.map (λx=>(#[]:Array Value)[x % (#[]:Array Value).size]!) (Array.range (len * 1)))=([]:List Value).toArray:=by rw [h0];simp
   rw [if_pos h0];simp only [EU,EW,ER,hz0];rw [hfl [] (by rw [h0];rfl)];rfl
  ·have hz1:(Array.map (λx=>z.cells[x % z.cells.size]!) (Array.range (len * 1)))=((Array.map (λx=>z.cells[x % z.cells.size]!) (Array.range (len * 1))).toList).toArray:=JT.symm;rw [if_neg h0];simp only [zeroValue,EU,typeInfo,run_program,hi,hz,EW,ER];rw [hz1,hfl _ As];rfl
 refine ⟨.slice (some ⟨w.heap.size,0,none⟩) len len,w.alloc (.cells cs.toArray e),λ_ _ _ _=>by simp only [execOp,EU,Sem.run_map,hrun,ER,EW],Ext.alloc _ _ _,[],GB,λk hk=>by simp at hk,rfl,w.heap.size,by rw [hl],λj v hj=>⟨λhm=>?_,?_⟩⟩
 ·rcases hm with hm | hm
  ·exact absurd (r.bd _ hm) om_
  ·simp at hm
 ·have:(w.alloc (.cells cs.toArray e)).heap[w.heap.size]?=some (.cells cs.toArray e):=heap_alloc_new w _;unfold World.cell?;rw [this];simpa using hj
def Rpl (Γ:Cx) {β:Type} [Rep β]:List Value->List (List β)->Prop
 | [],[]=>True
 | c :: cs,x :: xs=>Rp Γ [c] x/\Rpl Γ cs xs
 | _,_=>False
theorem rl0 {β:Type} [Rep β]:Rpl Γ [] ([]:List (List β)):=trivial
theorem rl1 {β:Type} [Rep β] {c:Value} {cs:List Value} {x:List β} {xs:List (List β)} (h:Rp Γ [c] x) (r:Rpl Γ cs xs):Rpl Γ (c :: cs) (x :: xs):=⟨h,r⟩
theorem Rpl.chk {β:Type} [Rep β] {ρ:Operand->Value} {M:Nat->Prop} {w:World} (rd:Rd (Am Γ) M w ρ):∀ {cs:List Value} {xs:List (List β)},Rpl Γ cs xs->Chk M w cs xs/\xs.length=cs.length
 | [],[],_=>⟨rfl,rfl⟩
 | c :: cs,x :: xs,⟨h,r⟩=>by
  obtain ⟨h1,h2⟩:=r.chk rd;exact ⟨⟨[c],cs,rfl,h ρ M w rd,h1⟩,by simp [h2]⟩
 | [],_ :: _,h=>h.elim
 | _ :: _,[],h=>h.elim
theorem rwd {β:Type} [Rep β] {x:Operand} {cs:List Value} {xss:List (List β)} (hx:Od Γ x (Rw cs)) (h:Rpl Γ cs xss):Od Γ x (Va xss):=λρ M w r=>by
 obtain ⟨_,_,b,hv,hc⟩:=hx ρ M w r;obtain ⟨h1,h2⟩:=h.chk r;exact ⟨[],by rw [hv,← h2];exact Va.mkList ⟨_,0,by rw [GV],.inr ⟨b,0,rfl,h1.row hc⟩⟩⟩
@[reducible] def Sm {α β:Type} (r:α ⊕ β) (E0:α->Ent) (E1:β->Ent):Ent:=match r with | .inl a=>E0 a | .inr b=>E1 b
end
end Go.Pn
namespace Go.Pn
open Go Go.RowKit
variable {rr:Option Nat}
section
variable {P:Program} {M0:Fm} {w0:World} {n:Nat} {Γ:Cx} {Q:Exit->Act->World->Prop} {a:Act} {w:World} {ty:TypeId}
def Cda (Γ:Cx):List Operand->List (List Value)->Prop
 | [],[]=>True
 | x :: xs,c :: cs=>Od Γ x (Qa c)/\Cda Γ xs cs
 | _,_=>False
theorem ca0:Cda Γ [] []:=trivial
theorem ca1 {x:Operand} {c:List Value} {xs:List Operand} {cs:List (List Value)} (h:Od Γ x (Qa c)) (r:Cda Γ xs cs):Cda Γ (x :: xs) (c :: cs):=⟨h,r⟩
theorem Cda.map {ρ:Operand->Value} {M:Nat->Prop} {w:World} (rd:Rd (Am Γ) M w ρ):∀ {xs:List Operand} {cs:List (List Value)},Cda Γ xs cs->xs.map ρ=cs.map (λc=>.agg c.toArray)/\(∀ c∈cs.flatten,c.oneCell'=true)/\xs.length=cs.length
 | [],[],_=>⟨rfl,λc hc=>by simp at hc,rfl⟩
 | _ :: _,_ :: _,⟨h,r⟩=>by
  obtain ⟨_,_,hv,h1⟩:=h ρ M w rd;obtain ⟨r1,r2,r3⟩:=r.map rd;refine ⟨by rw [FC,hv,r1];rfl,λc hc=>?_,by simp [r3]⟩;rw [J2] at hc;rcases FQ.1 hc with hc | hc
  ·exact h1 c hc
  ·exact r2 c hc
theorem Vp {sz:Nat}:∀ {cs:List (List Value)},(∀ c∈cs,c.length=sz)->LitC sz (cs.map λc=>.agg c.toArray) cs
 | [],_=>trivial
 | c :: cs,h=>⟨rfl,h c (GD ..),Vp λd hd=>h d (FR _ hd)⟩
theorem blyA {T e:Nat} {len sz:Nat} {parts:Array (Nat×Operand)} {xs:List Operand} {css:List (List Value)} {cs z:List Value} (hp:parts.toList=prt 0 xs) (h:Cda Γ xs css) (hT:P.underlying T=some (.array len e)) (hz:(P.info? T).map (·.zero)=some (some (.agg z.toArray))) (he:(P.info? e).map (·.size)=some sz) (hl:z.length=css.length * sz)
  (hs:css.all (λc=>c.length == sz)=true) (hcs:css.flatten=cs) :
  OR P (.build T parts) ty Γ (Qa cs):=by
 refine OR.val λρ M w r=>?_;obtain ⟨h1,h2,h3⟩:=h.map r;refine ⟨.agg cs.toArray,λ_ _ _ _=>?_,rfl,rfl,by rw [← hcs];exact h2⟩;cases hi:P.info? T with
 | none=>simp [hi] at hz
 | some i=>
  cases hie:P.info? e with
  | none=>simp [hie] at he
  | some ie=>
   simp only [hi,hie,Option.map_some,Option.some.injEq] at hz he;have hpm:(parts.map λ(i,x)=>(i,ρ x)).toList=prt 0 (css.map λc=>.agg c.toArray):=by
    rw [G4,hp];have:∀ (l:List Operand) (k:Nat),List.map (λ(x:Nat×Operand)=>(x.1,ρ x.2)) (prt k l)=prt k (l.map ρ):=by
     intro l
     induction l with
     | nil=>intro k;rfl
     | cons x l ih=>intro k;simp [prt,ih]
    rw [← h1];exact this xs 0
   have hsz:∀ c∈css,c.length=sz:=λc hc=>by simpa using E8.1 hs c hc
   have hfl:=Gy (sz:=sz) (vs:=css.map λc=>.agg c.toArray) (cs:=css) (z:=z) (k:=0) (Vp hsz) (by simp [hl]);simp only [GV,Nat.zero_mul,H8,G1,FL] at hfl;rw [FN om_,GA,hcs] at hfl;simp only [execOp,Instr.build,zeroValue,typeInfo,EU,run_program,ER,hi,EW,hz,run_underlying hT,sizeOf,hie,he,Value.cells,hpm];rw [hfl];rfl
theorem B4 {T sz:TypeId} {xs:Array Value} {o:Nat} {w:World} (h:(P.underlying T).map Bp=some true) (hs:(P.info? T).map (·.size)=some sz):(part T xs o).run P w=.ok (.agg (xs.extract o (o + sz))) w:=by
 have hr:(sizeOf T).run P w=.ok sz w:=by
  cases hie:P.info? T with
  | none=>simp [hie] at hs
  | some i=>simp [hie] at hs;simp [sizeOf,typeInfo,hie,hs]
 simp only [part,EU,Ty.run_agg h,ER];simp [hr]
theorem aixA {T e len sz:Nat} {x i:Operand} {m:Int} {j:Nat} {cs:List Value} {cols:List (List Value)} (h:Od Γ x (Qa cs)) (hi:Od Γ i (Va m)) (hT:P.underlying T=some (.array len e)) (he:(P.info? e).map (·.size)=some sz) (ha:(P.underlying e).map Bp=some true)
  (hc:((List.range len).map λk=>(cs.drop (k * sz)).take sz)=(List.range len).map λk=>cols.map (Au k)) (hy:idx (List.range len) m=some j):OR P (.index T x i) ty Γ (Qa (cols.map (Au j))):=by
 refine OR.val λρ M w r=>?_;obtain ⟨_,_,hv,h1⟩:=h ρ M w r;obtain ⟨_,h2⟩:=hi ρ M w r;obtain ⟨hjl,h0,hlt,hj⟩:=Le hy;have hr:(sizeOf e).run P w=.ok sz w:=by
  cases hie:P.info? e with
  | none=>simp [hie] at he
  | some i=>simp [hie] at he;simp [sizeOf,typeInfo,hie,he]
 have hcj:(cs.drop (j * sz)).take sz=cols.map (Au j):=by
  have:=congrArg (λl=>l[j]?) hc;simpa [FD,FB hjl] using this
 have hp:=B4 (P:=P) (xs:=cs.toArray) (o:=j * sz) (w:=w) ha he;refine ⟨.agg (cs.toArray.extract (j * sz) (j * sz + sz)),λ_ _ _ _=>?_,rfl,?_,?_⟩
 ·simp only [execOp,hv,Va.int h2,Instr.index,EU,asIntOf,EW,ER,run_underlying hT];simp [h0,hlt,hr,hj,hp]
 ·rw [← hcj];congr 1;simp [List.extract_eq_take_drop]
 ·rw [← hcj];exact λc hc=>h1 c (JU (HY hc))
theorem qsi {x:Operand} {j:Nat} {cs:List Value} {xs:List Int} (h:Od Γ x (Qv (Au j cs))) (hc:cs=xs.map λz=>.int .i64 z) (hj:j < xs.length):Od Γ x (Va (xs.getD j 0)):=λρ M w r=>by
 obtain ⟨F,hF,hv⟩:=h ρ M w r;refine ⟨F,hF,[.int .i64 (xs.getD j 0)],?_,rfl⟩;rw [hv,hc];simp [Au,hj,mk]
theorem fldq {S k off:Nat} {x:Operand} {cs:List Value} {c:Value} (h:Od Γ x (Qa cs)) (hf:(match P.underlying S with | some (.struct fs)=>(fs[k]?).map λf=>(f.offset,(P.underlying f.type).map Bp) | _=>none)=some (off,some false)) (hc:cs[off]?=some c):OR P (.field S x k) ty Γ (Qv c):=by
 refine OR.val λρ M w r=>?_;obtain ⟨_,_,hv,_⟩:=h ρ M w r;refine ⟨c,λ_ _ _ _=>?_,rfl,rfl⟩;cases hu:P.underlying S with
 | none=>simp [hu] at hf
 | some d=>
  cases d with
  | struct fs=>
   simp only [hu] at hf;cases hk:fs[k]? with
   | none=>simp [hk] at hf
   | some f=>
    simp only [hk,Option.map_some,Option.some.injEq,Prod.mk.injEq] at hf;obtain ⟨h1,h2⟩:=hf;subst h1;have hp:=Bi (P:=P) (T:=f.type) (xs:=cs.toArray) (o:=f.offset) (v:=c) (w:=w) h2 (by simpa using hc);simp only [execOp,hv,Instr.field,EU,run_underlying hu,ER,hk,asAgg,EW,hp]
  | _=>simp [hu] at hf
end
end Go.Pn
namespace Go.Pn
open Go Go.RowKit
variable {rr:Option Nat}
def Si (b:Nat) (s:ByteArray) (pos:Int):Ent where
 p F _ w _:=F=[b]/\0<=pos/\w.heap[b]?=some (.stringIter s pos.toNat)
 st h e:=by
  obtain ⟨rfl,h0,h⟩:=h;exact ⟨rfl,h0,by rw [e.block b (E6.1 h).1 As];exact h⟩
 sb h _:=h
def SI (s:ByteArray):Ent where
 p F M w v:=∃ b,v=pb b 0/\(Si b s 0).p F M w v
 st h e:=let ⟨b,hv,h⟩:=h;⟨b,hv,(Si b s 0).st h e⟩
 sb h s':=let ⟨b,hv,h⟩:=h;⟨b,hv,(Si b s 0).sb h s'⟩
def srn (s:ByteArray) (pos:Int):Kd .i32:=⟨((Utf8.decode s pos.toNat).1:Nat)⟩
def snx (s:ByteArray) (pos:Int):Int:=if pos < s.size then pos + (Utf8.decode s pos.toNat).2 else pos
def Nx (s:ByteArray) (pos:Int):Ent where
 p F _ _ v:=F=[]/\(pos < s.size->v=.tuple #[.bool true,.int .i64 pos,.int .i32 (Utf8.decode s pos.toNat).1])/\(¬ pos < s.size->v=.tuple #[.bool false])
 st h _:=h
 sb h _:=h
section
variable {P:Program} {M0:Fm} {w0:World} {n:Nat} {Γ:Cx} {Q:Exit->Act->World->Prop} {a:Act} {w:World} {ty:TypeId}
theorem rgs {T:TypeId} {x:Operand} {s:ByteArray} (hx:Od Γ x (Va s)) (hT:P.underlying T=some .string):OR P (.range T x) ty Γ (SI s):=by
 refine OR.run λρ M w r=>?_;obtain ⟨_,hv⟩:=hx ρ M w r;refine ⟨pb w.heap.size 0,w.alloc (.stringIter s 0),λ_ _ _ _=>?_,Ext.alloc _ _ _,[w.heap.size],by simp,λk hk=>?_,w.heap.size,rfl,rfl,Int.le_refl _,heap_alloc_new w _⟩
 ·simp only [execOp,Va.str hv,EU,run_range_string w T s hT,ER,EW];rfl
 ·simp at hk;subst hk;exact ⟨Nat.le_refl _,by simp⟩
theorem sqsi {ops:Array Oper} {rest:List Oper} {d:Nat} {op:Op} {pos:String} {aft:Array Edge} {s:ByteArray} (K:Nat)
  (hs:St M0 w0 n Γ a w) (ho:OR P op ty Γ (SI s)) (hn:Nat.blt d n=true) (hdk:Nat.beq d K=false)
  (k:∀ b a' w',St M0 w0 n ((d,Qv (pb b 0)) :: (K,Si b s 0) :: (d,SI s) :: Γ) a' w'->wpListIn (Fr rr) 0 P ops Q rest a' w'):wpListIn (Fr rr) 0 P ops Q (⟨some d,op,ty,pos,aft,none⟩ :: rest) a w:=
 sq hs ho hn λa' w' s'=>by
  obtain ⟨M,φ,h⟩:=s';obtain ⟨b,hv,hb⟩:=h.holds d (SI s) (by simp [Am]);refine k b a' w' ?_;unfold St;rw [Fh];exact h.split (by simp [Am]) (F8 hdk) ⟨rfl,hv⟩ hb
theorem nxs {ops:Array Oper} {rest:List Oper} {d K:Nat} {x:Operand} {T:TypeId} {p:String} {aft:Array Edge} {b:Nat} {s:ByteArray} {pos:Int}
  (hs:St M0 w0 n Γ a w) (hx:Od Γ x (Qv (pb b 0))) (hk:Am Γ K=some (Si b s pos)) (hn:Nat.blt d n=true) (hdk:Nat.beq d K=false)
  (k:∀ a' w',St M0 w0 n ((d,Nx s pos) :: (K,Si b s (snx s pos)) :: Γ) a' w'->wpListIn (Fr rr) 0 P ops Q rest a' w'):wpListIn (Fr rr) 0 P ops Q (⟨some d,.next x true,T,p,aft,none⟩ :: rest) a w:=by
 refine wpListIn_plain rfl λKc hK=>?_;obtain ⟨M,φ,h⟩:=hs;obtain ⟨_,_,hv⟩:=hx _ _ _ h.rd;obtain ⟨hF,h0,hc⟩:=h.holds K _ hk;have hlt:=(E6.1 hc).1;by_cases hp:pos < s.size
 ·have hp':pos.toNat < s.size:=by omega
  have hrun:(Instr.next (pb b 0) true T).run P w=.ok (.tuple #[.bool true,.int .i64 pos,.int .i32 (Utf8.decode s pos.toNat).1]) { w with heap:=w.heap.setIfInBounds b (.stringIter s (pos.toNat + (Utf8.decode s pos.toNat).2)) }:=by
   simp only [Instr.next,getObj,setObj,EU,Sem.run,hc,Result.andThen,hp',if_true];simp only [goInt,Sem.run];have:((pos.toNat:Nat):Int)=pos:=by omega
   simp [this]
  refine Bh.upon (Bh.val (v:=.tuple #[.bool true,.int .i64 pos,.int .i32 (Utf8.decode s pos.toNat).1]) (w':={ w with heap:=w.heap.setIfInBounds b (.stringIter s (pos.toNat + (Utf8.decode s pos.toNat).2)) }) ?_ ?_)
  ·simp only [execOp,hv,EU,hrun,ER,EW]
  ·refine hK _ _ (k _ _ ?_);have h1:StF M0 w0 n (put K (Si b s (snx s pos)) (Am Γ)) a { w with heap:=w.heap.setIfInBounds b (.stringIter s (pos.toNat + (Utf8.decode s pos.toNat).2)) }:=by
    refine h.write (b:=b) (by rw [hk];rfl) (by rw [hF];simp) ⟨rfl,rfl,rfl,by simp,λq _ hq=>by simp only [HV];rw [if_neg (λe=>hq e.symm)],FH _⟩ ⟨hF,?_,?_⟩
    ·unfold snx;rw [if_pos hp];omega
    ·have e1:(snx s pos).toNat=pos.toNat + (Utf8.decode s pos.toNat).2:=by unfold snx;rw [if_pos hp];omega
     rw [e1];simp only [HV,if_true];rw [if_pos hlt]
   obtain ⟨M',φ',h1⟩:=h1;unfold St;rw [Aj,Aj];exact h1.gives ⟨Ext.refl _ _,[],GB,λq hq=>by simp at hq,rfl,λ_=>rfl,λhh=>absurd hp hh⟩ (FA hn)
 ·have hp':¬ pos.toNat < s.size:=by omega
  have hrun:(Instr.next (pb b 0) true T).run P w=.ok (.tuple #[.bool false]) w:=by
   simp [Instr.next,getObj,Sem.run,hc,hp']
  refine Bh.upon (Bh.val (v:=.tuple #[.bool false]) (w':=w) ?_ ?_)
  ·simp only [execOp,hv,EU,hrun,ER,EW]
  ·refine hK _ _ (k _ _ ?_);have e1:snx s pos=pos:=by unfold snx;rw [if_neg hp]
   rw [e1];have h1:StF M0 w0 n (put K (Si b s pos) (Am Γ)) a w:=StF.less ⟨M,φ,h⟩ λt e he=>by
    unfold put at he;split at he
    ·rename_i ht;rw [ht,hk];exact he
    ·exact he
   obtain ⟨M',φ',h1⟩:=h1;unfold St;rw [Aj,Aj];exact h1.gives ⟨Ext.refl _ _,[],GB,λq hq=>by simp at hq,rfl,λhh=>absurd hh hp,λ_=>rfl⟩ (FA hn)
theorem nx0 {x:Operand} {s:ByteArray} {pos:Int} (h:Od Γ x (Nx s pos)):OR P (.extract x 0) ty Γ (Va (decide (pos < (s.size:Int)))):=OR.val λρ M w r=>by
 obtain ⟨_,_,h1,h2⟩:=h ρ M w r;by_cases hp:pos < s.size
 ·exact ⟨.bool true,λ_ _ _ _=>by simp only [execOp,h1 hp];rfl,by rw [decide_eq_true hp];exact Va.mkBool⟩
 ·exact ⟨.bool false,λ_ _ _ _=>by simp only [execOp,h2 hp];rfl,by rw [decide_eq_false hp];exact Va.mkBool⟩
theorem nx1 {x:Operand} {s:ByteArray} {pos:Int} (h:Od Γ x (Nx s pos)) (hb:decide (pos < (s.size:Int))=true):OR P (.extract x 1) ty Γ (Va pos):=OR.val λρ M w r=>by
 obtain ⟨_,_,h1,_⟩:=h ρ M w r;have hp:pos < s.size:=by simpa using hb
 exact ⟨.int .i64 pos,λ_ _ _ _=>by simp only [execOp,h1 hp];rfl,Va.mkInt⟩
theorem nx2 {x:Operand} {s:ByteArray} {pos:Int} (h:Od Γ x (Nx s pos)) (hb:decide (pos < (s.size:Int))=true):OR P (.extract x 2) ty Γ (Va (srn s pos)):=OR.val λρ M w r=>by
 obtain ⟨_,_,h1,_⟩:=h ρ M w r;have hp:pos < s.size:=by simpa using hb
 exact ⟨.int .i32 (Utf8.decode s pos.toNat).1,λ_ _ _ _=>by simp only [execOp,h1 hp];rfl,Ik.mkv (x:=srn s pos)⟩
end
end Go.Pn
namespace Go.Pn
open Go Go.RowKit Go.Proofs
@[reducible] def lk:Cx->Nat->Option Ent
 | [],_=>none
 | (s,e) :: Γ,t=>match Nat.beq s t with | true=>some e | false=>lk Γ t
theorem Cf:∀ (Γ:Cx) (n:Nat),lk Γ n=Am Γ n
 | [],_=>rfl
 | (s,e) :: Γ,t=>by
  show (match Nat.beq s t with | true=>some e | false=>lk Γ t)=(match Nat.beq s t with | true=>some e | false=>Am Γ t)
  rw [Cf Γ t]
@[reducible] def gt_:List Oper->Nat->Option Tmp
 | [],_=>none
 | o :: _,0=>o.dst
 | _ :: l,j + 1=>gt_ l j
theorem gt_eq:∀ (l:List Oper) (j:Nat) (d:Tmp),gt_ l j=some d->(l[j]?).bind (·.dst)=some d
 | [],_,_,h=>by cases h
 | o :: l,0,d,h=>h
 | o :: l,j + 1,d,h=>by simpa using gt_eq l j d h
class Lk (o:Option Ent) (e:outParam Ent):Prop where h:o=some e
instance {e:Ent}:Lk (some e) e:=⟨rfl⟩
@[reducible] def lk2:Cx->Cx->Nat->Option Ent
 | [],Γ,t=>lk Γ t
 | (s,e) :: Δ,Γ,t=>match Nat.beq s t with | true=>some e | false=>lk2 Δ Γ t
theorem Zt:∀ (Δ Γ:Cx) (n:Nat),lk2 Δ Γ n=lk (Δ ++ Γ) n
 | [],_,_=>rfl
 | (s,e) :: Δ,Γ,t=>by
  show (match Nat.beq s t with | true=>some e | false=>lk2 Δ Γ t)=(match Nat.beq s t with | true=>some e | false=>lk (Δ ++ Γ) t)
  rw [Zt Δ Γ t]
instance {Δ Γ:Cx} {n:Nat} {e:Ent} [h:Lk (lk2 Δ Γ n) e]:Lk (lk (Δ ++ Γ) n) e:=⟨(Zt _ _ _).symm.trans h.h⟩
class Gt (o:Option Tmp) (e:outParam Tmp):Prop where h:o=some e
instance {e:Tmp}:Gt (some e) e:=⟨rfl⟩
theorem gt_o {ops:Array Oper} {L:List Oper} {j d:Nat} (ho:ops.toList=L) (h:gt_ L j=some d):(ops[j]?).bind (·.dst)=some d:=by
 subst ho;have:=gt_eq _ _ _ h
 rwa [HL] at this
@[reducible] def EF (d n:Nat):Option Unit:=match Nat.ble n d with | true=>none | false=>some ()
class Bf (b:Option Unit):Prop where h:b=some ()
instance:Bf (some ()):=⟨rfl⟩
theorem Bf.lt {d n:Nat} (h:Bf (EF d n)):Nat.blt d n=true:=by
 have h:=h.h;unfold EF at h;split at h
 ·cases h
 ·rename_i hb;cases hc:Nat.blt d n with
  | true=>rfl
  | false=>
   have h1:¬ d < n:=λhd=>by
    have:Nat.blt d n=true:=JS hd;rw [this] at hc;cases hc
   have h2:Nat.ble n d=true:=JS om_;rw [h2] at hb;cases hb
class AD (g:Prop) (Γ:Cx) (x:Operand) (e:outParam Ent):Prop where h:g->Od Γ x e
class AO (g:Prop) (P:Program) (op:Op) (Γ:Cx) (e:outParam Ent):Prop where h:g->∀ ty,OR P op ty Γ e
class Ug (g:Prop) (e:Ent) (e':outParam Ent):Prop where h:g->∀ F M w v,e.p F M w v->e'.p F M w v
section
variable {g:Prop} {P:Program} {Γ:Cx}
instance (priority:=low) {e:Ent}:Ug g e e:=⟨λ_ _ _ _ _ h=>h⟩
instance {b c:Bool} {e:Ent}:Ug (b=c) (Gd b c e) e:=⟨λhb _ _ _ _ h=>h.1 hb⟩
instance {b c b2 w:Bool} {e:Ent}:Ug (b=c/\b2=w) (Gd ((b == c) && (b2 == w)) true e) e:=⟨λhb _ _ _ _ h=>h.1 (g2 hb.1 hb.2)⟩
instance {n:Nat} {e e':Ent} [Lk (lk Γ n) e] [Ug g e e']:AD g Γ (.tmp n) e':=⟨λhg ρ M w r=>let ⟨F,hF⟩:=t ((Cf _ _).symm.trans Lk.h) ρ M w r;⟨F,Ug.h hg _ _ _ _ hF⟩⟩
instance {n:Int}:AD g Γ (.const (.int .i64 n)) (Va n):=⟨λ_=>ci⟩
instance {n:Bool}:AD g Γ (.const (.bool n)) (Va n):=⟨λ_=>cb⟩
instance {n:ByteArray}:AD g Γ (.const (.string n)) (Va n):=⟨λ_=>cs⟩
instance (priority:=low) {n:Value}:AD g Γ (.const n) (Qv n):=⟨λ_=>cq⟩
instance {x:Operand} {α:Type} {_:Rep α} {y:α} [AD g Γ x (Va y)]:AO g P (.move x) Γ (Va y):=⟨λh _=>mv (AD.h h)⟩
instance {x:Operand} {α:Type} {_:Rep α} {y:α} [AD g Γ x (Va y)]:AO g P (.assign x) Γ (Va y):=⟨λh _=>sa (AD.h h)⟩
instance {x:Operand} {c:Value} [AD g Γ x (Qv c)]:AO g P (.move x) Γ (Qv c):=⟨λh _=>mvq (AD.h h)⟩
instance {x:Operand} {c:Value} [AD g Γ x (Qv c)]:AO g P (.assign x) Γ (Qv c):=⟨λh _=>saq (AD.h h)⟩
instance (priority:=low) {x:Operand} {e:Ent} [AD g Γ x e] [Zf e]:AO g P (.move x) Γ e:=⟨λh _=>mve (AD.h h)⟩
instance {x y:Operand} {T T':TypeId} {m n:Int} [AD g Γ x (Va m)] [AD g Γ y (Va n)]:AO g P (.binOp .lss T x y T') Γ (Va (decide (m < n))):=⟨λh _=>lt (AD.h h) (AD.h h)⟩
instance {x y:Operand} {T T':TypeId} {m n:Int} [AD g Γ x (Va m)] [AD g Γ y (Va n)]:AO g P (.binOp .leq T x y T') Γ (Va (decide (m<=n))):=⟨λh _=>le (AD.h h) (AD.h h)⟩
instance {x y:Operand} {T T':TypeId} {m n:Int} [AD g Γ x (Va m)] [AD g Γ y (Va n)]:AO g P (.binOp .gtr T x y T') Γ (Va (decide (m > n))):=⟨λh _=>gt (AD.h h) (AD.h h)⟩
instance {x y:Operand} {T T':TypeId} {m n:Int} [AD g Γ x (Va m)] [AD g Γ y (Va n)]:AO g P (.binOp .geq T x y T') Γ (Va (decide (m>=n))):=⟨λh _=>ge (AD.h h) (AD.h h)⟩
instance {x y:Operand} {T T':TypeId} {m n:Int} [AD g Γ x (Va m)] [AD g Γ y (Va n)]:AO g P (.binOp .eql T x y T') Γ (Va (m == n)):=⟨λh _=>eq (AD.h h) (AD.h h)⟩
instance {x y:Operand} {T T':TypeId} {m n:Int} [AD g Γ x (Va m)] [AD g Γ y (Va n)]:AO g P (.binOp .neq T x y T') Γ (Va (m != n)):=⟨λh _=>ne (AD.h h) (AD.h h)⟩
instance {x y:Operand} {T T':TypeId} {m n:Int} [AD g Γ x (Va m)] [AD g Γ y (Va n)]:AO g P (.binOp .add T x y T') Γ (Va (wr (m + n))):=⟨λh _=>ad (AD.h h) (AD.h h)⟩
instance {x y:Operand} {T T':TypeId} {m n:Int} [AD g Γ x (Va m)] [AD g Γ y (Va n)]:AO g P (.binOp .sub T x y T') Γ (Va (wr (m - n))):=⟨λh _=>sb (AD.h h) (AD.h h)⟩
instance {x y:Operand} {T T':TypeId} {m n:Int} [AD g Γ x (Va m)] [AD g Γ y (Va n)]:AO g P (.binOp .mul T x y T') Γ (Va (wr (m * n))):=⟨λh _=>ml (AD.h h) (AD.h h)⟩
instance {x y:Operand} {T T':TypeId} {m n:ByteArray} [AD g Γ x (Va m)] [AD g Γ y (Va n)]:AO g P (.binOp .eql T x y T') Γ (Va (m.toList == n.toList)):=⟨λh _=>seq (AD.h h) (AD.h h)⟩
instance {x:Operand} {T:TypeId} {b:Bool} [AD g Γ x (Va b)]:AO g P (.unOp .not T x) Γ (Va (!b)):=⟨λh _=>nt (AD.h h)⟩
instance {x:Operand} {e1 e2:Ent} [AD g Γ x (T2 e1 e2)] [Zf e1]:AO g P (.extract x 0) Γ e1:=⟨λh _=>x20 (AD.h h)⟩
instance {x:Operand} {e1 e2:Ent} [AD g Γ x (T2 e1 e2)] [Zf e2]:AO g P (.extract x 1) Γ e2:=⟨λh _=>x21 (AD.h h)⟩
instance {x:Operand} {e1 e2 e3:Ent} [AD g Γ x (T3 e1 e2 e3)] [Zf e1]:AO g P (.extract x 0) Γ e1:=⟨λh _=>Pn.x30 (AD.h h)⟩
instance {x:Operand} {e1 e2 e3:Ent} [AD g Γ x (T3 e1 e2 e3)] [Zf e2]:AO g P (.extract x 1) Γ e2:=⟨λh _=>Pn.x31 (AD.h h)⟩
instance {x:Operand} {e1 e2 e3:Ent} [AD g Γ x (T3 e1 e2 e3)] [Zf e3]:AO g P (.extract x 2) Γ e3:=⟨λh _=>Pn.x32 (AD.h h)⟩
instance {T:TypeId} {x:Operand} {α:Type} {_:Rep α} {y:α} [AD g Γ x (Pt y)] [Ty P T α]:AO g P (.load T x) Γ (Va y):=⟨λh _=>ld (AD.h h)⟩
instance {x:Operand} {b o:Nat} [AD g Γ x (Qv (pb b o))]:AO g P (.nilCheck x) Γ (Qv (pb b o)):=⟨λh _=>nkq (AD.h h)⟩
instance {x y:Operand} {T':TypeId} {b c:Bool} [AD g Γ x (Va b)] [AD g Γ y (Va c)]:AO g Tryz.prog (.binOp .eql 4 x y T') Γ (Va (b == c)):=⟨λh _=>beq (AD.h h) (AD.h h) Tryz.underlying4⟩
instance {x y:Operand} {T':TypeId} {b c:Bool} [AD g Γ x (Va b)] [AD g Γ y (Va c)]:AO g Tryz.prog (.binOp .neq 4 x y T') Γ (Va (b != c)):=⟨λh _=>bne (AD.h h) (AD.h h) Tryz.underlying4⟩
instance {x:Operand} {b:ByteArray} [AD g Γ x (Va b)]:AO g Tryz.prog (.call { callee:=.builtin .len,args:=#[x],argTypes:=#[9] }) Γ (Va (b.size:Int)):=⟨λh _=>lns (AD.h h) Tryz.underlying9⟩
class AF (P:Program) (S k:Nat) (α:Type) (hα:Rep α) (β:outParam Type) (hβ:outParam (Rep β)) (f:outParam (α->β)):Prop where h:Fd P S k f
set_option synthInstance.checkSynthOrder false in
instance {S k:Nat} {α β:Type} {hα:Rep α} {hβ:Rep β} {f:α->β} [h:Fd P S k f]:AF P S k α hα β hβ f:=⟨h⟩
instance {S k:Nat} {x:Operand} {α β:Type} {hα:Rep α} {hβ:Rep β} {f:α->β} {y:α} [AD g Γ x (Pt y)] [h:AF P S k α hα β hβ f]:AO g P (.fieldAddr S x k) Γ (Pt (f y)):=⟨λhg _=>have:=h.h;fa (AD.h hg)⟩
instance {T:TypeId} {x:Operand} {α:Type} {_:Rep α} {y:α} [AD g Γ x (Va y)]:AO g P (.box T x) Γ (Pt y):=⟨λh _=>bx (AD.h h)⟩
instance {T:TypeId} {x:Operand} {α:Type} {_:Rep α} {xs:List α} [AD g Γ x (Va xs)] [Es P T α]:AO g P (.call { callee:=.builtin .len,args:=#[x],argTypes:=#[T] }) Γ (Va (xs.length:Int)):=⟨λh _=>ln (AD.h h)⟩
instance {c:Operand} {m:Nat} {b p:Bool} [AD g Γ c (Va b)] [hx:Lk (lk Γ m) (Gd b true (Va p))]:AO g P (.pick c (.tmp m) (.const (.bool false))) Γ (Va (b && p)):=⟨λh _=>paP (AD.h h) ((Cf _ _).symm.trans hx.h)⟩
instance {c:Operand} {m:Nat} {b p:Bool} [AD g Γ c (Va b)] [hx:Lk (lk Γ m) (Gd b false (Va p))]:AO g P (.pick c (.const (.bool true)) (.tmp m)) Γ (Va (b || p)):=⟨λh _=>poP (AD.h h) ((Cf _ _).symm.trans hx.h)⟩
class ADl (g:Prop) (Γ:Cx) (xs:List Operand) (es:List Ent):Prop where h:g->Odl Γ xs es
instance:ADl g Γ [] []:=⟨λ_=>on⟩
instance {x:Operand} {xs:List Operand} {e:Ent} {es:List Ent} [AD g Γ x e] [Zf e] [ADl g Γ xs es]:ADl g Γ (x :: xs) (e :: es):=⟨λh=>oc (AD.h h) (ADl.h h)⟩
class Rn (P:Program) (L:List Oper) (n:Nat) (k:Nat) (l:List Oper) (Γ:Cx) (l':outParam (List Oper)) (Γ':outParam Cx):Prop where
 h:∀ {M0 w0 a w ops Q rr},ops.toList=L->St M0 w0 n Γ a w->(∀ a w,St M0 w0 n Γ' a w->wpListIn (Fr rr) 0 P ops Q l' a w)->wpListIn (Fr rr) 0 P ops Q l a w
variable {L:List Oper} {n k:Nat}
instance {l:List Oper}:Rn P L n 0 l Γ l Γ:=⟨λ_ s h=>h _ _ s⟩
instance {op:Op} {d:Tmp} {ty:TypeId} {pos:String} {aft:Array Edge} {rest l':List Oper} {e:Ent} {Γ':Cx} [AO True P op Γ e] [hn:Bf (EF d n)] [hr:Rn P L n k rest ((d,e) :: Γ) l' Γ'] :
  Rn P L n (k + 1) (⟨some d,op,ty,pos,aft,none⟩ :: rest) Γ l' Γ':=⟨λho s h=>sq s (AO.h trivial ty) hn.lt λ_ _ s=>hr.h ho s h⟩
instance {op:Op} {d j dj:Tmp} {b want:Bool} {ty:TypeId} {pos:String} {aft:Array Edge} {rest l':List Oper} {e:Ent} {Γ':Cx} [hj:Gt (gt_ L j) dj] [hl:Lk (lk Γ dj) (Va b)] [AO (b=want) P op Γ e] [hn:Bf (EF d n)] [hr:Rn P L n k rest ((d,Gd b want e) :: Γ) l' Γ'] :
  Rn P L n (k + 1) (⟨some d,op,ty,pos,aft,some (j,want)⟩ :: rest) Γ l' Γ':=⟨λho s h=>sg s (gt_o ho hj.h) ((Cf _ _).symm.trans hl.h) (λhb=>AO.h hb ty) hn.lt λ_ _ s=>hr.h ho s h⟩
instance {op:Op} {d j dj:Tmp} {b c b2 want:Bool} {ty:TypeId} {pos:String} {aft:Array Edge} {rest l':List Oper} {e:Ent} {Γ':Cx} [hj:Gt (gt_ L j) dj] [hl:Lk (lk Γ dj) (Gd b c (Va b2))] [AO (b=c/\b2=want) P op Γ e] [hn:Bf (EF d n)] [hr:Rn P L n k rest ((d,Gd ((b == c) && (b2 == want)) true e) :: Γ) l' Γ'] :
  Rn P L n (k + 1) (⟨some d,op,ty,pos,aft,some (j,want)⟩ :: rest) Γ l' Γ':=⟨λho s h=>sn s (gt_o ho hj.h) ((Cf _ _).symm.trans hl.h) (λhb hc=>AO.h (g:=b=c/\b2=want) ⟨hb,hc⟩ ty) hn.lt λ_ _ s=>hr.h ho s h⟩
theorem ru {ops:Array Oper} {l l':List Oper} {Γ':Cx} {M0:Fm} {w0:World} {a:Act} {w:World} {Q:Exit->Act->World->Prop} {rr:Option Nat} (k:Nat) (s:St M0 w0 n Γ a w) [hr:Rn P ops.toList n k l Γ l' Γ'] (h:∀ a w,St M0 w0 n Γ' a w->wpListIn (Fr rr) 0 P ops Q l' a w):wpListIn (Fr rr) 0 P ops Q l a w:=hr.h rfl s h
end
end Go.Pn
namespace Go.Pn
open Go Go.RowKit Go.Proofs
section
variable {rr:Option Nat} {P:Program} {M0:Fm} {w0:World} {n:Nat} {Γ:Cx} {Q:Exit->Act->World->Prop} {a:Act} {w:World} {ty:TypeId}
theorem la {c:Code} {id:Nat} {S τ:Type} {m:Nat->S->Option S} {f:Nat} {s0:S} {k:S->Option τ} {r:τ} (hm:(m f s0).bind k=some r) (I:S->Act->World->Prop) (h0:I s0 a w) (hz:∀ s,m 0 s=none)
  (hb:∀ o,k o=some r->∀ n z a w,m (n + 1) z=some o->I z a w->c.wpIn (Fr rr) 0 P (Exit.then (λa' w'=>∃ s',m n s'=some o/\I s' a' w') (Exit.inBlock id (Exit.then (I o) Q))) a w)
  (hc:∀ o,k o=some r->∀ a w,I o a w->Q .normal a w):(Code.block id (Code.loop c)).wpIn (Fr rr) 0 P Q a w:=by
 obtain ⟨o,ho,hk⟩:=bs hm;exact cpI (I o) (wpIn_block (loI m o I f s0 h0 ho hz λn z a w hm s=>hb o hk n z a w hm s)) (hc o hk)
theorem lb {c:Code} {id:Nat} {S ρ τ:Type} {m:Nat->S->Option (Lo S ρ)} {f:Nat} {s0:S} {k:Lo S ρ->Option τ} {r:τ} (hm:(m f s0).bind k=some r) (I:S->Act->World->Prop) (h0:I s0 a w) (hz:∀ s,m 0 s=none)
  (hb:∀ o,k o=some r->∀ n z a w,m (n + 1) z=some o->I z a w->c.wpIn (Fr rr) 0 P (Exit.then (λa' w'=>∃ s',m n s'=some o/\I s' a' w') (Exit.inBlock id (Exit.then (λa w=>∃ z,o=.brk z/\I z a w) Q))) a w)
  (hc:∀ z,k (.brk z)=some r->∀ a w,I z a w->Q .normal a w):(Code.block id (Code.loop c)).wpIn (Fr rr) 0 P Q a w:=by
 obtain ⟨o,ho,hk⟩:=bs hm;exact lcI o I (wpIn_block (loI m o I f s0 h0 ho hz λn z a w hm s=>hb o hk n z a w hm s)) λz a w e h=>by subst e;exact hc z hk a w h
theorem R {id:Nat} {ops:Array Oper} {d:Code} {Γ':Cx} (k:Nat) (s:St M0 w0 n Γ a w) [hr:Rn P ops.toList n k ops.toList Γ [] Γ'] (h:∀ a w,St M0 w0 n Γ' a w->d.wpIn (Fr rr) 0 P Q a w):(Code.seq (Code.region id ops false) d).wpIn (Fr rr) 0 P Q a w:=
 se (rg (hr.h rfl s λ_ _ s=>nl (h _ _ s)))
theorem R0 {id:Nat} {ops:Array Oper} {Γ':Cx} (k:Nat) (s:St M0 w0 n Γ a w) [hr:Rn P ops.toList n k ops.toList Γ [] Γ'] (h:∀ a w,St M0 w0 n Γ' a w->Q .normal a w):(Code.region id ops false).wpIn (Fr rr) 0 P Q a w:=
 rg (hr.h rfl s λ_ _ s=>nl (h _ _ s))
theorem cmf {t:Nat} {b:Bool} {c:Code} {ρ:Type} {x y:Option ρ} {r:ρ} (hs:St M0 w0 n Γ a w) [hl:Lk (lk Γ t) (Va b)] (hm:(bif b then x else y)=some r)
  (ht:b=true->x=some r->c.wpIn (Fr rr) 0 P Q a w) (hf:b=false->y=some r->Q .normal a w):(Code.cond (.tmp t) c .skip).wpIn (Fr rr) 0 P Q a w:=
 cm hs ((Cf _ _).symm.trans hl.h) hm ht λh1 h2=>wpIn_skip (hf h1 h2)
theorem cmt {t:Nat} {b:Bool} {d:Code} {ρ:Type} {x y:Option ρ} {r:ρ} (hs:St M0 w0 n Γ a w) [hl:Lk (lk Γ t) (Va b)] (hm:(bif b then x else y)=some r)
  (ht:b=true->x=some r->Q .normal a w) (hf:b=false->y=some r->d.wpIn (Fr rr) 0 P Q a w):(Code.cond (.tmp t) .skip d).wpIn (Fr rr) 0 P Q a w:=
 cm hs ((Cf _ _).symm.trans hl.h) hm (λh1 h2=>wpIn_skip (ht h1 h2)) hf
theorem cM {t:Nat} {b:Bool} {c d:Code} {ρ:Type} {x y:Option ρ} {r:ρ} (hs:St M0 w0 n Γ a w) [hl:Lk (lk Γ t) (Va b)] (hm:(bif b then x else y)=some r)
  (ht:b=true->x=some r->c.wpIn (Fr rr) 0 P Q a w) (hf:b=false->y=some r->d.wpIn (Fr rr) 0 P Q a w):(Code.cond (.tmp t) c d).wpIn (Fr rr) 0 P Q a w:=
 cm hs ((Cf _ _).symm.trans hl.h) hm ht hf
class ADa (Γ:Cx) (xs:Array Operand) (es:List Ent):Prop where h:Odl Γ xs.toList es
instance {xs:List Operand} {es:List Ent} [h:ADl True Γ xs es]:ADa Γ xs.toArray es:=⟨h.h trivial⟩
theorem cB {ops:Array Oper} {rest:List Oper} {d:Nat} {f:FuncId} {A:Array TypeId} {args:Array Operand} {ps:List Ent} {pos:String} {aft:Array Edge} {ρ τ:Type} {m:Option ρ} {k:ρ->Option τ} {r:τ} {E:ρ->Ent} (hs:St M0 w0 n Γ a w) (hm:m.bind k=some r)
  (c:∀ x,m=some x->Sp P f ps (E x)) [hA:ADa Γ args ps] [hn:Bf (EF d n)]
  (cont:∀ x,k x=some r->∀ a' w',St M0 w0 n ((d,E x) :: Γ) a' w'->wpListIn (Fr rr) 0 P ops Q rest a' w') :
  wpListIn (Fr rr) 0 P ops Q (⟨some d,.call { callee:=.value (.func f),args:=args,argTypes:=A },ty,pos,aft,none⟩ :: rest) a w:=
 let ⟨x,hx,hk⟩:=bs hm;sq hs (cc rfl hA.h (c x hx)) hn.lt (cont x hk)
theorem iB {ops:Array Oper} {rest:List Oper} {d T:Nat} {x i:Operand} {pos:String} {aft:Array Edge} {τ α:Type} {hα:Rep α} {xs:List α} {v:Int} {k:α->Option τ} {r:τ} (hs:St M0 w0 n Γ a w) (hm:(idx xs v).bind k=some r)
  [hx:AD True Γ x (Va xs)] [hi:AD True Γ i (Va v)] [he:Es P T α] [hn:Bf (EF d n)]
  (cont:∀ x,k x=some r->∀ a' w',St M0 w0 n ((d,Pt x) :: Γ) a' w'->wpListIn (Fr rr) 0 P ops Q rest a' w') :
  wpListIn (Fr rr) 0 P ops Q (⟨some d,.indexAddr T x i,ty,pos,aft,none⟩ :: rest) a w:=
 let ⟨_,hx',hk⟩:=bs hm;sq hs (ix (hx.h trivial) (hi.h trivial) hx') hn.lt (cont _ hk)
class Su (Γ' Γ:Cx):Prop where h:∀ t e,Am Γ' t=some e->Am Γ t=some e
instance:Su [] Γ:=⟨λ_ _ h=>by cases h⟩
instance {k:Nat} {e:Ent} {Γ':Cx} [h:Lk (lk Γ k) e] [h':Su Γ' Γ]:Su ((k,e) :: Γ') Γ:=⟨λt e1 he=>by
 rw [Aj] at he;unfold put at he;split at he
 ·rename_i ht;subst ht;cases he;exact (Cf _ _).symm.trans h.h
 ·exact h'.h t e1 he⟩
theorem St.fi {Γ':Cx} (s:St M0 w0 n Γ a w) [h:Su Γ' Γ]:St M0 w0 n Γ' a w:=StF.less s h.h
end
section
variable {P:Program} {M0:Fm} {w0:World} {n:Nat} {Γ:Cx} {a:Act} {w:World}
@[reducible] def nq_ (k d:Nat):Option Unit:=match Nat.beq k d with | true=>none | false=>some ()
theorem nq_h {k d:Nat} (h:Bf (nq_ k d)):Nat.beq k d=false:=by
 have h:=h.h;unfold nq_ at h;split at h
 ·cases h
 ·assumption
class AG (Γ:Cx) (b:Nat) (K:outParam Nat) (e:outParam Ent):Prop where h:Am Γ K=some e
instance {α:Type} {_:Rep α} {K b:Nat} {x:α}:AG ((K,Mg b x) :: Γ) b K (Mg b x):=⟨by simp [Am]⟩
instance (priority:=low) {K k b:Nat} {e e':Ent} [h:AG Γ b K e] [hn:Bf (nq_ k K)]:AG ((k,e') :: Γ) b K e:=⟨by
 have:=nq_h hn;show (match Nat.beq k K with | true=>some e' | false=>Am Γ K)=some e
 rw [this];exact h.h⟩
instance {K b:Nat} {e:Ent} [h:AG Γ b K e]:AG ([] ++ Γ) b K e:=⟨h.h⟩
instance {K b:Nat} {p:Nat×Ent} {Δ:Cx} {e:Ent} [h:AG (p :: (Δ ++ Γ)) b K e]:AG ((p :: Δ) ++ Γ) b K e:=⟨h.h⟩
class AC (Γ:Cx) (c:Value) (K:outParam Nat) (e:outParam Ent):Prop where h:Am Γ K=some (At c e)
instance {K:Nat} {c:Value} {e:Ent}:AC ((K,At c e) :: Γ) c K e:=⟨by simp [Am]⟩
class RC (P:Program) (Γ:Cx) (r:ResultVar) (e:Ent):Prop where h:RS P Γ r e
instance {t:Nat} {e:Ent} [h:Lk (lk Γ t) e] [Zf e]:RC P Γ (.tmp t) e:=⟨rt ((Cf _ _).symm.trans h.h)⟩
instance {t m:Nat} {α:Type} {_:Rep α} [h:Lk (lk Γ t) (Qv (.slice none 0 m))]:RC P Γ (.tmp t) (Va ([]:List α)):=⟨ro (qns (Pn.t ((Cf _ _).symm.trans h.h)))⟩
instance {t T K b:Nat} {α:Type} {_:Rep α} {x:α} [h:Lk (lk Γ t) (Qv (pb b 0))] [h2:AG Γ b K (Mg b x)] [Ty P T α]:RC P Γ (.cell t T) (Va x):=⟨rc ((Cf _ _).symm.trans h.h) h2.h⟩
class RVc (P:Program) (Γ:Cx) (rs:Array ResultVar) (e:Ent):Prop where h:RV P Γ rs e
instance {r:ResultVar} {e:Ent} [h:RC P Γ r e]:RVc P Γ #[r] e:=⟨rv1 h.h⟩
instance {r1 r2:ResultVar} {e1 e2:Ent} [h1:RC P Γ r1 e1] [h2:RC P Γ r2 e2]:RVc P Γ #[r1,r2] (T2 e1 e2):=⟨rv2 h1.h h2.h⟩
instance {r1 r2 r3:ResultVar} {e1 e2 e3:Ent} [h1:RC P Γ r1 e1] [h2:RC P Γ r2 e2] [h3:RC P Γ r3 e3]:RVc P Γ #[r1,r2,r3] (T3 e1 e2 e3):=⟨rv3 h1.h h2.h h3.h⟩
theorem rT {fn:Func} {rr:Option Nat} {Q:Exit->Act->World->Prop} {e:Ent} {r1:ResultVar} (hD:M0.ds=[]) (hs:St M0 w0 n Γ a w) (hq:bqM P fn (Pst M0 w0 e) .ret a w=Q .ret a w) (hr:fn.results=#[r1]) [h:RVc P Γ #[r1] e]:Code.ret.wpIn (Fr rr) 0 P Q a w:=wpIn_ret (hq ▸ rn hD hs hr h.h)
theorem rU {fn:Func} {rr:Option Nat} {Q:Exit->Act->World->Prop} {e:Ent} {r1 r2:ResultVar} (hD:M0.ds=[]) (hs:St M0 w0 n Γ a w) (hq:bqM P fn (Pst M0 w0 e) .ret a w=Q .ret a w) (hr:fn.results=#[r1,r2]) [h:RVc P Γ #[r1,r2] e]:Code.ret.wpIn (Fr rr) 0 P Q a w:=wpIn_ret (hq ▸ rn hD hs hr h.h)
theorem rV {fn:Func} {rr:Option Nat} {Q:Exit->Act->World->Prop} {e:Ent} {r1 r2 r3:ResultVar} (hD:M0.ds=[]) (hs:St M0 w0 n Γ a w) (hq:bqM P fn (Pst M0 w0 e) .ret a w=Q .ret a w) (hr:fn.results=#[r1,r2,r3]) [h:RVc P Γ #[r1,r2,r3] e]:Code.ret.wpIn (Fr rr) 0 P Q a w:=wpIn_ret (hq ▸ rn hD hs hr h.h)
end
end Go.Pn
namespace Go.Pn
open Go Go.RowKit
set_option synthInstance.checkSynthOrder false
class Kw (g:Prop) {ρ:Type} (m:Option ρ) (x:outParam ρ):Prop where h:g->m=some x
theorem Kw.e {ρ:Type} {m:Option ρ} {x:ρ} (h:Kw True m x):m=some x:=h.h trivial
theorem bk {α β:Type} {o:Option α} {f:α->Option β} {r:β} (h:o.bind f=some r):∃ x,Kw True o x/\f x=some r:=let ⟨x,h1,h2⟩:=bs h;⟨x,⟨λ_=>h1⟩,h2⟩
theorem gk {α ρ:Type} [Inhabited α] {B c:Bool} {o:Option α} {k:α->Option ρ} {r:ρ} (h:B=c->o.bind k=some r):∃ x,Kw (B=c) o x/\(B=c->k x=some r):=let ⟨x,h1,h2⟩:=gx h;⟨x,⟨h1⟩,h2⟩
class Kf (g:Prop) {ρ:Type} (m:Option ρ) (x:outParam ρ):Prop where h:g->m=some x
section
variable {g:Prop} {ρ:Type} {m:Option ρ} {x:ρ}
instance [h:Kw g m x]:Kf g m x:=⟨h.h⟩
end
class Pa (b p:Bool) (r:outParam Bool):Prop where
 h:b=true->p=r
 z:b=false->r=false
class Po (b p:Bool) (r:outParam Bool):Prop where
 h:b=false->p=r
 z:b=true->r=true
theorem pka {b p r:Bool} (h:b=true->some p=some r) (e:b=false->some false=some r):Pa b p r:=⟨λx=>si (h x),λx=>(si (e x)).symm⟩
theorem pko {b p r:Bool} (h:b=false->some p=some r) (e:b=true->some true=some r):Po b p r:=⟨λx=>si (h x),λx=>(si (e x)).symm⟩
class Cn (P:Program) (f:FuncId) {ρ:outParam Type} (m:outParam (Option ρ)) (ps:outParam (List Ent)) (E:outParam (ρ->Ent)):Prop where h:∀ x,m=some x->Sp P f ps (E x)
section
variable {g:Prop} {P:Program} {Γ:Cx}
class AX (g:Prop) (Γ:Cx) (x:Operand) (e:Ent):Prop where h:g->Od Γ x e
instance {x:Operand} {e:Ent} [h:AD g Γ x e]:AX g Γ x e:=⟨h.h⟩
instance (priority:=low) {x:Operand} {K:Nat} {c:Value} {e:Ent} [h:AD g Γ x (Qv c)] [h2:AC Γ c K e]:AX g Γ x e:=⟨λhg=>ta (h.h hg) h2.h⟩
class AXl (g:Prop) (Γ:Cx) (xs:List Operand) (es:List Ent):Prop where h:g->Odl Γ xs es
instance:AXl g Γ [] []:=⟨λ_=>on⟩
instance {x:Operand} {xs:List Operand} {e:Ent} {es:List Ent} [h:AX g Γ x e] [Zf e] [h':AXl g Γ xs es]:AXl g Γ (x :: xs) (e :: es):=⟨λhg=>oc (h.h hg) (h'.h hg)⟩
instance {f:FuncId} {ρ:Type} {m:Option ρ} {ps:List Ent} {E:ρ->Ent} {xs:List Operand} {A:Array TypeId} {x:ρ} [hc:Cn P f m ps E] [hA:AXl g Γ xs ps] [hk:Kf g m x] :
  AO g P (.call { callee:=.value (.func f),args:=xs.toArray,argTypes:=A }) Γ (E x):=⟨λhg _=>cc rfl (hA.h hg) (hc.h x (hk.h hg))⟩
instance {T:TypeId} {x i:Operand} {α:Type} {hα:Rep α} {xs:List α} {v:Int} {y:α} [hx:AD g Γ x (Va xs)] [hi:AX g Γ i (Va v)] [he:Es P T α] [hk:Kf g (idx xs v) y] :
  AO g P (.indexAddr T x i) Γ (Pt y):=⟨λhg _=>ix (hx.h hg) (hi.h hg) (hk.h hg)⟩
instance (priority:=high) {c:Operand} {m:Nat} {b p r:Bool} [hc:AD g Γ c (Va b)] [hx:Lk (lk Γ m) (Gd b true (Va p))] [hp:Pa b p r]:AO g P (.pick c (.tmp m) (.const (.bool false))) Γ (Va r):=⟨λh _=>pa (hc.h h) ((Cf _ _).symm.trans hx.h) hp.h hp.z⟩
instance (priority:=high) {c:Operand} {m:Nat} {b p r:Bool} [hc:AD g Γ c (Va b)] [hx:Lk (lk Γ m) (Gd b false (Va p))] [hp:Po b p r]:AO g P (.pick c (.const (.bool true)) (.tmp m)) Γ (Va r):=⟨λh _=>po (hc.h h) ((Cf _ _).symm.trans hx.h) hp.h hp.z⟩
instance {c:Operand} {m:Nat} {B w b p:Bool} [hc:AD (B=w) Γ c (Va b)] [hx:Lk (lk Γ m) (Gd ((B == w) && (b == true)) true (Va p))]:AO (B=w) P (.pick c (.tmp m) (.const (.bool false))) Γ (Va (b && p)):=⟨λh _=>pagP (hc.h h) ((Cf _ _).symm.trans hx.h) λe=>g2 h e⟩
instance {c:Operand} {m:Nat} {B w b p:Bool} [hc:AD (B=w) Γ c (Va b)] [hx:Lk (lk Γ m) (Gd ((B == w) && (b == false)) true (Va p))]:AO (B=w) P (.pick c (.const (.bool true)) (.tmp m)) Γ (Va (b || p)):=⟨λh _=>pogP (hc.h h) ((Cf _ _).symm.trans hx.h) λe=>g2 h e⟩
instance {x y:Operand} {T T':TypeId} {m n:Int} [hx:AD g Γ x (Va m)] [hy:AD g Γ y (Va n)]:AO g P (.call { callee:=.builtin .max,args:=#[x,y],argTypes:=#[T,T'] }) Γ (Va (if n > m then n else m)):=⟨λh _=>mx (hx.h h) (hy.h h)⟩
instance {K b:Nat} {cs:List Value}:AG ((K,Mr b cs) :: Γ) b K (Mr b cs):=⟨by simp [Am]⟩
instance {T K b:Nat} {x:Operand} {α:Type} {_:Rep α} {y:α} [hx:AD g Γ x (Qv (pb b 0))] [hk:AG Γ b K (Mg b y)] [Ty P T α]:AO g P (.load T x) Γ (Va y):=⟨λh _=>lm (hx.h h) hk.h⟩
class AFo (α:Type) (hα:Rep α) (off:Nat) (β:outParam Type) (hβ:outParam (Rep β)) (f:outParam (α->β)):Prop where h:DF f off
instance {off:Nat} {α β:Type} {hα:Rep α} {hβ:Rep β} {f:α->β} [h:DF f off]:AFo α hα off β hβ f:=⟨h⟩
instance (priority:=low) {T K b off:Nat} {x:Operand} {α β:Type} {hα:Rep α} {hβ:Rep β} {y:α} {f:α->β} [hx:AD g Γ x (Qv (pb b off))] [hk:AG Γ b K (Mg b y)] [hf:AFo α hα off β hβ f] [Ty P T β]:AO g P (.load T x) Γ (Va (f y)):=⟨λh _=>have:=hf.h;lf (hx.h h) hk.h⟩
class Fo (P:Program) (S k:Nat) (off:outParam Nat):Prop where h:∃ m,Ky P S k=some (off,m + 1)
class Pq (o off:Nat) (q:outParam Nat):Prop where h:o + off=q
instance {o:Nat}:Pq 0 o o:=⟨Nat.zero_add o⟩
instance (priority:=low) {o:Nat}:Pq o 0 o:=⟨rfl⟩
instance {S k b o off q:Nat} {x:Operand} [hx:AD g Γ x (Qv (pb b o))] [hf:Fo P S k off] [hq:Pq o off q]:AO g P (.fieldAddr S x k) Γ (Qv (pb b q)):=⟨λh _=>let ⟨_,e⟩:=hf.h;fm_ (hx.h h) e hq.h⟩
@[reducible] def nth_:List Value->Nat->Option Value
 | [],_=>none
 | c :: _,0=>some c
 | _ :: l,j + 1=>nth_ l j
theorem Yd:∀ (l:List Value) (j:Nat),nth_ l j=l[j]?
 | [],_=>rfl
 | _ :: _,0=>rfl
 | _ :: l,j + 1=>by simpa [nth_] using Yd l j
class Nt (o:Option Value) (c:outParam Value):Prop where h:o=some c
instance {c:Value}:Nt (some c) c:=⟨rfl⟩
instance (priority:=low) {T K b off:Nat} {x:Operand} {β:Type} {_:Rep β} {cs:List Value} {c:Value} [hx:AD g Γ x (Qv (pb b off))] [hk:AG Γ b K (Mr b cs)] [hc:Nt (nth_ cs off) c] [Ty P T (List β)]:AO g P (.load T x) Γ (Qv c):=⟨λh _=>lrc (List β) (hx.h h) hk.h ((Yd _ _).symm.trans hc.h) rfl rfl⟩
instance (priority:=low) {T K b off:Nat} {x:Operand} {cs:List Value} {c:Value} [hx:AD g Γ x (Qv (pb b off))] [hk:AG Γ b K (Mr b cs)] [hc:Nt (nth_ cs off) c] [Ty P T Int]:AO g P (.load T x) Γ (Qv c):=⟨λh _=>lrc Int (hx.h h) hk.h ((Yd _ _).symm.trans hc.h) rfl rfl⟩
class AR (Γ:Cx) (c:Value) (K:outParam Nat) (ei:outParam Nat) (α:outParam Type) (hα:outParam (Rep α)) (xs:outParam (List α)):Prop where h:Am Γ K=some (Ow ei c xs)
instance {K ei:Nat} {c:Value} {α:Type} {hα:Rep α} {xs:List α}:AR ((K,Ow ei c xs) :: Γ) c K ei α hα xs:=⟨by simp [Am]⟩
instance (priority:=low) {K k ei:Nat} {c:Value} {e':Ent} {α:Type} {hα:Rep α} {xs:List α} [h:AR Γ c K ei α hα xs] [hn:Bf (nq_ k K)]:AR ((k,e') :: Γ) c K ei α hα xs:=⟨by
 have:=nq_h hn;show (match Nat.beq k K with | true=>some e' | false=>Am Γ K)=some (Ow ei c xs)
 rw [this];exact h.h⟩
instance {K ei:Nat} {c:Value} {α:Type} {hα:Rep α} {xs:List α} [h:AR Γ c K ei α hα xs]:AR ([] ++ Γ) c K ei α hα xs:=⟨h.h⟩
instance {K ei:Nat} {c:Value} {p:Nat×Ent} {Δ:Cx} {α:Type} {hα:Rep α} {xs:List α} [h:AR (p :: (Δ ++ Γ)) c K ei α hα xs]:AR ((p :: Δ) ++ Γ) c K ei α hα xs:=⟨h.h⟩
instance {T K e:Nat} {x i:Operand} {c:Value} {α:Type} {hα:Rep α} {xs:List α} {m:Int} {y:α} [hx:AD g Γ x (Qv c)] [hk:AR Γ c K e α hα xs] [hi:AX g Γ i (Va m)] [he:Ea P T e α] [h:Kf g (idx xs m) y]:AO g P (.indexAddr T x i) Γ (Pe c (m.toNat * Rep.sz α)):=⟨λhg _=>ixq (hx.h hg) hk.h (hi.h hg) (h.h hg)⟩
instance {T K e:Nat} {x:Operand} {c:Value} {α:Type} {hα:Rep α} {xs:List α} {m:Int} {y:α} [hx:AD g Γ x (Pe c (m.toNat * Rep.sz α))] [hk:AR Γ c K e α hα xs] [Ty P T α] [h:Kf g (idx xs m) y]:AO g P (.load T x) Γ (Va y):=⟨λhg _=>lq (hx.h hg) hk.h (Fk (h.h hg))⟩
instance {T K e:Nat} {x:Operand} {c:Value} {α:Type} {hα:Rep α} {xs:List α} [hx:AD g Γ x (Qv c)] [hk:AR Γ c K e α hα xs] [he:Ea P T e α]:AO g P (.call { callee:=.builtin .len,args:=#[x],argTypes:=#[T] }) Γ (Va (xs.length:Int)):=⟨λhg _=>lnq (hx.h hg) hk.h⟩
class Smz (α:Type) [Rep α]:Prop where h:Nat.ble (Rep.sz α) 1000000=true
theorem Smz.le {α:Type} [Rep α] [h:Smz α] {k:Nat} (hk:Nat.ble k 16=true):Nat.ble (k * Rep.sz α) 16777216=true:=by
 have h1:=FA h.h;have h2:=FA hk;refine JS ?_;exact F6 (Nat.mul_le_mul h2 h1) (by decide)
instance {T e:Nat} {α:Type} {_:Rep α} [Ea P T e α] [Smz α] {x:Operand} {y:α} [hx:AX g Γ x (Va y)]:AO g P (.buildSlice T 1 #[(0,x)]) Γ (Va [y]):=⟨λhg _=>bsv (o1 (hx.h hg) o0) rfl rfl (Smz.le rfl)⟩
instance {T e:Nat} {α:Type} {_:Rep α} [Ea P T e α] [Smz α] {x x2:Operand} {y y2:α} [hx:AX g Γ x (Va y)] [hx2:AX g Γ x2 (Va y2)]:AO g P (.buildSlice T 2 #[(0,x),(1,x2)]) Γ (Va [y,y2]):=⟨λhg _=>bsv (o1 (hx.h hg) (o1 (hx2.h hg) o0)) rfl rfl (Smz.le rfl)⟩
theorem Pr {ks:List Nat} {t:Nat} {Δ Γ:Cx} (ht:t∈ks):Am (Df ks Δ ++ Γ) t=Am (Δ ++ Γ) t:=by
 induction Δ with
 | nil=>rfl
 | cons p Δ ih=>
  obtain ⟨s,e⟩:=p;show Am ((match ks.contains s with | true=>(s,e) :: Df ks Δ | false=>Df ks Δ) ++ Γ) t=(match Nat.beq s t with | true=>some e | false=>Am (Δ ++ Γ) t)
  split
  ·show (match Nat.beq s t with | true=>some e | false=>Am (Df ks Δ ++ Γ) t)=_
   rw [ih]
  ·rename_i hc;split
   ·rename_i hb;have:=G0 hb;subst this;simp at hc;exact absurd ht hc
   ·exact ih
class Ot (op:Op) (n:Nat):Prop where h:n∈Ar op
class Ml (n:Nat) (xs:List Operand):Prop where h:Operand.tmp n∈xs
instance {n:Nat} {xs:List Operand}:Ml n (.tmp n :: xs):=⟨by simp⟩
instance (priority:=low) {n:Nat} {x:Operand} {xs:List Operand} [h:Ml n xs]:Ml n (x :: xs):=⟨by simp [h.h]⟩
instance {n:Nat}:Ot (.move (.tmp n)) n:=⟨by simp [Ar,Op.operands]⟩
instance {n:Nat} {o:BinOp} {T T':TypeId} {y:Operand}:Ot (.binOp o T (.tmp n) y T') n:=⟨by simp [Ar,Op.operands]⟩
instance {n:Nat} {o:BinOp} {T T':TypeId} {x:Operand}:Ot (.binOp o T x (.tmp n) T') n:=⟨by simp [Ar,Op.operands]⟩
instance {n:Nat} {o:UnOp} {T:TypeId}:Ot (.unOp o T (.tmp n)) n:=⟨by simp [Ar,Op.operands]⟩
instance {n T:Nat}:Ot (.load T (.tmp n)) n:=⟨by simp [Ar,Op.operands]⟩
instance {n:Nat}:Ot (.nilCheck (.tmp n)) n:=⟨by simp [Ar,Op.operands]⟩
instance {n S k:Nat}:Ot (.fieldAddr S (.tmp n) k) n:=⟨by simp [Ar,Op.operands]⟩
instance {n T:Nat} {y:Operand}:Ot (.indexAddr T (.tmp n) y) n:=⟨by simp [Ar,Op.operands]⟩
instance {n T:Nat} {x:Operand}:Ot (.indexAddr T x (.tmp n)) n:=⟨by simp [Ar,Op.operands]⟩
instance {n:Nat} {x y:Operand}:Ot (.pick (.tmp n) x y) n:=⟨by simp [Ar,Op.operands]⟩
instance {n:Nat} {x y:Operand}:Ot (.pick x (.tmp n) y) n:=⟨by simp [Ar,Op.operands]⟩
instance {n:Nat} {x y:Operand}:Ot (.pick x y (.tmp n)) n:=⟨by simp [Ar,Op.operands]⟩
instance {n T i:Nat}:Ot (.buildSlice T 1 #[(i,.tmp n)]) n:=⟨by simp [Ar,Op.operands]⟩
instance {n:Nat} {f:FuncId} {xs:List Operand} {A:Array TypeId} [h:Ml n xs]:Ot (.call { callee:=.value (.func f),args:=xs.toArray,argTypes:=A }) n:=⟨by simp only [Ar,Op.operands,Call.operands,GU];exact ⟨.tmp n,by simp [h.h],rfl⟩⟩
instance {n:Nat} {f:Builtin} {xs:List Operand} {A:Array TypeId} [h:Ml n xs]:Ot (.call { callee:=.builtin f,args:=xs.toArray,argTypes:=A }) n:=⟨by simp only [Ar,Op.operands,Call.operands,GU];exact ⟨.tmp n,by simp [h.h],rfl⟩⟩
instance {op:Op} {Δ:Cx} {n:Nat} {e:Ent} [hl:Lk (lk2 Δ Γ n) e] [ho:Ot op n]:Lk (lk (Df (Ar op) Δ ++ Γ) n) e:=⟨by
 rw [Cf];have h1:=hl.h;rw [Zt,Cf] at h1;exact (Pr ho.h).trans h1⟩
class Nk (Δ:Cx) (K:Nat):Prop where h:Am Δ K=none
instance {K:Nat}:Nk [] K:=⟨rfl⟩
instance {Δ:Cx} {K k:Nat} {e:Ent} [hn:Bf (nq_ k K)] [h:Nk Δ K]:Nk ((k,e) :: Δ) K:=⟨by
 have:=nq_h hn;show (match Nat.beq k K with | true=>some e | false=>Am Δ K)=none
 rw [this];exact h.h⟩
theorem Gu {Δ Γ:Cx} {K:Nat} (h:Am Δ K=none):Am (Δ ++ Γ) K=Am Γ K:=by
 induction Δ with
 | nil=>rfl
 | cons p Δ ih=>
  obtain ⟨k,e⟩:=p;have h':(match Nat.beq k K with | true=>some e | false=>Am Δ K)=none:=h
  show (match Nat.beq k K with | true=>some e | false=>Am (Δ ++ Γ) K)=Am Γ K
  split at h'
  ·cases h'
  ·exact ih h'
theorem Eo {Δ:Cx} {ks:List Nat} {K:Nat} (h:Am Δ K=none):Am (Df ks Δ) K=none:=by
 cases hl:Am (Df ks Δ) K with
 | none=>rfl
 | some e=>exact absurd (Bl hl).2 (by rw [h];simp)
instance {Δ:Cx} {ks:List Nat} {b K:Nat} {e:Ent} [h:AG Γ b K e] [hn:Nk Δ K]:AG (Df ks Δ ++ Γ) b K e:=⟨(Gu (Eo hn.h)).trans h.h⟩
instance {Δ:Cx} {ks:List Nat} {c:Value} {K ei:Nat} {α:Type} {hα:Rep α} {xs:List α} [h:AR Γ c K ei α hα xs] [hn:Nk Δ K]:AR (Df ks Δ ++ Γ) c K ei α hα xs:=⟨(Gu (Eo hn.h)).trans h.h⟩
class Fs (P:Program) (L:List Oper) (k:Nat) (l:List Oper) (i:Nat) (Γ Δ:Cx) (Δ':outParam Cx) (l':outParam (List Oper)):Prop where
 h:∀ {ops:Array Oper},ops.toList=L->L.drop i=l->Fl P ops Γ i Δ->Fl P ops Γ (i + k) Δ'/\L.drop (i + k)=l'
variable {L:List Oper} {k i:Nat} {Δ Δ':Cx} {l':List Oper}
instance {l:List Oper}:Fs P L 0 l i Γ Δ Δ l:=⟨λ_ h2 h=>⟨h,h2⟩⟩
theorem fs_at {ops:Array Oper} {L l:List Oper} {o:Oper} {i:Nat} (h:ops.toList=L) (hd:L.drop i=o :: l):ops[i]?=some o/\L.drop (i + 1)=l:=by
 subst h;constructor
 ·rw [← HL,← List.head?_drop,hd];rfl
 ·rw [← List.drop_drop,hd];rfl
instance {l:List Oper} {op:Op} {d:Tmp} {ty:TypeId} {pos:String} {aft:Array Edge} {e:Ent} [ho:AO True P op (Df (Ar op) Δ ++ Γ) e] [hr:Fs P L k l (i + 1) Γ ((d,e) :: Δ) Δ' l'] :
  Fs P L (k + 1) (⟨some d,op,ty,pos,aft,none⟩ :: l) i Γ Δ Δ' l':=⟨λh1 h2 h=>by
 have h3:=fs_at h1 h2;have:=hr.h h1 h3.2 (.cons h h3.1 (ho.h trivial ty))
 rwa [Nat.add_right_comm] at this⟩
instance {l:List Oper} {op:Op} {d j dj:Tmp} {b want:Bool} {ty:TypeId} {pos:String} {aft:Array Edge} {e:Ent} [hj:Gt (gt_ L j) dj] [hl:Lk (lk Δ dj) (Va b)] [ho:AO (b=want) P op (Df (Ar op) Δ ++ Γ) e] [hr:Fs P L k l (i + 1) Γ ((d,Gd b want e) :: Δ) Δ' l'] :
  Fs P L (k + 1) (⟨some d,op,ty,pos,aft,some (j,want)⟩ :: l) i Γ Δ Δ' l':=⟨λh1 h2 h=>by
 have h3:=fs_at h1 h2;have:=hr.h h1 h3.2 (.cong h h3.1 (gt_o h1 hj.h) ((Cf _ _).symm.trans hl.h) λhb=>ho.h hb ty)
 rwa [Nat.add_right_comm] at this⟩
theorem fW {n id:Nat} {M0:Fm} {w0:World} [hmx:Mx P] {rr:Option Nat} {ops:Array Oper} {Q:Exit->Act->World->Prop} {a:Act} {w:World} (m:Nat) (hs:St M0 w0 n Γ a w) [hfl:Fs P ops.toList m ops.toList 0 Γ [] Δ l'] (hf:Gw ops m=true)
  (hdj:Δ.all (λx=>(Am Γ x.1).isNone)=true) (hn:Δ.all (λx=>Nat.blt x.1 n)=true)
  (K:∀ a' w',St M0 w0 n (Δ ++ Γ) a' w'->wpListIn (Fr rr) 0 P ops Q l' a' w'):(Code.region id ops true).wpIn (Fr rr) 0 P Q a w:=by
 have:=hfl.h rfl rfl .nil;rw [GV] at this;exact Lf (m:=m) hs this.1 hf hdj hn λa' w' s=>by rw [this.2];exact K a' w' s
class Zc (P:Program) (T:TypeId) (cs:outParam (List Value)):Prop where h:∀ ty Γ,OR P (.alloc T) ty Γ (MR cs)
theorem aR {n:Nat} {M0:Fm} {w0:World} {rr:Option Nat} {Q:Exit->Act->World->Prop} {a:Act} {w:World} {ops:Array Oper} {rest:List Oper} {d T:Nat} {ty:TypeId} {pos:String} {aft:Array Edge} {cs:List Value} (K:Nat)
  (hs:St M0 w0 n Γ a w) [hz:Zc P T cs] [hn:Bf (EF d n)] [hdk:Bf (nq_ d K)]
  (k:∀ b a' w',St M0 w0 n ((d,Qv (pb b 0)) :: (K,Mr b cs) :: (d,MR cs) :: Γ) a' w'->wpListIn (Fr rr) 0 P ops Q rest a' w'):wpListIn (Fr rr) 0 P ops Q (⟨some d,.alloc T,ty,pos,aft,none⟩ :: rest) a w:=
 sqr K hs (hz.h ty Γ) hn.lt (nq_h hdk) k
theorem sW {n:Nat} {M0:Fm} {w0:World} {rr:Option Nat} {Q:Exit->Act->World->Prop} {a:Act} {w:World} {ops:Array Oper} {rest:List Oper} {T K b:Nat} {x y:Operand} {ty:TypeId} {pos:String} {aft:Array Edge} {α:Type} {_:Rep α} [Ty P T α] {v:α} {cs:List Value}
  (hs:St M0 w0 n Γ a w) [hx:AD True Γ x (Qv (pb b 0))] [hk:AG Γ b K (Mr b cs)] [hy:AD True Γ y (Va v)] (hl:cs.length=Rep.sz α)
  (k:∀ w',St M0 w0 n ((K,Mg b v) :: Γ) a w'->wpListIn (Fr rr) 0 P ops Q rest a w'):wpListIn (Fr rr) 0 P ops Q (⟨none,.store T x y,ty,pos,aft,none⟩ :: rest) a w:=
 swd hs (hx.h trivial) hk.h (hy.h trivial) hl k
end
end Go.Pn
namespace Go.Pn
open Go Go.RowKit
@[reducible] def ap_:Cx->Cx->Cx
 | [],Γ=>Γ
 | p :: l,Γ=>p :: ap_ l Γ
class Pj (Γ:Cx) (ks:List Nat) (Γ':outParam Cx):Prop where h:∀ t e,Am Γ' t=some e->Am Γ t=some e
instance {Γ:Cx}:Pj Γ [] []:=⟨λ_ _ h=>by cases h⟩
instance {Γ Γ':Cx} {k:Nat} {ks:List Nat} {e:Ent} [h:Lk (lk Γ k) e] [h':Pj Γ ks Γ']:Pj Γ (k :: ks) ((k,e) :: Γ'):=⟨λt e1 he=>by
 rw [Aj] at he;unfold put at he;split at he
 ·rename_i ht;subst ht;cases he;exact (Cf _ _).symm.trans h.h
 ·exact h'.h t e1 he⟩
section
variable {rr:Option Nat} {P:Program} {M0:Fm} {w0:World} {nn:Nat} {Γ Γ0:Cx} {Q:Exit->Act->World->Prop} {a:Act} {w:World}
theorem lA {c:Code} {id:Nat} {S τ:Type} {m:Nat->S->Option S} {f:Nat} {s0:S} {k:S->Option τ} {r:τ} (hm:(m f s0).bind k=some r) (ks:List Nat) (s:St M0 w0 nn Γ a w) [Pj Γ ks Γ0] (C:S->Cx) (h0:St M0 w0 nn (ap_ (C s0) Γ0) a w) (hz:∀ s,m 0 s=none)
  (hb:∀ o,k o=some r->∀ n z a w,m (n + 1) z=some o->St M0 w0 nn (ap_ (C z) Γ0) a w->c.wpIn (Fr rr) 0 P (Exit.then (λa' w'=>∃ s',m n s'=some o/\St M0 w0 nn (ap_ (C s') Γ0) a' w') (Exit.inBlock id (Exit.then (λa w=>St M0 w0 nn (ap_ (C o) Γ0) a w) Q))) a w)
  (hc:∀ o,k o=some r->∀ a w,St M0 w0 nn (ap_ (C o) Γ0) a w->Q .normal a w):(Code.block id (Code.loop c)).wpIn (Fr rr) 0 P Q a w:=
 la hm (λz a w=>St M0 w0 nn (ap_ (C z) Γ0) a w) h0 hz hb hc
theorem lA1 {c:Code} {id:Nat} {S τ:Type} {m:Nat->S->Option S} {f:Nat} {s0:S} {k:S->Option τ} {r:τ} (hm:(m f s0).bind k=some r) (ks:List Nat) (s:St M0 w0 nn Γ a w) [Pj Γ ks Γ0] (C:S->Value->Cx) (h0:∃ v,St M0 w0 nn (ap_ (C s0 v) Γ0) a w) (hz:∀ s,m 0 s=none)
  (hb:∀ o,k o=some r->∀ n z a w,m (n + 1) z=some o->(∃ v,St M0 w0 nn (ap_ (C z v) Γ0) a w)->c.wpIn (Fr rr) 0 P (Exit.then (λa' w'=>∃ s',m n s'=some o/\∃ v,St M0 w0 nn (ap_ (C s' v) Γ0) a' w') (Exit.inBlock id (Exit.then (λa w=>∃ v,St M0 w0 nn (ap_ (C o v) Γ0) a w) Q))) a w)
  (hc:∀ o,k o=some r->∀ a w,(∃ v,St M0 w0 nn (ap_ (C o v) Γ0) a w)->Q .normal a w):(Code.block id (Code.loop c)).wpIn (Fr rr) 0 P Q a w:=
 la hm (λz a w=>∃ v,St M0 w0 nn (ap_ (C z v) Γ0) a w) h0 hz hb hc
theorem lB {c:Code} {id:Nat} {S ρ τ:Type} {m:Nat->S->Option (Lo S ρ)} {f:Nat} {s0:S} {k:Lo S ρ->Option τ} {r:τ} (hm:(m f s0).bind k=some r) (ks:List Nat) (s:St M0 w0 nn Γ a w) [Pj Γ ks Γ0] (C:S->Cx) (h0:St M0 w0 nn (ap_ (C s0) Γ0) a w) (hz:∀ s,m 0 s=none)
  (hb:∀ o,k o=some r->∀ n z a w,m (n + 1) z=some o->St M0 w0 nn (ap_ (C z) Γ0) a w->c.wpIn (Fr rr) 0 P (Exit.then (λa' w'=>∃ s',m n s'=some o/\St M0 w0 nn (ap_ (C s') Γ0) a' w') (Exit.inBlock id (Exit.then (λa w=>∃ z,o=.brk z/\St M0 w0 nn (ap_ (C z) Γ0) a w) Q))) a w)
  (hc:∀ z,k (.brk z)=some r->∀ a w,St M0 w0 nn (ap_ (C z) Γ0) a w->Q .normal a w):(Code.block id (Code.loop c)).wpIn (Fr rr) 0 P Q a w:=
 lb hm (λz a w=>St M0 w0 nn (ap_ (C z) Γ0) a w) h0 hz hb hc
theorem lB1 {c:Code} {id:Nat} {S ρ τ:Type} {m:Nat->S->Option (Lo S ρ)} {f:Nat} {s0:S} {k:Lo S ρ->Option τ} {r:τ} (hm:(m f s0).bind k=some r) (ks:List Nat) (s:St M0 w0 nn Γ a w) [Pj Γ ks Γ0] (C:S->Value->Cx) (h0:∃ v,St M0 w0 nn (ap_ (C s0 v) Γ0) a w) (hz:∀ s,m 0 s=none)
  (hb:∀ o,k o=some r->∀ n z a w,m (n + 1) z=some o->(∃ v,St M0 w0 nn (ap_ (C z v) Γ0) a w)->c.wpIn (Fr rr) 0 P (Exit.then (λa' w'=>∃ s',m n s'=some o/\∃ v,St M0 w0 nn (ap_ (C s' v) Γ0) a' w') (Exit.inBlock id (Exit.then (λa w=>∃ z,o=.brk z/\∃ v,St M0 w0 nn (ap_ (C z v) Γ0) a w) Q))) a w)
  (hc:∀ z,k (.brk z)=some r->∀ a w,(∃ v,St M0 w0 nn (ap_ (C z v) Γ0) a w)->Q .normal a w):(Code.block id (Code.loop c)).wpIn (Fr rr) 0 P Q a w:=
 lb hm (λz a w=>∃ v,St M0 w0 nn (ap_ (C z v) Γ0) a w) h0 hz hb hc
theorem cP {c:Code} (ks:List Nat) (s:St M0 w0 nn Γ a w) [Pj Γ ks Γ0] (C:Cx) (h:c.wpIn (Fr rr) 0 P (Exit.then (λa w=>St M0 w0 nn (ap_ C Γ0) a w) Q) a w) (h':∀ a w,St M0 w0 nn (ap_ C Γ0) a w->Q .normal a w):c.wpIn (Fr rr) 0 P Q a w:=cpI _ h h'
theorem cP1 {c:Code} (ks:List Nat) (s:St M0 w0 nn Γ a w) [Pj Γ ks Γ0] (C:Value->Cx) (h:c.wpIn (Fr rr) 0 P (Exit.then (λa w=>∃ v,St M0 w0 nn (ap_ (C v) Γ0) a w) Q) a w) (h':∀ a w,(∃ v,St M0 w0 nn (ap_ (C v) Γ0) a w)->Q .normal a w):c.wpIn (Fr rr) 0 P Q a w:=cpI _ h h'
end
end Go.Pn
set_option maxRecDepth 100000
namespace Go.Pn
open Go Go.RowKit Go.Proofs
instance:Fo Tryz.prog 24 0 0:=⟨0,by kernel_rfl⟩
instance:Fo Tryz.prog 24 1 1:=⟨0,by kernel_rfl⟩
instance:Fo Tryz.prog 34 2 2:=⟨0,by kernel_rfl⟩
instance:Fo Tryz.prog 34 3 3:=⟨0,by kernel_rfl⟩
instance:Fo Tryz.prog 34 4 4:=⟨0,by kernel_rfl⟩
instance:Fo Tryz.prog 54 0 0:=⟨1,by kernel_rfl⟩
instance:Fo Tryz.prog 54 1 2:=⟨0,by kernel_rfl⟩
instance:Fo Tryz.prog 54 2 3:=⟨0,by kernel_rfl⟩
instance:Fo Tryz.prog 54 3 4:=⟨0,by kernel_rfl⟩
instance:Fo Tryz.prog 54 4 5:=⟨0,by kernel_rfl⟩
instance:Fo Tryz.prog 54 5 6:=⟨4,by kernel_rfl⟩
instance:Fo Tryz.prog 62 0 0:=⟨0,by kernel_rfl⟩
instance:Fo Tryz.prog 67 0 0:=⟨0,by kernel_rfl⟩
instance:Fo Tryz.prog 67 1 1:=⟨0,by kernel_rfl⟩
instance:Fo Tryz.prog 67 2 2:=⟨0,by kernel_rfl⟩
instance:Fo Tryz.prog 67 3 3:=⟨0,by kernel_rfl⟩
instance:Fo Tryz.prog 67 4 4:=⟨0,by kernel_rfl⟩
instance:Fo Tryz.prog 78 0 0:=⟨0,by kernel_rfl⟩
instance:Fo Tryz.prog 78 1 1:=⟨0,by kernel_rfl⟩
instance:Fo Tryz.prog 85 0 0:=⟨0,by kernel_rfl⟩
instance:Fo Tryz.prog 85 1 1:=⟨0,by kernel_rfl⟩
instance:Fo Tryz.prog 85 2 2:=⟨2,by kernel_rfl⟩
instance:Fo Tryz.prog 85 3 5:=⟨2,by kernel_rfl⟩
instance:Fo Tryz.prog 85 4 8:=⟨0,by kernel_rfl⟩
instance:Fo Tryz.prog 85 5 9:=⟨0,by kernel_rfl⟩
instance:Fo Tryz.prog 107 0 0:=⟨0,by kernel_rfl⟩
instance:Fo Tryz.prog 107 1 1:=⟨0,by kernel_rfl⟩
instance:Fo Tryz.prog 114 0 0:=⟨0,by kernel_rfl⟩
instance:Fo Tryz.prog 114 1 1:=⟨0,by kernel_rfl⟩
instance:Fo Tryz.prog 114 2 2:=⟨0,by kernel_rfl⟩
instance:Fo Tryz.prog 114 3 3:=⟨0,by kernel_rfl⟩
instance:Ty Tryz.prog 114 (Int×Int×Int×Int):=⟨by kernel_rfl,by kernel_rfl⟩
instance:Fo Tryz.prog 155 0 0:=⟨0,by kernel_rfl⟩
instance:Fo Tryz.prog 155 1 1:=⟨0,by kernel_rfl⟩
instance:Fo Tryz.prog 181 0 0:=⟨4,by kernel_rfl⟩
instance:Fo Tryz.prog 187 0 0:=⟨4,by kernel_rfl⟩
instance:Fo Tryz.prog 187 1 5:=⟨0,by kernel_rfl⟩
instance:Fo Tryz.prog 187 2 6:=⟨2,by kernel_rfl⟩
instance:Fo Tryz.prog 227 0 0:=⟨4,by kernel_rfl⟩
instance:Fo Tryz.prog 227 1 5:=⟨4,by kernel_rfl⟩
instance:Fo Tryz.prog 227 2 10:=⟨0,by kernel_rfl⟩
instance:Fo Tryz.prog 243 0 0:=⟨0,by kernel_rfl⟩
instance:Fo Tryz.prog 243 1 1:=⟨0,by kernel_rfl⟩
instance:Fo Tryz.prog 269 0 0:=⟨0,by kernel_rfl⟩
instance:Fo Tryz.prog 269 1 1:=⟨0,by kernel_rfl⟩
instance:Fo Tryz.prog 269 2 2:=⟨0,by kernel_rfl⟩
instance:Zc Tryz.prog 34 [(.int .i64 (0:Int)),(.slice none 0 0),(.slice none 0 0),(.slice none 0 0),(.slice none 0 0)]:=⟨λ_ _=>alr (z:=.agg #[(.int .i64 (0:Int)),(.slice none 0 0),(.slice none 0 0),(.slice none 0 0),(.slice none 0 0)]) kr_ rfl rfl⟩
instance:Zc Tryz.prog 57 [(.int .i64 (0:Int)),(.slice none 0 0),(.slice none 0 0),(.slice none 0 0),(.slice none 0 0),(.int .i64 (0:Int)),(.slice none 0 0),(.slice none 0 0),(.slice none 0 0),(.slice none 0 0)]:=⟨λ_ _=>alr (z:=.agg #[(.int .i64 (0:Int)),(.slice none 0 0),(.slice none 0 0),(.slice none 0 0),(.slice none 0 0),(.int .i64 (0:Int)),(.slice none 0 0),(.slice none 0 0),(.slice none 0 0),(.slice none 0 0)]) kr_ rfl rfl⟩
instance:Zc Tryz.prog 62 [(.slice none 0 0),(.slice none 0 0),(.bool false)]:=⟨λ_ _=>alr (z:=.agg #[(.slice none 0 0),(.slice none 0 0),(.bool false)]) kr_ rfl rfl⟩
instance:Zc Tryz.prog 67 [(.slice none 0 0),(.slice none 0 0),(.slice none 0 0),(.slice none 0 0),(.slice none 0 0)]:=⟨λ_ _=>alr (z:=.agg #[(.slice none 0 0),(.slice none 0 0),(.slice none 0 0),(.slice none 0 0),(.slice none 0 0)]) kr_ rfl rfl⟩
instance:Zc Tryz.prog 69 [(.slice none 0 0),(.slice none 0 0),(.slice none 0 0),(.slice none 0 0),(.slice none 0 0),(.slice none 0 0),(.slice none 0 0),(.slice none 0 0),(.slice none 0 0),(.slice none 0 0)]:=⟨λ_ _=>alr (z:=.agg #[(.slice none 0 0),(.slice none 0 0),(.slice none 0 0),(.slice none 0 0),(.slice none 0 0),(.slice none 0 0),(.slice none 0 0),(.slice none 0 0),(.slice none 0 0),(.slice none 0 0)]) kr_ rfl rfl⟩
instance:Zc Tryz.prog 78 [(.slice none 0 0),(.int .i64 (0:Int))]:=⟨λ_ _=>alr (z:=.agg #[(.slice none 0 0),(.int .i64 (0:Int))]) kr_ rfl rfl⟩
instance:Zc Tryz.prog 83 [(.int .i64 (0:Int)),(.int .i64 (0:Int)),(.slice none 0 0)]:=⟨λ_ _=>alr (z:=.agg #[(.int .i64 (0:Int)),(.int .i64 (0:Int)),(.slice none 0 0)]) kr_ rfl rfl⟩
instance:Zc Tryz.prog 85 [(.string ByteArray.empty),(.int .i64 (0:Int)),(.int .i64 (0:Int)),(.int .i64 (0:Int)),(.slice none 0 0),(.int .i64 (0:Int)),(.int .i64 (0:Int)),(.slice none 0 0),(.int .i64 (0:Int)),(.bool false)]:=⟨λ_ _=>alr (z:=.agg #[(.string ByteArray.empty),(.int .i64 (0:Int)),(.int .i64 (0:Int)),(.int .i64 (0:Int)),(.slice none 0 0),(.int .i64 (0:Int)),(.int .i64 (0:Int)),(.slice none 0 0),(.int .i64 (0:Int)),(.bool false)]) kr_ rfl rfl⟩
instance:Zc Tryz.prog 182 [.nilFunc,.nilFunc,.nilFunc]:=⟨λ_ _=>alr (z:=.agg #[.nilFunc,.nilFunc,.nilFunc]) kr_ rfl rfl⟩
instance:Zc Tryz.prog 199 [(.int .i64 (0:Int)),(.int .i64 (0:Int))]:=⟨λ_ _=>alr (z:=.agg #[(.int .i64 (0:Int)),(.int .i64 (0:Int))]) kr_ rfl rfl⟩
instance:Zc Tryz.prog 266 [.nilFunc,.nilFunc,.nilFunc]:=⟨λ_ _=>alr (z:=.agg #[.nilFunc,.nilFunc,.nilFunc]) kr_ rfl rfl⟩
instance:Smz Int:=⟨rfl⟩
instance:Smz Bool:=⟨rfl⟩
instance:Smz ByteArray:=⟨rfl⟩
instance:Smz Af:=⟨rfl⟩
instance:Smz Expr:=⟨rfl⟩
instance:Smz Ae:=⟨rfl⟩
instance:Smz Pilots:=⟨rfl⟩
instance {α:Type} [Rep α]:Smz (List α):=⟨rfl⟩
end Go.Pn
namespace Go.Pn
open Go Go.RowKit Go.Proofs
theorem sl_part {α:Type} [Rep α] {M:Nat->Prop} {w:World} {ad:Option Addr} {cap l h:Nat} {xs:List α} (hs:xs=[]\/∃ b o,ad=some ⟨b,o,none⟩/\Row M w b o xs) (h1:l<=h) (h2:h<=xs.length) :
  Sl M w (sliced ad l h (cap + xs.length) (Rep.sz α)) ((xs.drop l).take (h - l)):=by
 have hl:((xs.drop l).take (h - l)).length=h - l:=by simp;omega
 by_cases h0:h - l=0
 ·have hn:(xs.drop l).take (h - l)=[]:=by rw [h0];simp
  refine ⟨if cap + xs.length=l then ad else ad.map (·.add (l * Rep.sz α)),cap + xs.length - l,?_,.inl hn⟩
  rw [hn];unfold sliced;rw [h0];rfl
 ·rcases hs with hs | ⟨b,o,rfl,hr⟩
  ·rw [hs] at h2;simp at h2;omega
  ·refine ⟨some ⟨b,o + l * Rep.sz α,none⟩,cap + (xs.length - h),?_,.inr ⟨b,_,rfl,Row.of_get λi x hx=>?_⟩⟩
   ·unfold sliced;rw [if_neg om_,hl,Option.map_some,Bc];congr 1;omega
   ·have hi:i < h - l:=by rw [← hl];exact (EY.1 hx).1
    rw [GZ hi,JJ] at hx;have:=hr.get hx
    rwa [G3,← Nat.add_assoc] at this
section
variable {P:Program} {Γ:Cx} {ty:TypeId}
theorem lsl_ok {α:Type} {xs ys:List α} {l h:Int} (hr:lsl xs l h=some ys):0<=l/\l<=h/\h<=xs.length/\ys=(xs.drop l.toNat).take (h.toNat - l.toNat):=by
 unfold lsl at hr;split at hr
 ·rename_i hc;exact ⟨hc.1,hc.2.1,hc.2.2,(Option.some.inj hr).symm⟩
 ·cases hr
end
end Go.Pn
namespace Go.Pn
open Go Go.RowKit
variable {rr:Option Nat}
section
variable {α:Type} [Rep α] {M:Nat->Prop} {w:World}
end
section
variable {P:Program} {M0:Fm} {w0:World} {n:Nat} {Γ:Cx} {Q:Exit->Act->World->Prop} {a:Act} {w:World} {ty:TypeId} {α:Type} [Rep α]
theorem oqb {op:Op} {m:Bool} (h:OR P op ty Γ (Qv (.bool m))):OR P op ty Γ (Va m):=by
 intro d pos aft g ρ M w r;refine (h d pos aft g ρ M w r).mono ?_;rintro v w' ⟨hx,F,h1,h2,h3,hv⟩;have hv:v=.bool m:=hv;subst hv;exact ⟨hx,F,h1,h2,h3,[.bool m],rfl,rfl⟩
end
end Go.Pn
namespace Go.Pn
open Go Go.RowKit Go.Proofs
theorem Qn {P:Program} {nm:String} {kd:IntKind} {zs:List Int} {g:Nat} {M:Nat->Prop} {w w':World} (hg:P.globalNamed nm=some g) (hs:g < w.heap.size) (hM:¬ M g) (h:Lib.TabIs P w nm kd zs) (x:Ext M w w'):Lib.TabIs P w' nm kd zs:=by
 unfold Lib.TabIs World.var? at *;rw [hg,HJ] at *;rw [x.block g hs hM];exact h
def TbE (P:Program) (nm:String) (kd:IntKind) (zs:List Int):Ent where
 p F M w _:=F=[]/\∃ g,P.globalNamed nm=some g/\g < w.heap.size/\¬ M g/\Lib.TabIs P w nm kd zs
 st:=by
  rintro F M w w' v ⟨rfl,g,h1,h2,h3,h4⟩ x;exact ⟨rfl,g,h1,FS h2 x.size,h3,Qn h1 h2 (λh=>h3 h.1) h4 x⟩
 sb:=by
  rintro F M M' w v ⟨rfl,g,h1,h2,h3,h4⟩ s;exact ⟨rfl,g,h1,h2,λh=>h3 (s g h2 h),h4⟩
def Tv (P:Program) (nm:String) (kd:IntKind) (zs:List Int) (e:Ent):Ent where
 p F M w v:=e.p F M w v/\(TbE P nm kd zs).p [] M w v
 st:=by
  rintro F M w w' v ⟨h1,h2⟩ x;refine ⟨e.st h1 x,?_⟩;obtain ⟨_,g,k1,k2,k3,k4⟩:=h2;exact ⟨rfl,g,k1,FS k2 x.size,k3,Qn k1 k2 (λh=>k3 h.1) k4 x⟩
 sb:=by
  rintro F M M' w v ⟨h1,h2⟩ s;exact ⟨e.sb h1 s,(TbE P nm kd zs).sb h2 s⟩
instance {P:Program} {nm:String} {kd:IntKind} {zs:List Int} {e:Ent} [hz:Zf e]:Zf (Tv P nm kd zs e):=⟨λh=>hz.z h.1⟩
theorem otb {P:Program} {nm:String} {kd:IntKind} {zs:List Int} {Γ:Cx} {x:Operand} {e:Ent} {k:Nat} (h:Od Γ x e) (hk:Am Γ k=some (TbE P nm kd zs)):Od Γ x (Tv P nm kd zs e):=λρ M w r=>by
 obtain ⟨F,h1⟩:=h ρ M w r;obtain ⟨F',h2⟩:=r.tmp _ _ hk;obtain rfl:F'=[]:=h2.1;exact ⟨F,h1,h2⟩
theorem ntb {P:Program} {nm:String} {kd:IntKind} {zs:List Int} {M0:Fm} {w0 w:World} {n:Nat} {Γ:Cx} {a:Act} {d:Nat} {e:Ent} [hz:Zf e] {R:Prop} (k:Nat) (h:St M0 w0 n Γ a w) (hd:Am Γ d=some (Tv P nm kd zs e)) (hne:Nat.beq d k=false) (r:St M0 w0 n ((d,e) :: (k,TbE P nm kd zs) :: Γ) a w->R):R:=by
 obtain ⟨M,φ,h⟩:=h;refine r ?_;unfold St;rw [Fh];have h1:=h.holds d _ hd;obtain ⟨h2,h3⟩:=h1;have hF:=hz.z h2;refine h.split (by rw [hd];rfl) (F8 hne) ?_ ?_
 ·rw [hF] at h2;exact h2
 ·rw [hF];exact h3
def bitT:List Int:=[1,2,4,8,16,32]
def bitV (j:Nat):Kd .u64:=⟨bitT.getD j 0⟩
def bitO (x y:Kd .u64):Kd .u64:=⟨IntKind.u64.wrap (BitVec.ofInt IntKind.u64.bits x.v ||| BitVec.ofInt IntKind.u64.bits y.v).toNat⟩
def bitA (x y:Kd .u64):Kd .u64:=⟨IntKind.u64.wrap (BitVec.ofInt IntKind.u64.bits x.v &&& BitVec.ofInt IntKind.u64.bits y.v).toNat⟩
section
variable {P:Program} {Γ:Cx} {ty:TypeId}
theorem ork {x y:Operand} {T T':TypeId} {m n:Kd .u64} (hx:Od Γ x (Va m)) (hy:Od Γ y (Va n)):OR P (.binOp .or T x y T') ty Γ (Va (bitO m n)):=
 bink hx hy λ_=>⟨.int .u64 (bitO m n).v,by unfold binOp;rfl,λ_=>⟨rfl,[.int .u64 (bitO m n).v],rfl,rfl⟩⟩
theorem ank {x y:Operand} {T T':TypeId} {m n:Kd .u64} (hx:Od Γ x (Va m)) (hy:Od Γ y (Va n)):OR P (.binOp .and T x y T') ty Γ (Va (bitA m n)):=
 bink hx hy λ_=>⟨.int .u64 (bitA m n).v,by unfold binOp;rfl,λ_=>⟨rfl,[.int .u64 (bitA m n).v],rfl,rfl⟩⟩
theorem itb {nm:String} {T e K g:Nat} {i:Operand} {m:Int} {j:Nat} (hk:Am Γ K=some (TbE P nm .u64 bitT)) (hi:Od Γ i (Va m)) (hA:P.underlying T=some (.array 6 e)) (he:(P.info? e).map (·.size)=some 1) (hy:idx (List.range 6) m=some j) (hg:P.globalNamed nm=some g:=by kernel_rfl):OR P (.indexAddr T (.global g) i) ty Γ (Pt (bitV j)):=by
 refine OR.val λρ M w r=>?_;obtain ⟨_,_,g',h1,h2,h3,h4⟩:=r.tmp _ _ hk;obtain rfl:g=g':=Option.some.inj (hg.symm.trans h1);obtain ⟨_,hi2⟩:=hi ρ M w r;obtain ⟨h0,hlt,hgg⟩:=Ay hy;have hlt:m < 6:=by simpa using hlt
 have hj:m.toNat=j:=by
  rw [FB om_] at hgg;exact Option.some.inj hgg
 have hr:(sizeOf e).run P w=.ok 1 w:=by
  cases hie:P.info? e with
  | none=>simp [hie] at he
  | some i=>simp [hie] at he;simp [sizeOf,typeInfo,hie,he]
 refine ⟨.pointer (some ⟨g,0 + j,none⟩),λ_ _ _ _=>?_,rfl,g,0 + j,rfl,[.int .u64 (bitV j).v],?_,rfl⟩
 ·simp only [execOp,r.glo,Va.int hi2,Instr.indexAt,EU,asIntOf,EW,ER,run_underlying hA];simp [h0,hlt,Instr.sureAddr,hr,hj,Bc]
 ·intro q v hq;obtain ⟨rfl,rfl⟩:q=0/\.int .u64 (bitV j).v=v:=by
   cases q with
   | zero=>exact ⟨rfl,by simpa using hq⟩
   | succ q=>simp at hq
  refine ⟨h3,?_⟩;have h4:(P.globalNamed nm).bind (λg=>match w.heap[g]? with | some (.cells cs _ _)=>some cs | _=>none)=some (bitT.map λz=>Value.int .u64 z).toArray:=h4
  rw [hg,HJ] at h4;unfold World.cell?;cases hh:w.heap[g]? with
  | none=>rw [hh] at h4;cases h4
  | some o=>
   rw [hh] at h4;cases o with
   | cells cs T q=>
    have h4:some cs=_:=h4;rw [Option.some.inj h4];have hj6:j < 6:=by omega
    rcases (show j=0\/j=1\/j=2\/j=3\/j=4\/j=5 by omega) with rfl | rfl | rfl | rfl | rfl | rfl <;> rfl
   | _=>cases h4
end
abbrev TbT : Ent := TbE Tryz.prog "pneumatic/group.bits" .u64 bitT
abbrev TV (e : Ent) : Ent := Tv Tryz.prog "pneumatic/group.bits" .u64 bitT e
end Go.Pn
namespace Go.Pn
open Go Go.RowKit Go.Proofs
section
variable {P:Program} {Γ:Cx} {ty:TypeId}
def Pw (cs:List Value) (j:Nat):Ent where
 p F M w v:=F=[]/\∃ b,v=.pointer (some ⟨b,j,none⟩)/\Cls M w b 0 cs
 st h e:=let ⟨hF,b,hv,hc⟩:=h;⟨hF,b,hv,hc.ext (e.mono λ_ _ h=>h.1)⟩
 sb h s:=let ⟨hF,b,hv,hc⟩:=h;⟨hF,b,hv,hc.sub s⟩
theorem lnw {T e:Nat} {x:Operand} {cs:List Value} (hT:P.underlying T=some (.slice e)) (hx:Od Γ x (Rw cs)):OR P (.call { callee:=.builtin .len,args:=#[x],argTypes:=#[T] }) ty Γ (Va (cs.length:Int)):=by
 refine OR.val λρ M w r=>?_;obtain ⟨_,_,b,hv,_⟩:=hx ρ M w r;refine ⟨.int .i64 cs.length,λ_ _ _ _=>?_,Va.mkInt⟩;simp [execOp,resolve,hv,invoke,builtin,Builtin.len_,run_underlying hT,goInt]
theorem ixw {T e len:Nat} {x i:Operand} {cs:List Value} {m:Int} {j:Nat} (hx:Od Γ x (Rw cs)) (hi:Od Γ i (Va m)) (hT:P.underlying T=some (.slice e)) (he:(P.info? e).map (·.size)=some 1) (hl:cs.length=len) (hy:idx (List.range len) m=some j):OR P (.indexAddr T x i) ty Γ (Pw cs j):=by
 refine OR.val λρ M w r=>?_;obtain ⟨_,_,b,hv,hc⟩:=hx ρ M w r;obtain ⟨_,h2⟩:=hi ρ M w r;obtain ⟨h0,hlt,hg⟩:=Ay hy;have hlt:m < (len:Int):=by simpa using hlt
 have hj:m.toNat=j:=by
  rw [FB om_] at hg;exact Option.some.inj hg
 have hr:(sizeOf e).run P w=.ok 1 w:=by
  cases hie:P.info? e with
  | none=>simp [hie] at he
  | some i=>simp [hie] at he;simp [sizeOf,typeInfo,hie,he]
 refine ⟨.pointer (some ⟨b,j,none⟩),λ_ _ _ _=>?_,rfl,b,rfl,hc⟩;simp only [execOp,hv,Va.int h2,Instr.indexAt,EU,asIntOf,EW,ER,run_underlying hT];have hlt':m < (cs.length:Int):=by omega
 simp [h0,hlt',hr,hj,Bc]
theorem ldw {T j len:Nat} {x:Operand} {cs:List Value} (h:Od Γ x (Pw cs j)) (hj:j < len) (ha:(P.underlying T).map Bp=some false) (hl:cs.length=len:=by rfl):OR P (.load T x) ty Γ (Qv (Au j cs)):=by
 refine OR.val λρ M w r=>?_;obtain ⟨_,_,b,hv,hc⟩:=h ρ M w r;have hlt:j < cs.length:=by omega
 have h1:cs[j]?=some (Au j cs):=by
  unfold Au;rw [ES,FY hlt];rfl
 have h2:w.cell? ⟨b,j,none⟩=some (Au j cs):=by
  have:=(hc j _ h1).2;simpa using this
 refine ⟨Au j cs,λ_ _ _ _=>?_,rfl,rfl⟩;simp only [execOp,hv,Instr.loadAt,Instr.sureAddr,EU,EW,ER,loadVar,Ty.run_agg ha];simp [h2]
end
def sel4 (j a b c d:Nat):Nat:=if j=0 then a else if j=1 then b else if j=2 then c else d
theorem selt4 {ρ:Type} {j:Nat} {x y z u:Option ρ} {r:ρ} (h:(bif j == 0 then x else bif j == 1 then y else bif j == 2 then z else bif j == 3 then u else none)=some r):j < 4:=by
 match j,h with
 | 0,_=>omega
 | 1,_=>omega
 | 2,_=>omega
 | 3,_=>omega
 | (n+4),h=>simp at h
theorem cgsel4 {ρ:Type} {j a b c d:Nat} {x y z u:Option ρ} {r:ρ} {Q:Nat->Prop} (h:(bif j == 0 then x else bif j == 1 then y else bif j == 2 then z else bif j == 3 then u else none)=some r) (h0:x=some r->Q a) (h1:y=some r->Q b) (h2:z=some r->Q c) (h3:u=some r->Q d):Q (sel4 j a b c d):=by
 match j,h with
 | 0,h=>exact h0 h
 | 1,h=>exact h1 h
 | 2,h=>exact h2 h
 | 3,h=>exact h3 h
 | (n+4),h=>simp at h
theorem qsel4 {Γ:Cx} {x:Operand} {j a b c d:Nat} {fs cs:List Value} (hj:j < 4) (h:Od Γ x (Qv (Au j [fv a fs cs,fv b fs cs,fv c fs cs,fv d fs cs]))):Od Γ x (Qv (fv (sel4 j a b c d) fs cs)):=by
 match j,hj,h with
 | 0,_,h=>exact h
 | 1,_,h=>exact h
 | 2,_,h=>exact h
 | 3,_,h=>exact h
end Go.Pn
namespace Go.Pn
open Go Go.RowKit Go.Proofs
section
variable {P:Program} {Γ:Cx} {ty:TypeId}
theorem tfm {op:Op} {k b:Nat} {cs:List Value} {α:Type} [Rep α] {x:α} {e':Ent} (hf:Fl0 e') (hk:Am Γ k=some (Mr b cs)) (hr:Rp Γ cs x) (h:OR P op ty ((k,At (pb b 0) (Pt x)) :: Γ) e'):OR P op ty Γ e':=by
 intro dd pos aft g ρ M w r;obtain ⟨F,hF⟩:=r.tmp _ _ hk;have hs:∀ q,q < w.heap.size->(M q/\q ∉ F)->M q:=λq _ hq=>hq.1;have hrep:=hr ρ M w r;refine (h dd pos aft g ρ (λq=>M q/\q ∉ F) w ⟨λt e1 he=>?_,r.con,r.fn,λq hq=>r.bd q hq.1,r.glo⟩).mono ?_
 ·rw [Aj] at he;unfold Pn.put at he;split at he
  ·rename_i ht;subst ht;cases he
   refine ⟨[],rfl,b,0,rfl,cs,λj v hj=>⟨λhm=>hm.2 (by rw [hF.1];simp),?_⟩,Rep.sub hrep hs⟩;have:=Mr.cell hF j v hj;rw [GV];exact this
  ·obtain ⟨F1,h1⟩:=r.tmp _ _ he;exact ⟨F1,Ent.sb _ h1 hs⟩
 ·rintro v w' ⟨hx,F1,h1,h2,h3⟩;exact ⟨hx,F1,h1,h2,hf h3⟩
end
end Go.Pn
namespace Go.Pn
open Go Go.RowKit Go.Proofs
section
variable {P:Program} {Γ:Cx} {ty:TypeId}
theorem sl6 {T e:Nat} {x y:Operand} {n:Int} {z:Ar6} {ys:List Bool} (hx:Od Γ x (Pt z)) (hy:Od Γ y (Va n)) (hT:P.underlying T=some (.array 6 e)) (he:(P.info? e).map (·.size)=some 1) (h:lsl z.l 0 n=some ys):OR P (.slice T x none (some y) none) ty Γ (Va ys):=by
 obtain ⟨h1,h2,h3,rfl⟩:=lsl_ok h;refine OR.val λρ M w r=>?_;obtain ⟨_,_,b,o,hv,cs,hc,rfl,hl⟩:=hx ρ M w r;obtain ⟨_,hy2⟩:=hy ρ M w r;have hrow:Row M w b o z.l:=Row.of_get λi u hi=>by
  refine ⟨[.bool u],λj v hj=>?_,rfl⟩;obtain ⟨rfl,rfl⟩:j=0/\.bool u=v:=by
   cases j with
   | zero=>exact ⟨rfl,by simpa using hj⟩
   | succ j=>simp at hj
  have:=hc i (.bool u) (by rw [FD,hi];rfl);show Cl M w b (o + i * 1 + 0) _;rw [HQ,H1];exact this
 have hsz:(sizeOf e).run P w=.ok 1 w:=by
  cases hie:P.info? e with
  | none=>simp [hie] at he
  | some i=>simp [hie] at he;simp [sizeOf,typeInfo,hie,he]
 rw [hl] at h3;have hn6:n<=((6:Nat):Int):=by omega
 refine ⟨sliced (some ⟨b,o,none⟩) 0 n.toNat (0 + z.l.length) 1,λ_ _ _ _=>?_,Va.mkList (sl_part (.inr ⟨b,o,rfl,hrow⟩) (GH _) (by rw [hl];omega))⟩;simp only [execOp,hv,JP,Option.map_some,Va.int hy2,EU,Instr.sliceAt,run_underlying hT,ER,Instr.sureAddr,EW,Instr.sliceBounds,Instr.sliceBound,asIntOf,hsz];rw [if_pos ⟨h2,hn6⟩];simp [sliced,hl,hsz]
end
end Go.Pn
namespace Go.Pn
open Go Go.RowKit
section
variable {P:Program} {Γ:Cx} {ty:TypeId}
theorem oqsb {op:Op} {j:Nat} {cs:List Value} {xs:List Bool} (h:OR P op ty Γ (Qv (Au j cs))) (hc:cs=xs.map λz=>.bool z) (hj:j < xs.length):OR P op ty Γ (Va (xs.getD j false)):=by
 intro d pos aft g ρ M w r;refine (h d pos aft g ρ M w r).mono ?_;rintro v w' ⟨hx,F,h1,h2,h3,hv⟩;refine ⟨hx,F,h1,h2,h3,[.bool (xs.getD j false)],?_,rfl⟩;have hv:v=Au j cs:=hv;rw [hv,hc];simp [Au,hj,mk]
end
end Go.Pn
namespace Go.Pn
open Go Go.RowKit Go.Proofs
section
variable {P:Program} {Γ:Cx} {ty:TypeId}
theorem iaxA {T e len off sz:Nat} {x i:Operand} {b:Nat} {m:Int} {j:Nat} (h:Od Γ x (Qv (pb b off))) (hi:Od Γ i (Va m)) (hA:P.underlying T=some (.array len e)) (he:(P.info? e).map (·.size)=some sz) (hy:idx (List.range len) m=some j):OR P (.indexAddr T x i) ty Γ (Qv (pb b (off + j * sz))):=by
 refine OR.val λρ M w r=>?_;obtain ⟨_,_,hv⟩:=h ρ M w r;obtain ⟨_,h2⟩:=hi ρ M w r;obtain ⟨hjl,h0,hlt,hj⟩:=Le hy;have hr:(sizeOf e).run P w=.ok sz w:=by
  cases hie:P.info? e with
  | none=>simp [hie] at he
  | some i=>simp [hie] at he;simp [sizeOf,typeInfo,hie,he]
 refine ⟨pb b (off + j * sz),λ_ _ _ _=>?_,rfl,rfl⟩;simp only [execOp,hv,Va.int h2,Instr.indexAt,EU,asIntOf,EW,ER,run_underlying hA];simp [h0,hlt,Instr.sureAddr,hr,hj,Bc]
theorem lselA {T K:TypeId} {b off j len sz:Nat} (α:Type) [Rep α] [Ty P T α] {x:Operand} {cs:List Value} {cols:List (List Value)} (h:Od Γ x (Qv (pb b (off + j * sz)))) (hk:Am Γ K=some (Mr b cs)) (hc:((List.range len).map λk=>(cs.drop (off + k * sz)).take sz)=(List.range len).map λk=>cols.map (Au k)) (hj:j < len) (hz:cols.length=sz) (hl:Nat.beq sz (Rep.sz α)=true) (hg:Rep.agg α=true):OR P (.load T x) ty Γ (Qa (cols.map (Au j))):=by
 refine lra (K:=K) α h hk ?_ (by rw [FL,hz];exact hl) hg;have:=congrArg (λl=>l[j]?) hc;rw [FL,hz];simpa [FD,FB hj] using this
theorem qss {x:Operand} {j:Nat} {cs:List Value} {xs:List ByteArray} (h:Od Γ x (Qv (Au j cs))) (hc:cs=xs.map λz=>.string z) (hj:j < xs.length):Od Γ x (Va (xs.getD j ByteArray.empty)):=λρ M w r=>by
 obtain ⟨F,hF,hv⟩:=h ρ M w r;refine ⟨F,hF,[.string (xs.getD j ByteArray.empty)],?_,rfl⟩;rw [hv,hc];simp [Au,hj,mk]
theorem qaq {x:Operand} {cs ds:List Value} (h:Od Γ x (Qa cs)) (e:cs=ds):Od Γ x (Qa ds):=by
 subst e;exact h
theorem selvB {j:Nat} {cs:List Value} {xs:List Bool} (hc:cs=xs.map λz=>.bool z) (hj:j < xs.length):Au j cs=.bool (xs.getD j false):=by
 rw [hc];simp [Au,hj]
end
end Go.Pn
namespace Go.Pn
open Go Go.RowKit
abbrev mfs (Ds:List Nat) (K:Fm):Fm:=⟨K.k,K.b,Ds.map mark ++ K.ds⟩
def Dks (Ds:List Nat):Ent where
 p F _ w _:=F=Ds/\∀ D∈Ds,w.heap[D]?=some (.deferred (some []))
 st h e:=by
  obtain ⟨rfl,h⟩:=h;exact ⟨rfl,λD hD=>by rw [e.block D (E6.1 (h D hD)).1 (λhm=>hm.2 hD)];exact h D hD⟩
 sb h _:=h
section
variable {P:Program} {M0:Fm} {w0:World} {n:Nat} {Γ:Cx} {Q:Exit->Act->World->Prop} {a:Act} {w:World} {ty:TypeId}
theorem hMs {Ds:List Nat} {K:Fm} (h:Bd K w):Bd (mfs Ds K) w:=h
theorem St.mk0 (K:Nat) (h:St M0 w0 n Γ a w):St (mfs [] M0) w0 n ((K,Dks []) :: Γ) a w:=h.more λ_ _ _=>⟨rfl,by simp⟩
theorem St.mkc {K k D:Nat} {Ds:List Nat} (h:St (mf D (mfs Ds M0)) w0 n Γ a w) (hK:Am Γ K=some (Dks Ds)) (hk:Am Γ k=some (Dk D)) (hne:Nat.beq K k=false):St (mfs (D :: Ds) M0) w0 n ((k,Dd) :: (K,Dks (D :: Ds)) :: Γ) a w:=by
 have hne:=F8 hne;obtain ⟨M,φ,h⟩:=h;obtain ⟨hF1,hc1⟩:=h.holds K _ hK;obtain ⟨hF2,hc2⟩:=h.holds k _ hk;have hsK:(Am Γ K).isSome=true:=by rw [hK];rfl
 have hsk:(Am Γ k).isSome=true:=by rw [hk];rfl
 have hD:D∈φ k:=by rw [hF2];simp
 have hDK:D ∉ φ K:=λhm=>h.apart K k hne hsK hsk D hm hD;have some':∀ t,t≠k->(put k Dd (put K (Dks (D :: Ds)) (Am Γ)) t).isSome=true->(Am Γ t).isSome=true:=λt h1 ht=>by
  unfold put at ht;rw [if_neg h1] at ht;by_cases h2:t=K
  ·subst h2;exact hsK
  ·rw [if_neg h2] at ht;exact ht
 unfold St;rw [Aj,Aj];refine ⟨M,λt=>if t=k then [] else if t=K then D :: φ K else φ t,λt e he=>?_,λt ht=>?_,λt s hts ht hs=>?_,h.sub,h.bd,h.fr,h.sz,h.df⟩
 ·unfold put at he;by_cases h1:t=k
  ·rw [if_pos h1] at he ⊢;cases he;rfl
  ·rw [if_neg h1] at he ⊢;by_cases h2:t=K
   ·rw [if_pos h2] at he ⊢;cases he
    refine ⟨by rw [hF1],λq hq=>?_⟩;rcases FG.1 hq with rfl | hq
    ·exact hc2
    ·exact hc1 q hq
   ·rw [if_neg h2] at he ⊢;exact h.holds t e he
 ·show (if t=k then [] else if t=K then D :: φ K else φ t).Nodup/\∀ q∈(if t=k then [] else if t=K then D :: φ K else φ t),_
  by_cases h1:t=k
  ·rw [if_pos h1];exact ⟨List.nodup_nil,λq hq=>by simp at hq⟩
  ·rw [if_neg h1];by_cases h2:t=K
   ·rw [if_pos h2];refine ⟨List.nodup_cons.2 ⟨hDK,(h.own K hsK).1⟩,λq hq=>?_⟩;rcases FG.1 hq with rfl | hq
    ·exact (h.own k hsk).2 _ hD
    ·exact (h.own K hsK).2 q hq
   ·rw [if_neg h2];exact h.own t (some' t h1 ht)
 ·intro q hq0 hq0';have hq:q∈(if t=k then [] else if t=K then D :: φ K else φ t):=hq0
  have hq':q∈(if s=k then [] else if s=K then D :: φ K else φ s):=hq0'
  clear hq0 hq0';by_cases h1:t=k
  ·rw [if_pos h1] at hq;simp at hq
  ·by_cases h2:s=k
   ·rw [if_pos h2] at hq';simp at hq'
   ·rw [if_neg h1] at hq;rw [if_neg h2] at hq';have e1:=some' t h1 ht;have e2:=some' s h2 hs;by_cases h3:t=K
    ·have h4:s≠K:=λe=>hts (h3.trans e.symm);rw [if_pos h3] at hq;rw [if_neg h4] at hq';rcases FG.1 hq with rfl | hq
     ·exact h.apart s k h2 e2 hsk _ hq' hD
     ·exact h.apart K s (Ne.symm h4) hsK e2 q hq hq'
    ·rw [if_neg h3] at hq;by_cases h4:s=K
     ·rw [if_pos h4] at hq';rcases FG.1 hq' with rfl | hq'
      ·exact h.apart t k h1 e1 hsk _ hq hD
      ·exact h.apart t K h3 e1 hsK q hq hq'
     ·rw [if_neg h4] at hq';exact h.apart t s hts e1 e2 q hq hq'
theorem lv1 {K:Fm} {fn:Func} {R:Ending->World->Prop} {tm:Array Value} {ds:List Deferred} {D KD:Nat} {Ds:List Nat} (hs:St (mfs (D :: Ds) K) w0 n Γ a w) (hk:Am Γ KD=some (Dks (D :: Ds))) (htm:a.tmps=tm) (hds:a.defers=ds)
  (h:∀ a w,a.tmps=tm->St (mfs Ds K) w0 n ((KD,Dks Ds) :: Γ) a w->LeavesInM (Fr none) 0 P fn tm R a.defers .returning w):LeavesInM (Fr none) 0 P fn tm R ds .returning w:=by
 obtain ⟨M,φ,h0⟩:=hs;have hdf:=h0.df;rw [hds] at hdf;subst hdf;obtain ⟨hF,hc⟩:=h0.holds KD _ hk;have hcD:=hc D (GD ..);have hlt:=(E6.1 hcD).1;have hko:=h0.own KD (by rw [hk];rfl);have hnd:D ∉ Ds/\Ds.Nodup:=by
  have:=hko.1;rw [hF] at this;exact List.nodup_cons.1 this
 refine ⟨by simp,.inl ⟨D,_,rfl,run_takeDeferred hcD,?_⟩⟩;refine h { a with defers:=Ds.map mark ++ K.ds } _ htm ?_;have hx:Ext (λk=>k=D) w (w.putObj D (.deferred none)):=⟨rfl,rfl,rfl,by simp,λq _ hq=>H6 hq,FH _⟩;have hDF:D∈φ KD:=by rw [hF];simp
 refine ⟨M,λt=>if t=KD then Ds else φ t,λt e he=>?_,λt ht=>?_,λt s hts ht hs=>?_,h0.sub,λk hk=>FS (h0.bd k hk) hx.size,?_,h0.sz,rfl⟩
 ·rw [Aj] at he;unfold put at he;by_cases h3:t=KD
  ·subst h3;simp only [if_true,Option.some.injEq] at he ⊢;subst he;refine ⟨rfl,λq hq=>?_⟩;rw [H6 (by rintro rfl;exact hnd.1 hq)];exact hc q (FR _ hq)
  ·simp only [if_neg h3] at he ⊢;refine Ent.st _ (h0.holds t e he) (hx.mono λk _ hk'=>?_);subst hk';exact ⟨(hko.2 _ hDF).1,λhm=>h0.apart t KD h3 (by rw [he];rfl) (by rw [hk];rfl) _ hm hDF⟩
 ·rw [Aj] at ht;unfold put at ht;by_cases h3:t=KD
  ·simp only [h3,if_true];exact ⟨hnd.2,λq hq=>hko.2 q (by rw [hF];exact FR _ hq)⟩
  ·simp only [if_neg h3] at ht ⊢;exact h0.own t ht
 ·rw [Aj] at ht hs;unfold put at ht hs;by_cases h3:t=KD
  ·have h4:s≠KD:=λe=>hts (h3.trans e.symm);simp only [if_neg h4] at hs;intro q hq;have hq:q∈(if t=KD then Ds else φ t):=hq
   rw [if_pos h3] at hq;show q ∉ (if s=KD then Ds else φ s)
   rw [if_neg h4];exact λhm=>h0.apart s KD h4 hs (by rw [hk];rfl) q hm (by rw [hF];exact FR _ hq)
  ·by_cases h4:s=KD
   ·simp only [if_neg h3] at ht;intro q hq;have hq:q∈(if t=KD then Ds else φ t):=hq
    rw [if_neg h3] at hq;show q ∉ (if s=KD then Ds else φ s)
    rw [if_pos h4];exact λhm=>h0.apart t KD h3 ht (by rw [hk];rfl) q hq (by rw [hF];exact FR _ hm)
   ·simp only [if_neg h3,if_neg h4] at ht hs ⊢;exact h0.apart t s hts ht hs
 ·have hD2:=(hko.2 _ hDF).2;exact ⟨hx.os.trans h0.fr.os,hx.tape.trans h0.fr.tape,hx.output.trans h0.fr.output,F6 h0.fr.size hx.size,λk hk hb=>
   (hx.block k (FS hk h0.fr.size) (λe=>by subst e;exact hD2.elim (λh=>absurd hk om_) hb)).trans (h0.fr.block k hk hb),F6 h0.fr.dr hx.dr⟩
theorem lvms {K:Fm} {fn:Func} {R:Ending->World->Prop} {tm:Array Value} {KD:Nat}:∀ {Ds:List Nat} {Γ:Cx} {a:Act} {w:World} {ds:List Deferred} (_:St (mfs Ds K) w0 n Γ a w) (_:Am Γ KD=some (Dks Ds)) (_:a.tmps=tm) (_:a.defers=ds)
  (_:∀ Γ' a w,(∀ t,t≠KD->Am Γ' t=Am Γ t)->a.tmps=tm->St K w0 n Γ' a w->LeavesInM (Fr none) 0 P fn tm R a.defers .returning w),LeavesInM (Fr none) 0 P fn tm R ds .returning w
 | [],Γ,a,w,ds,hs,_,htm,hds,h=>by
  subst hds;exact h Γ a w (λ_ _=>rfl) htm hs
 | D :: Ds,Γ,a,w,ds,hs,hk,htm,hds,h=>by
  refine lv1 hs hk htm hds λa w ht s=>?_;refine lvms s (by rw [Aj];unfold put;rw [if_pos rfl]) ht rfl λΓ' a w hl ht s=>?_;refine h Γ' a w (λt hne=>?_) ht s;rw [hl t hne,Aj];unfold put;rw [if_neg hne]
theorem lvm' {K:Fm} {fn:Func} {R:Ending->World->Prop} {tm:Array Value} {ds:List Deferred} {KD:Nat} {Ds:List Nat} (hs:St (mfs Ds K) w0 n Γ a w) (hk:Am Γ KD=some (Dks Ds)) (htm:a.tmps=tm) (hds:a.defers=ds)
  (h:∀ a w,a.tmps=tm->St K w0 n ((KD,Dd) :: Γ) a w->LeavesInM (Fr none) 0 P fn tm R a.defers .returning w):LeavesInM (Fr none) 0 P fn tm R ds .returning w:=
 lvms hs hk htm hds λΓ' a w hl ht s=>h a w ht (by
  obtain ⟨M,φ,s⟩:=s;unfold St;rw [Aj];have hs':∀ t,t≠KD->(put KD Dd (Am Γ) t).isSome=true->(Am Γ' t).isSome=true:=λt h1 h2=>by
   unfold put at h2;rw [if_neg h1] at h2;rw [hl t h1];exact h2
  refine ⟨M,λt=>if t=KD then [] else φ t,λt e he=>?_,λt ht=>?_,λt s' hts ht hs=>?_,s.sub,s.bd,s.fr,s.sz,s.df⟩
  ·unfold put at he;by_cases h1:t=KD
   ·rw [if_pos h1] at he ⊢;cases he;rfl
   ·rw [if_neg h1] at he ⊢;exact s.holds t e (by rw [hl t h1];exact he)
  ·show (if t=KD then [] else φ t).Nodup/\∀ q∈(if t=KD then [] else φ t),_
   by_cases h1:t=KD
   ·rw [if_pos h1];exact ⟨List.nodup_nil,λq hq=>by simp at hq⟩
   ·rw [if_neg h1];exact s.own t (hs' t h1 ht)
  ·intro q hq hq';have hq:q∈(if t=KD then [] else φ t):=hq
   have hq':q∈(if s'=KD then [] else φ s'):=hq'
   by_cases h1:t=KD
   ·rw [if_pos h1] at hq;simp at hq
   ·by_cases h2:s'=KD
    ·rw [if_pos h2] at hq';simp at hq'
    ·rw [if_neg h1] at hq;rw [if_neg h2] at hq';exact s.apart t s' hts (hs' t h1 ht) (hs' s' h2 hs) q hq hq')
end
end Go.Pn
namespace Go.Pn
theorem I.{u} {α : Sort u} {a : α} : a = a := rfl
abbrev nz : Go.Value := .slice none 0 0
end Go.Pn

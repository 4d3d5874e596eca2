import Derived.Test.YtmpdhmdnlmplpaaGreatDoorDp2
set_option synthInstance.checkSynthOrder false
set_option synthInstance.maxSize 10000
set_option synthInstance.maxHeartbeats 400000
set_option maxRecDepth 100000
set_option maxHeartbeats 4000000
set_option linter.unusedVariables false
set_option linter.unusedSimpArgs false
set_option linter.defProp false
namespace Go.Pn
open Go.Sort Go.Proofs
def sd (a b:Ab):Int:=if a.Actuator=b.Actuator then (if a.Out=b.Out then 0 else if b.Out=true then -1 else 1) else a.Actuator - b.Actuator
def lcs:List Ab->List Ab->Int
 | [],[]=>0
 | [],_ :: _=>-1
 | _ :: _,[]=>1
 | a :: l,b :: m=>if sd a b=0 then lcs l m else sd a b
theorem Bl {a b:Ab}:sd a b=0↔a=b:=by
 obtain ⟨x,p⟩:=a;obtain ⟨y,q⟩:=b;unfold sd;dsimp only;constructor
 ·intro h;split at h
  ·rename_i h1;subst h1;split at h
   ·rename_i h2;subst h2;rfl
   ·split at h <;> omega
  ·omega
 ·intro h;injection h with h1 h2;subst h1 h2;simp
theorem sd_neg {a b:Ab}:sd a b < 0↔0 < sd b a:=by
 obtain ⟨x,p⟩:=a;obtain ⟨y,q⟩:=b;unfold sd;dsimp only;by_cases h:x=y
 ·subst h;cases p <;> cases q <;> simp
 ·rw [if_neg h,if_neg λe=>h e.symm];omega
theorem CW {a b c:Ab} (h:sd a b < 0) (h':sd b c < 0):sd a c < 0:=by
 obtain ⟨x,p⟩:=a;obtain ⟨y,q⟩:=b;obtain ⟨z,r⟩:=c;unfold sd at h h' ⊢;dsimp only at h h' ⊢;by_cases h1:x=y
 ·subst h1;by_cases h2:x=z
  ·subst h2;cases p <;> cases q <;> cases r <;> simp_all
  ·rw [if_neg h2] at h' ⊢;exact h'
 ·rw [if_neg h1] at h;by_cases h2:y=z
  ·subst h2;rw [if_neg h1];exact h
  ·rw [if_neg h2] at h';rw [if_neg om_];omega
theorem Av:∀ {a b:List Ab},lcs a b=0↔a=b
 | [],[]=>by simp [lcs]
 | [],_ :: _=>by simp [lcs]
 | _ :: _,[]=>by simp [lcs]
 | a :: l,b :: m=>by
  unfold lcs;split
  ·rename_i h;rw [Bl] at h;subst h;rw [Av];simp
  ·rename_i h;constructor
   ·intro h';exact (h h').elim
   ·intro h';injection h' with h1 h2;exact (h (Bl.2 h1)).elim
theorem Sk:∀ {a b:List Ab},lcs a b < 0↔0 < lcs b a
 | [],[]=>by simp [lcs]
 | [],_ :: _=>by simp [lcs]
 | _ :: _,[]=>by simp [lcs]
 | a :: l,b :: m=>by
  unfold lcs;by_cases h:a=b
  ·subst h;rw [if_pos (Bl.2 rfl),if_pos (Bl.2 rfl)];exact Sk
  ·rw [if_neg λe=>h (Bl.1 e),if_neg λe=>h (Bl.1 e).symm];exact sd_neg
theorem Jg:∀ {a b c:List Ab},lcs a b < 0->lcs b c < 0->lcs a c < 0
 | [],[],_,h,_=>by simp [lcs] at h
 | [],_ :: _,[],_,h=>by simp [lcs] at h
 | [],_ :: _,_ :: _,_,_=>by simp [lcs]
 | _ :: _,[],_,h,_=>by simp [lcs] at h
 | _ :: _,_ :: _,[],_,h=>by simp [lcs] at h
 | a :: l,b :: m,c :: n,h,h'=>by
  unfold lcs at h h' ⊢;by_cases h1:a=b
  ·subst h1;rw [if_pos (Bl.2 rfl)] at h;by_cases h2:a=c
   ·subst h2;rw [if_pos (Bl.2 rfl)] at h' ⊢;exact Jg h h'
   ·rw [if_neg λe=>h2 (Bl.1 e)] at h' ⊢;exact h'
  ·rw [if_neg λe=>h1 (Bl.1 e)] at h;by_cases h2:b=c
   ·subst h2;rw [if_neg λe=>h1 (Bl.1 e)];exact h
   ·rw [if_neg λe=>h2 (Bl.1 e)] at h';have h3:=CW h h';rw [if_neg om_];exact h3
theorem B0:SWO (ltOf lcs) where
 irrefl x:=by unfold ltOf;rw [Av.2 rfl];rfl
 trans x y z h h':=by
  unfold ltOf at *;exact dt_ (Jg (of_decide_eq_true h) (of_decide_eq_true h'))
 ntrans x y z h h':=by
  unfold ltOf at *;have h:=of_decide_eq_false h;have h':=of_decide_eq_false h';refine df_ λh3=>?_;by_cases e1:lcs x y=0
  ·rw [Av] at e1;subst e1;exact h' h3
  ·have e2:lcs y x < 0:=Sk.2 om_;exact h' (Jg e2 h3)
theorem lcs_tot (x y:List Ab) (h:ltOf lcs x y=false) (h':ltOf lcs y x=false):x=y:=by
 unfold ltOf at *;have h:=of_decide_eq_false h;have h':=of_decide_eq_false h';rw [Sk] at h';exact Av.1 om_
def lL (a b:List Ab):Prop:=lcs a b < 0
theorem Lu:Ord_ lL where
 irr a h:=by
  have h:lcs a a < 0:=h;rw [Av.2 rfl] at h;omega
 tr a b c:=Jg
 tot a b:=by
  unfold lL;rcases Int.lt_trichotomy (lcs a b) 0 with h | h | h
  ·exact .inr (.inl h)
  ·exact .inl (Av.1 h)
  ·exact .inr (.inr (Sk.2 h))
def Cm:List (List Ab)->List (List Ab)
 | []=>[]
 | [x]=>[x]
 | x :: y :: l=>if lcs x y=0 then Cm (y :: l) else x :: Cm (y :: l)
theorem Md:∀ {l:List (List Ab)} {x:List Ab},x∈Cm l↔x∈l
 | [],_=>.rfl
 | [_],_=>.rfl
 | a :: b :: l,x=>by
  unfold Cm;split
  ·rename_i h;obtain rfl:=Av.1 h;rw [Md];simp
  ·rw [FA,Md,FA,FA,FA]
theorem Wo:∀ {l:List (List Ab)},l.Pairwise (λa b=>ltOf lcs b a=false)->(Cm l).Pairwise lL
 | [],_=>.nil
 | [_],_=>by simp [Cm]
 | a :: b :: l,h=>by
  obtain ⟨h1,h2⟩:=GH.1 h;unfold Cm;split
  ·exact Wo h2
  ·rename_i hne;refine GH.2 ⟨λz hz=>?_,Wo h2⟩;rw [Md] at hz;have hab:lL a b:=by
    rcases Lu.tot a b with e | e | e
    ·exact (hne (Av.2 e)).elim
    ·exact e
    ·have:=h1 b (FP ..);unfold ltOf at this;exact (of_decide_eq_false this e).elim
   rcases FA.1 hz with rfl | hz
   ·exact hab
   ·rcases Lu.tot b z with e | e | e
    ·exact e ▸ hab
    ·exact Lu.tr _ _ _ hab e
    ·have:=(GH.1 h2).1 z hz;unfold ltOf at this;exact (of_decide_eq_false this e).elim
end Go.Pn
namespace Go.Pn
open Go Go.Sort Go.Proofs
def lcz (a b:List Ab):Int:=if lcs a b < 0 then -1 else if 0 < lcs a b then 1 else 0
theorem lcz_lt {a b:List Ab}:lcz a b < 0↔lcs a b < 0:=by unfold lcz; split <;> (try split) <;> omega
theorem Mc:ltOf lcz=ltOf lcs:=by
 funext a b
 unfold ltOf;rw [decide_eq_decide];exact lcz_lt
theorem lcz_swo:SWO (ltOf lcz):=by rw [Mc];exact B0
theorem lcz_tot (x y:List Ab) (h:ltOf lcz x y=false) (h':ltOf lcz y x=false):x=y:=lcs_tot x y (by rw [← Mc];exact h) (by rw [← Mc];exact h')
end Go.Pn
namespace Go.Pn
open Go Go.RowKit
def Oz {α:Type} [Rep α] (e:TypeId) (c:Value) (xs:List α):Ent where
 p F M w _:=(xs=[]/\F=[]/\∃ A,c=.slice A 0 0)\/∃ g o cap cur,F=[g]/\c=.slice (some ⟨g,o,none⟩) xs.length cap/\w.heap[g]?=some (.cells cur e (0,0))/\xs.length<=cap/\cap<=maxLen/\cur.size=o + cap/\Chk M w ((cur.toList.drop o).take xs.length) xs
 st h x:=by
  rcases h with h | ⟨g,o,cap,cur,hF,hc,hg,h1,h2,h3,h4⟩
  ·exact .inl h
  ·exact .inr ⟨g,o,cap,cur,hF,hc,by rw [x.block g (E4.1 hg).1 (λhm=>hm.2 (by rw [hF];simp))];exact hg,h1,h2,h3,h4.ext (x.mono λ_ _ hk=>hk.1)⟩
 sb h s:=h.imp id λ⟨g,o,cap,cur,hF,hc,hg,h1,h2,h3,h4⟩=>⟨g,o,cap,cur,hF,hc,hg,h1,h2,h3,h4.sub s⟩
instance {α:Type} [Rep α] {e:TypeId} {c:Value} {xs:List α}:Gh (Oz e c xs):=⟨λh _=>h⟩
def Pz (c:Value) (j:Nat):Ent where
 p F _ _ v:=F=[]/\∃ g o n cap,c=.slice (some ⟨g,o,none⟩) n cap/\v=.pointer (some ⟨g,o + j,none⟩)
 st h _:=h
 sb h _:=h
section
variable {rr:Option Nat} {P:Program} {M0:Fm} {w0:World} {n:Nat} {Γ:Cx} {Q:Exit->Act->World->Prop} {a:Act} {w:World} {ty:TypeId} {α:Type} [Rep α]
theorem Oz.val {e:Nat} {c:Value} {xs:List α} {F:List Nat} {M:Nat->Prop} {v:Value} (h:(Oz e c xs).p F M w v):∃ ad cap,c=.slice ad xs.length cap/\xs.length<=cap/\(xs=[]\/∃ g o,ad=some ⟨g,o,none⟩):=by
 rcases h with ⟨rfl,_,A,rfl⟩ | ⟨g,o,cap,cur,_,rfl,_,h1,_⟩
 ·exact ⟨A,0,rfl,FN _,.inl rfl⟩
 ·exact ⟨_,cap,rfl,h1,.inr ⟨g,o,rfl⟩⟩
theorem Oz.at_ {e:Nat} {c:Value} {xs:List α} {F:List Nat} {M:Nat->Prop} {v:Value} {i g o m cap:Nat} {y:α} (h1:Rep.sz α=1) (h:(Oz e c xs).p F M w v) (hg:c=.slice (some ⟨g,o,none⟩) m cap) (hi:xs[i]?=some y) :
  ∃ m,Rep.rep M w m y/\∀ j u,m[j]?=some u->w.cell? ⟨g,o + i + j,none⟩=some u:=by
 rcases h with ⟨rfl,_⟩ | ⟨g',o',cap',cur,_,hc,hb,hle,_,hsz,hch⟩
 ·simp at hi
 ·rw [hc] at hg;injection hg with h2 _ _;injection h2 with h2;injection h2 with h2 h3 _;subst h2 h3;obtain ⟨p,k,q,hcs,hl,hr,_⟩:=hch.get hi;refine ⟨k,hr,λj u hj=>?_⟩;have hk:k.length=1:=by rw [Rep.len hr,h1]
  have hj0:j=0:=by
   have:=(E6.1 hj).1;omega
  subst hj0;have h4:((cur.toList.drop o').take xs.length)[i]?=some u:=by
   rw [hcs,FU (by rw [hl,h1];omega),hl,h1,GL,KA,FG om_];exact hj
  rw [HN] at h4;split at h4
  case isFalse=>cases h4
  rw [HS] at h4;rw [HY,cell_of_row w g' (o' + i) cur e (0,0) hb];simpa using h4
theorem St.toZ {k e:Nat} {c:Value} {xs:List α} (h1:Rep.sz α=1) (h:St M0 w0 n Γ a w) (hk:Ak Γ k=some (Ow e c xs)):St M0 w0 n ((k,Oz e c xs) :: Γ) a w:=
 h.turn1 hk λF M v _ hp=>by
  have hp0:=hp;rcases Ow.full h1 hp with ⟨rfl,A,hA,_⟩ | ⟨g,cap,cur,hF,hc,hg,h2,h3,h4,h5⟩
  ·rcases hp0 with ⟨hF,cs,ho,hc⟩ | ⟨hF,_,_⟩
   ·rcases ho.2 with ⟨rfl,_⟩ | ⟨g,cap,cur,rfl,_,hg,hle,hcap,hsz,htk⟩
    ·exact .inl ⟨rfl,by rw [hF];rfl,_,rfl⟩
    ·injection hA with _ _ h6;subst h6;exact .inr ⟨g,0,0,cur,by rw [hF];rfl,rfl,hg,FN _,G9 _,by rw [hsz];omega,rfl⟩
   ·exact .inl ⟨rfl,hF,A,hA⟩
  ·exact .inr ⟨g,0,cap,cur,hF,hc,hg,h2,h3,by omega,by rw [FH];exact h5⟩
theorem toz {R:Prop} (k:Nat) {e:Nat} {c:Value} {xs:List α} (h1:Rep.sz α=1) (h:St M0 w0 n Γ a w) (hk:Ak Γ k=some (Ow e c xs)) (r:St M0 w0 n ((k,Oz e c xs) :: Γ) a w->R):R:=r (St.toZ h1 h hk)
theorem lnz {T k e:Nat} {x:Operand} {c:Value} {xs:List α} [he:Ea P T e α] (hx:Od Γ x (Qv c)) (hk:Ak Γ k=some (Oz e c xs)):OR P (.call { callee:=.builtin .len,args:=#[x],argTypes:=#[T] }) ty Γ (Va (xs.length:Int)):=by
 refine OR.val λρ M w r=>?_;obtain ⟨_,_,hv⟩:=hx ρ M w r;obtain ⟨_,ho⟩:=r.tmp _ _ hk;obtain ⟨ad,cap,rfl,_⟩:=Oz.val ho;refine ⟨.int .i64 xs.length,λ_ _ _ _=>?_,Va.mkInt⟩;simp [execOp,resolve,hv,invoke,builtin,Builtin.len_,run_underlying he.el,goInt]
theorem ixz {T k e:Nat} {x i:Operand} [he:Ea P T e α] {c:Value} {xs:List α} {m:Int} {y:α} (h1:Rep.sz α=1) (hx:Od Γ x (Qv c)) (hk:Ak Γ k=some (Oz e c xs)) (hi:Od Γ i (Va m)) (h:idx xs m=some y):OR P (.indexAddr T x i) ty Γ (Pz c m.toNat):=by
 refine OR.val λρ M w r=>?_;obtain ⟨_,_,hv⟩:=hx ρ M w r;obtain ⟨_,h2⟩:=hi ρ M w r;obtain ⟨_,ho⟩:=r.tmp _ _ hk;obtain ⟨h0,hl,hg⟩:=Aw h;obtain ⟨ad,cap,rfl,_,h3⟩:=Oz.val ho;obtain ⟨ii,z,hii,_,hs,_⟩:=he.inf;obtain rfl | ⟨g,o,rfl⟩:=h3
 ·simp at hg
 ·refine ⟨.pointer (some ⟨g,o + m.toNat,none⟩),λ_ _ _ _=>?_,rfl,g,o,_,cap,rfl,rfl⟩;simp only [execOp,hv,Va.int h2,Instr.indexAt,EY,asIntOf,EZ,EX,run_underlying he.el];simp [h0,hl,sizeOf,typeInfo,hii,hs,Ay,h1]
theorem ldz {T k e i:Nat} {x:Operand} [Ty P T α] {c:Value} {xs:List α} {y:α} (h1:Rep.sz α=1) (hx:Od Γ x (Pz c i)) (hk:Ak Γ k=some (Oz e c xs)) (h:xs[i]?=some y):OR P (.load T x) ty Γ (Va y):=by
 refine OR.val λρ M w r=>?_;obtain ⟨_,_,g,o,m,cap,hg,hv⟩:=hx ρ M w r;obtain ⟨_,ho⟩:=r.tmp _ _ hk;obtain ⟨m,hr,hc⟩:=Oz.at_ h1 ho hg h;refine ⟨mk (Rep.agg α) m,λ_ _ _ _=>?_,rfl,m,rfl,hr⟩;simp only [execOp,hv,Instr.loadAt,Instr.sureAddr,EY,EZ,EX,Br hc hr]
theorem slz {ops:Array Oper} {rest:List Oper} {T e k d:Nat} {x y:Operand} {pos:String} {aft:Array Edge} {c:Value} {l:Int} {xs zs:List α} (h1:Rep.sz α=1)
  (he:P.underlying T=some (.slice (P.elem T))) (hsz1:(P.info? (P.elem T)).map (·.size)=some 1) (hs:St M0 w0 n Γ a w) (hx:Od Γ x (Qv c)) (hk:Ak Γ k=some (Oz e c xs)) (hy:Od Γ y (Va l)) (hl:lsl xs l (xs.length:Int)=some zs)
  (hn:Nat.blt d n=true) (hdk:Nat.beq d k=false)
  (cont:∀ c' a' w',St M0 w0 n ((d,Qv c') :: (k,Oz e c' zs) :: Γ) a' w'->wpListIn (Fr rr) 0 P ops Q rest a' w') :
  wpListIn (Fr rr) 0 P ops Q (⟨some d,.slice T x (some y) none none,ty,pos,aft,none⟩ :: rest) a w:=by
 refine wpListIn_plain rfl λK hK=>?_;obtain ⟨M,φ,h⟩:=hs;obtain ⟨_,_,hv⟩:=hx _ _ _ h.rd;obtain ⟨_,hy2⟩:=hy _ _ _ h.rd;have hp:=h.holds k _ hk;have hl':0<=l/\l<=xs.length/\zs=xs.drop l.toNat:=by
  unfold lsl at hl;split at hl
  ·rename_i hc;obtain rfl:=Option.some.inj hl;refine ⟨hc.1,hc.2.1,?_⟩;rw [GD smp_]
  ·cases hl
 obtain ⟨hl0,hl1,rfl⟩:=hl';have hsz:∀ w,(sizeOf (P.elem T)).run P w=.ok 1 w:=λw=>by
  cases hie:P.info? (P.elem T) with
  | none=>simp [hie] at hsz1
  | some i=>simp [hie] at hsz1;simp [sizeOf,typeInfo,hie,hsz1]
 have fin:∀ (v:Value),StF M0 w0 n (put k (Oz e v (xs.drop l.toNat)) (Ak Γ)) a w->St M0 w0 n ((d,Qv v) :: (k,Oz e v (xs.drop l.toNat)) :: Γ) (a.put (some d) v) w:=by
  intro v ⟨M',φ',h'⟩;unfold St;rw [Ah,Ah];exact h'.gives ⟨Ext.refl _ _,[],FY,λq hq=>by simp at hq,rfl,rfl⟩ (E7 hn)
 obtain ⟨ad,cap,hcv,hle,_⟩:=Oz.val hp;have hrun:=run_slice_l (P:=P) w T ad xs.length cap he .i64 l hl0 hl1;refine Ba.upon (Ba.val (v:=sliced ad l.toNat xs.length cap 1) (w':=w) ?_ ?_)
 ·simp only [execOp,hv,hcv,G1,FR,Va.int hy2,EY];rw [run_sliceAt_slice _ _ _ _ _ _ he,hrun,hsz];try simp
 ·refine hK _ _ (cont (sliced ad l.toNat xs.length cap 1) _ _ ?_);by_cases hcl:cap=l.toNat
  ·-- nothing is left
   have hx0:xs.drop l.toNat=[]:=FS om_;have hs0:sliced ad l.toNat xs.length cap 1=.slice ad 0 0:=by
    unfold sliced;rw [if_pos hcl];congr 1 <;> omega
   rw [hx0,hs0];unfold St;rw [Ef];exact h.own2 (F:=[]) (by rw [hk];rfl) (E7 hn) (FZ hdk) (Ext.refl _ _) FY (λq hq=>by simp at hq) λu=>.inl ⟨rfl,rfl,_,rfl⟩
  ·refine fin _ ?_;rcases hp with ⟨h0,_,A,hA⟩ | ⟨g,o,cap',cur,hF,hc,hg,h2,h3,h4,h5⟩
   ·exfalso;rw [hcv] at hA;injection hA with _ _ hA;rw [h0] at hl1;simp at hl1;omega
   ·rw [hcv] at hc;injection hc with hc1 _ hc3;subst hc1 hc3;have hs1:sliced (some ⟨g,o,none⟩) l.toNat xs.length cap 1=.slice (some ⟨g,o + l.toNat,none⟩) (xs.drop l.toNat).length (cap - l.toNat):=by
     unfold sliced;rw [if_neg hcl];simp [Ay]
    rw [hs1];refine h.write (b:=g) (by rw [hk];rfl) (by rw [hF];simp) (Ext.refl _ _) (.inr ⟨g,o + l.toNat,cap - l.toNat,cur,hF,rfl,hg,by simp;omega,by omega,by omega,?_⟩);have h6:=h5.drop1 h1 l.toNat
    rw [J3,← List.drop_drop];rw [List.drop_take] at h6;exact h6
theorem Yr (w:World) (t ty e:TypeId) (i:TypeInfo) (ht:P.underlying t=some (.slice e)) (hi:P.info? e=some i) (his:i.size=1)
  (g o sLen sCap:Nat) (cur:Array Value) (hg:w.heap[g]?=some (.cells cur e (0,0)))
  (a:Addr) (m c:Nat) (news:List Value) (hl:news.length=m) (hnews:∀ j u,news[j]?=some u->w.cell? (a.add j)=some u) (h1:∀ u∈news,u.oneCell'=true)
  (hroom:sLen + m<=sCap) (hfit:o + sLen + news.length<=cur.size) :
  (Builtin.append_ #[t,t] ty #[.slice (some ⟨g,o,none⟩) sLen sCap,.slice (some a) m c]).run P w =
   .ok (.slice (some ⟨g,o,none⟩) (sLen + m) sCap) (w.setRow g (cur.toList.take (o + sLen) ++ news ++ cur.toList.drop (o + sLen + news.length)).toArray):=by
 have hf:=run_firstCells_some (P:=P) w i.size m a m c news (by rw [his,hl];omega) hnews;have hst:=run_storeCells_at P g (o + sLen) e news 0 cur w hg (by simpa using hfit) h1;simp only [HY] at hst;rw [his] at hf;simp [Builtin.append_,run_underlying ht,sizeOf,typeInfo,hi,his,Builtin.lenOf,hroom,hf,Addr.add_lit,hst]
theorem CY {T e:Nat} [he:Ea P T e α] (h1:Rep.sz α=1) {M:Nat->Prop} {w:World} {F:List Nat} {c v u0:Value} {xs ys zs:List α} (ho:(Oz e c xs).p F M w u0) (hFM:∀ q∈F,M q) (hy:Sl M w v ys) (hne:ys.isEmpty=false) (ha:app xs ys=some zs) (ty:TypeId) :
  ∃ v' w' F',(Builtin.append_ #[T,T] ty #[c,v]).run P w=.ok v' w'/\Ext (λq=>q∈F) w w'/\F'.Nodup/\(∀ q∈F',q∈F\/(w.heap.size<=q/\q < w'.heap.size))/\∀ u,(Oz e v' zs).p F' (λq=>M q\/q∈F') w' u:=by
 unfold app at ha;split at ha
 case isFalse=>cases ha
 rename_i hlen;cases ha
 obtain ⟨i,z,hi,hz,hs,hb,hzs⟩:=he.inf;have hb':=E7 hb;rw [h1] at hs hzs;obtain ⟨ad,cap2,rfl,hy⟩:=hy;have hyp:0 < ys.length:=by
  cases ys with
  | nil=>cases hne
  | cons y ys=>simp
 obtain ⟨b,o2,rfl,hrow⟩:∃ b o,ad=some ⟨b,o,none⟩/\Row M w b o ys:=by
  rcases hy with rfl | h
  ·cases hne
  ·exact h
 obtain ⟨ds,hd,hcl⟩:=hrow.chk;have hdl:ds.length=ys.length:=by rw [hd.len,h1,GL]
 have hcell:∀ j u,ds[j]?=some u->w.cell? ((⟨b,o2,none⟩:Addr).add j)=some u:=λj u hj=>by rw [Ay];exact (hcl j u hj).2
 have hbytes:∀ k:Nat,k<=1073741824->k * i.bytes<=140737488355328:=λk hk=>F7 (JA hk hb') (by decide)
 -- a new block
 have fresh:∀ (olds:List Value) (cap':Nat),Chk M w olds xs->xs.length + ys.length<=cap'->cap'<=maxLen ->
   Ext (λq=>q∈F) w (w.drew.alloc (.cells (olds.toArray ++ ds.toArray ++ Builtin.zeroCells z.cells (cap' - (xs.length + ys.length))) e)) /\
   ∀ u,(Oz e (.slice (some ⟨w.heap.size,0,none⟩) (xs.length + ys.length) cap') (xs ++ ys)).p [w.heap.size] (λq=>M q\/q∈[w.heap.size]) (w.drew.alloc (.cells (olds.toArray ++ ds.toArray ++ Builtin.zeroCells z.cells (cap' - (xs.length + ys.length))) e)) u:=by
  intro olds cap' hch h2 h3;have hol:olds.length=xs.length:=by rw [hch.len,h1,GL]
  have hx:∀ N:Nat->Prop,Ext N w (w.drew.alloc (.cells (olds.toArray ++ ds.toArray ++ Builtin.zeroCells z.cells (cap' - (xs.length + ys.length))) e)):=λN=>
   ⟨rfl,rfl,rfl,by show w.heap.size<=(w.heap.push _).size;simp,λk hk _=>by
    show (w.heap.push _)[k]?=_;rw [Array.getElem?_push_lt hk,GT hk],JP _⟩
  refine ⟨hx _,λu=>.inr ⟨w.heap.size,0,cap',_,rfl,by rw [E3],heap_alloc_new w.drew _,by rw [E3];exact h2,h3,?_,?_⟩⟩
  ·rw [HV,HV,size_zeroCells,hzs];simp [hol,hdl];omega
  ·have:((olds.toArray ++ ds.toArray ++ Builtin.zeroCells z.cells (cap' - (xs.length + ys.length))).toList.drop 0).take (xs ++ ys).length=olds ++ ds:=by
    rw [FH,JS,JS,E3];exact List.take_left' (by simp [hol,hdl])
   rw [this];exact Chk.ext (hx _) (Chk.sub (λk hk hm=>by
    rcases hm with hm | hm
    ·exact hm
    ·simp at hm;omega) (hch.append hd))
 have hmax:xs.length + ys.length<=maxLen:=by unfold maxLen;omega
 rcases ho with ⟨rfl,rfl,A,rfl⟩ | ⟨g,o,cap,cur,rfl,rfl,hg,h2,h3,h4,h5⟩
 ·obtain ⟨f1,f2⟩:=fresh [] (grownCap w ys.length 0 e) rfl (by simpa using grownCap_ge w ys.length 0 e) (grownCap_le_maxLen w _ _ e (by simpa using hmax));have hsz:(w.drew.alloc (.cells (([]:List Value).toArray ++ ds.toArray ++ Builtin.zeroCells z.cells (grownCap w ys.length 0 e - (([]:List α).length + ys.length))) e)).heap.size=w.heap.size + 1:=by show (w.heap.push _).size=_;simp
  refine ⟨_,_,[w.heap.size],?_,f1,by simp,λq hq=>.inr (by simp at hq;subst hq;rw [hsz];omega),f2⟩;cases A with
  | none=>
   have:=run_append_nil (P:=P) w T ty e i z he.el hi hz ⟨b,o2,none⟩ ys.length (cap2 + ys.length) ds (by rw [hs,hdl,GL]) hcell hyp (by simp at hlen;omega) (by have:=hbytes ys.length (by simp at hlen;omega);omega);rw [this];simp
  | some b0=>
   have:=run_append_grow (P:=P) w T ty e i z he.el hi hz b0 0 0 [] smp_ (λj v hj=>by simp at hj) ⟨b,o2,none⟩ ys.length (cap2 + ys.length) ds (by rw [hs,hdl,GL]) hcell om_ (by simp at hlen;omega) (growslice_fits om_ (hbytes _ (by simp at hlen;omega)));rw [this];simp
 ·by_cases hroom:xs.length + ys.length<=cap
  ·have hrun:=Yr (P:=P) w T ty e i he.el hi hs g o xs.length cap cur hg ⟨b,o2,none⟩ ys.length (cap2 + ys.length) ds hdl hcell hd.one hroom om_;have hx:Ext (λq=>q∈[g]) w (w.setRow g (cur.toList.take (o + xs.length) ++ ds ++ cur.toList.drop (o + xs.length + ds.length)).toArray):=⟨rfl,rfl,rfl,by simp [World.setRow],λk _ hk=>by
    have:g≠k:=λe=>hk (by rw [e];simp);simp [World.setRow,G8,this],FN _⟩
   refine ⟨_,_,[g],hrun,hx,by simp,λq hq=>.inl hq,λu=>.inr ⟨g,o,cap,(cur.toList.take (o + xs.length) ++ ds ++ cur.toList.drop (o + xs.length + ds.length)).toArray,rfl,by rw [E3],?_,by rw [E3];exact hroom,h3,?_,?_⟩⟩
   ·simp [World.setRow,G8,hg]
   ·simp;omega
   ·have hcl2:cur.toList.length=cur.size:=by simp
    have h6:(((cur.toList.take (o + xs.length) ++ ds ++ cur.toList.drop (o + xs.length + ds.length)).toArray.toList.drop o).take (xs ++ ys).length)=(cur.toList.drop o).take xs.length ++ ds:=by
     rw [FX,List.drop_append_of_le_length (by rw [G6];omega),List.drop_take,show o + xs.length - o=xs.length by omega,← FX];exact List.take_left' (by rw [E3,E3,G6,J3];omega)
    rw [h6];exact Chk.ext (hx.mono λq _ hq=>.inr hq) (Chk.sub (λk hk hm=>by
     rcases hm with hm | hm
     ·exact hm
     ·exact hFM k hm) (h5.append hd))
  ·have hol:((cur.toList.drop o).take xs.length).length=xs.length:=by rw [h5.len,h1,GL]
   have hcells:∀ j v,((cur.toList.drop o).take xs.length)[j]?=some v->w.cell? ((⟨g,o,none⟩:Addr).add j)=some v:=λj v hj=>by
    rw [HN] at hj;split at hj
    case isFalse=>cases hj
    rw [HS] at hj;rw [Ay,cell_of_row w g (o + j) cur e (0,0) hg];simpa using hj
   obtain ⟨f1,f2⟩:=fresh ((cur.toList.drop o).take xs.length) (grownCap w (xs.length + ys.length) cap e) h5 (grownCap_ge w _ _ e) (grownCap_le_maxLen w _ _ e hmax);have hrun:=run_append_grow (P:=P) w T ty e i z he.el hi hz ⟨g,o,none⟩ xs.length cap _ (by rw [hol,hs,GL]) hcells ⟨b,o2,none⟩ ys.length (cap2 + ys.length) ds (by rw [hs,hdl,GL]) hcell om_ om_ (growslice_fits om_ (hbytes _ hlen));exact ⟨_,_,[w.heap.size],hrun,f1,by simp,λq hq=>.inr (by simp at hq;subst hq;exact ⟨Nat.le_refl _,by show w.heap.size < (w.heap.push _).size;simp⟩),f2⟩
theorem apz {ops:Array Oper} {rest:List Oper} {d:Nat} {T e:Nat} {pos:String} {aft:Array Edge} {x y:Operand} [he:Ea P T e α] {c:Value} {k:Nat} {xs ys zs:List α} (h1:Rep.sz α=1)
  (hs:St M0 w0 n Γ a w) (hx:Od Γ x (Qv c)) (hk:Ak Γ k=some (Oz e c xs)) (hy:Od Γ y (Va ys)) (hne:ys.isEmpty=false) (ha:app xs ys=some zs) (hn:Nat.blt d n=true) (hdk:Nat.beq d k=false)
  (cont:∀ c' a' w',St M0 w0 n ((d,Qv c') :: (k,Oz e c' zs) :: Γ) a' w'->wpListIn (Fr rr) 0 P ops Q rest a' w') :
  wpListIn (Fr rr) 0 P ops Q (⟨some d,.call { callee:=.builtin .append,args:=#[x,y],argTypes:=#[T,T] },ty,pos,aft,none⟩ :: rest) a w:=by
 refine wpListIn_plain rfl λK hK=>?_;obtain ⟨M,φ,h⟩:=hs;obtain ⟨_,_,hv⟩:=hx _ _ _ h.rd;obtain ⟨_,hyv⟩:=hy _ _ _ h.rd;obtain ⟨v',w',F',g1,g2,g3,g4,g5⟩:=CY (P:=P) (T:=T) h1 (h.holds k _ hk) (λq hq=>((h.own k (by rw [hk];rfl)).2 q hq).1) (Va.list hyv) hne ha ty;refine Ba.upon (Ba.val (v:=v') (w':=w') ?_ ?_)
 ·simp only [execOp,resolve,invoke,builtin,EY,EZ,EX,F8,FE,GK,hv,g1]
 ·refine hK _ _ (cont v' _ _ ?_);unfold St;rw [Ef];exact h.own2 (F:=F') (by rw [hk];rfl) (E7 hn) (FZ hdk) g2 g3 g4 g5
theorem ocz {k e:Nat} {c:Value} {xs:List α} (h:Ak Γ k=some (Oz e c xs)):Oc Γ c:=λρ M w r=>by
 obtain ⟨F,hF⟩:=r.tmp _ _ h;obtain ⟨ad,cap,rfl,_⟩:=Oz.val hF;rfl
end
end Go.Pn
namespace Go.Pn
open Go Go.RowKit
section
variable {P:Program} {Γ:Cx} {ty:TypeId}
theorem vaq2 {x:Operand} {y:Int×Int} (h:Od Γ x (Va y)):Od Γ x (Qa [.int .i64 y.1,.int .i64 y.2]):=λρ M w r=>by
 obtain ⟨F,hF,cs,hv,c,d,hcs,h1,h2⟩:=h ρ M w r;have h1:c=[.int .i64 y.1]:=h1;have h2:d=[.int .i64 y.2]:=h2;subst h1 h2 hcs;exact ⟨F,hF,hv,by simp [Value.oneCell']⟩
theorem rpA2 {a b:Int}:Rp Γ [.int .i64 a,.int .i64 b] (a,b):=rpp rpi rpi
theorem vfv {α:Type} [Rep α] {x:Operand} {xs:List α} (h:Od Γ x (Vf xs)):Od Γ x (Va xs):=λρ M w r=>by
 obtain ⟨F,hF,A,hv,hr⟩:=h ρ M w r;exact ⟨F,hF,[_],by rw [hv];rfl,_,rfl,A,0,by rw [HB],hr⟩
theorem cqe {v c:Value} {x:Operand} (h:c=v) (k:Od Γ x (Qv v)):Od Γ x (Qv c):=by rw [h];exact k
theorem nilx {M0:Fm} {w0:World} {n:Nat} {a:Act} {w:World} {α:Type} [Rep α] {R:Prop} (k e:Nat) (h:St M0 w0 n Γ a w) (r:∀ c,c=.slice none 0 0->St M0 w0 n ((k,Ow e c ([]:List α)) :: Γ) a w->R):R:=nilr k e h λs=>r _ rfl s
end
end Go.Pn
namespace Go.Pn
open Go Go.RowKit
def Vq {κ ν:Type} [Rep ν] (M:Nat->Prop) (w:World):List (κ×Value)->List (κ×ν)->Prop
 | [],[]=>True
 | p :: l,q :: m=>p.1=q.1/\V q.2 M w p.2/\Vq M w l m
 | _,_=>False
section
variable {κ ν:Type} [Rep ν] {M M':Nat->Prop} {w w':World}
theorem Vq.imp (hf:∀ (y:ν) v,V y M w v->V y M' w' v):∀ {l:List (κ×Value)} {m:List (κ×ν)},Vq M w l m->Vq M' w' l m
 | [],[],h=>h
 | _ :: _,_ :: _,h=>⟨h.1,hf _ _ h.2.1,Vq.imp hf h.2.2⟩
 | [],_ :: _,h=>h
 | _ :: _,[],h=>h
theorem Vq.find {eqb:κ->κ->Bool} {k:κ}:∀ {l:List (κ×Value)} {m:List (κ×ν)} {i:Nat},Vq M w l m->(Be eqb k l i=none/\Be eqb k m i=none)\/∃ j v y,Be eqb k l i=some (j,v)/\Be eqb k m i=some (j,y)/\V y M w v
 | [],[],i,_=>.inl ⟨rfl,rfl⟩
 | (a,v) :: l,(b,y) :: m,i,h=>by
  obtain ⟨h1,h2,h3⟩:=h;have h1:a=b:=h1;subst h1;unfold Be;cases eqb k a with
  | true=>exact .inr ⟨i,v,y,rfl,rfl,h2⟩
  | false=>exact Vq.find h3
 | [],_ :: _,_,h=>h.elim
 | _ :: _,[],_,h=>h.elim
theorem Vq.push {k:κ} {u:Value} {y:ν} (hu:V y M w u):∀ {l:List (κ×Value)} {m:List (κ×ν)},Vq M w l m->Vq M w (l ++ [(k,u)]) (m ++ [(k,y)])
 | [],[],_=>⟨rfl,hu,trivial⟩
 | _ :: _,_ :: _,h=>⟨h.1,h.2.1,Vq.push hu h.2.2⟩
 | [],_ :: _,h=>h.elim
 | _ :: _,[],h=>h.elim
theorem Vq.mod {u:Value} {y:ν} (hu:V y M w u):∀ {l:List (κ×Value)} {m:List (κ×ν)} {i:Nat},Vq M w l m->Vq M w (l.modify i λp=>(p.1,u)) (m.modify i λp=>(p.1,y))
 | [],[],_,h=>by simpa using h
 | _ :: _,_ :: _,0,h=>⟨h.1,hu,h.2.2⟩
 | _ :: _,_ :: _,i + 1,h=>by
  simp only [List.modify_succ_cons];exact ⟨h.1,h.2.1,Vq.mod hu h.2.2⟩
 | [],_ :: _,_,h=>h.elim
 | _ :: _,[],_,h=>h.elim
theorem Vq.put {eqb:κ->κ->Bool} {k:κ} {u:Value} {y:ν} {l:List (κ×Value)} {m:List (κ×ν)} (h:Vq M w l m) (hu:V y M w u):Vq M w (Ej eqb l k u) (Ej eqb m k y):=by
 unfold Ej;rcases Vq.find (eqb:=eqb) (k:=k) (i:=0) h with ⟨h1,h2⟩ | ⟨j,v,z,h1,h2,_⟩
 ·rw [h1,h2];exact h.push hu
 ·rw [h1,h2];exact h.mod hu
theorem Vq.len:∀ {l:List (κ×Value)} {m:List (κ×ν)},Vq M w l m->l.length=m.length
 | [],[],_=>rfl
 | _ :: _,_ :: _,h=>by simp [Vq.len h.2.2]
 | [],_ :: _,h=>h.elim
 | _ :: _,[],h=>h.elim
end
def Bn (es:Array MapEntry) (clock:Nat):Prop:=(∀ x∈es.toList,x.born < clock)/\(es.toList.map (·.born)).Nodup
theorem Bn.push {es:Array MapEntry} {cl:Nat} {k v:Value} (h:Bn es cl):Bn (es.push { key:=k,val:=v,born:=cl }) (cl + 1):=by
 constructor
 ·intro x hx;simp at hx;rcases hx with hx | rfl
  ·have:=h.1 x (by simpa using hx);omega
  ·exact J5 _
 ·simp only [Array.toList_push,KB,FE,GK];refine HP.2 ⟨h.2,by simp,λx hx y hy=>?_⟩;obtain rfl:y=cl:=by simpa using hy
  obtain ⟨e,he,rfl⟩:=GZ.1 hx;have:=h.1 e he;omega
theorem Bn.mod {es:Array MapEntry} {cl i:Nat} {k v:Value} (h:Bn es cl):Bn (es.modify i λe=>{ e with key:=k,val:=v }) cl:=by
 have hb:(es.modify i λe=>{ e with key:=k,val:=v }).toList.map (·.born)=es.toList.map (·.born):=by
  rw [JR];refine GP λq=>?_;simp only [FO,JO];by_cases hq:i=q
  ·subst hq;cases es.toList[i]? <;> simp
  ·simp [hq]
 constructor
 ·intro x hx;have:x.born∈(es.modify i λe=>{ e with key:=k,val:=v }).toList.map (·.born):=GZ.2 ⟨x,hx,rfl⟩;rw [hb] at this;obtain ⟨e,he,hee⟩:=GZ.1 this;rw [← hee];exact h.1 e he
 ·rw [hb];exact h.2
def Oq {κ ν:Type} [Rep κ] [FV κ] [Rep ν] (r:Nat) (m:List (κ×ν)):Ent where
 p F M w _:=F=[r]/\∃ es clock l,w.heap[r]?=some (.map es clock)/\es.toList.map (λe=>(e.key,e.val))=l.map (λp:κ×Value=>(FV.val p.1,p.2))/\Bn es clock/\Vq M w l m
 st h e:=by
  obtain ⟨rfl,es,cl,l,hc,hm,hb,hv⟩:=h;exact ⟨rfl,es,cl,l,by rw [e.block r (E4.1 hc).1 smp_];exact hc,hm,hb,hv.imp λy v hy=>hy.ext (e.mono λ_ _ hk=>hk.1)⟩
 sb h s:=by
  obtain ⟨rfl,es,cl,l,hc,hm,hb,hv⟩:=h;exact ⟨rfl,es,cl,l,hc,hm,hb,hv.imp λy v hy=>hy.sub s⟩
instance {κ ν:Type} [Rep κ] [FV κ] [Rep ν] {r:Nat} {m:List (κ×ν)}:Gh (Oq r m):=⟨λh _=>h⟩
def OQ {κ ν:Type} [Rep κ] [FV κ] [Rep ν] (m:List (κ×ν)):Ent where
 p F M w v:=∃ r,v=.map (some r)/\(Oq r m).p F M w v
 st h e:=let ⟨r,hv,h⟩:=h;⟨r,hv,(Oq r m).st h e⟩
 sb h s:=let ⟨r,hv,h⟩:=h;⟨r,hv,(Oq r m).sb h s⟩
section
variable {rr:Option Nat} {P:Program} {M0:Fm} {w0:World} {n:Nat} {Γ:Cx} {Q:Exit->Act->World->Prop} {a:Act} {w:World} {ty:TypeId}
theorem mkq {κ ν:Type} [Rep κ] [FV κ] [Rep ν] {T:TypeId}:OR P (.makeMap T none) ty Γ (OQ ([]:List (κ×ν))):=by
 refine OR.run λρ M w r=>?_;refine ⟨.map (some w.heap.size),w.alloc (.map #[] 0),λ_ _ _ _=>?_,Ext.alloc _ _ _,[w.heap.size],by simp,λk hk=>?_,w.heap.size,rfl,rfl,#[],0,[],Bp _ _,rfl,⟨by simp,by simp⟩,trivial⟩
 ·simp only [execOp,G1,Instr.makeMap,EY,run_newObj,EX,EZ];rfl
 ·simp at hk;subst hk;exact ⟨Nat.le_refl _,by simp⟩
theorem opq {κ ν:Type} [Rep κ] [FV κ] [Rep ν] {d:Nat} {m:List (κ×ν)} {R:Prop} (k:Nat) (h:St M0 w0 n Γ a w) (hd:Ak Γ d=some (OQ m)) (hne:Nat.beq d k=false) (r:∀ b,St M0 w0 n ((d,Qv (.map (some b))) :: (k,Oq b m) :: Γ) a w->R):R:=by
 obtain ⟨M,φ,h⟩:=h;obtain ⟨b,hv,hb⟩:=h.holds d _ hd;refine r b ?_;unfold St;rw [Ef];exact h.split (by rw [hd];rfl) (FZ hne) ⟨rfl,hv⟩ hb
theorem sqqm {ops:Array Oper} {rest:List Oper} {d:Nat} {op:Op} {pos:String} {aft:Array Edge} {κ ν:Type} [Rep κ] [FV κ] [Rep ν] {m:List (κ×ν)} (K:Nat)
  (hs:St M0 w0 n Γ a w) (ho:OR P op ty Γ (OQ m)) (hn:Nat.blt d n=true) (hdk:Nat.beq d K=false)
  (k:∀ b a' w',St M0 w0 n ((d,Qv (.map (some b))) :: (K,Oq b m) :: (d,OQ m) :: Γ) a' w'->wpListIn (Fr rr) 0 P ops Q rest a' w'):wpListIn (Fr rr) 0 P ops Q (⟨some d,op,ty,pos,aft,none⟩ :: rest) a w:=
 sq hs ho hn λa' w' s=>opq K s (by simp [Ak]) hdk λb s=>k b a' w' s
theorem Tk {κ:Type} [Rep κ] [FV κ] {T K E:Nat} {eqb:κ->κ->Bool} [mk:MK P K κ eqb] {zv:Value} {r:Nat} {es:Array MapEntry} {cl:Nat} {l:List (κ×Value)} {w:World} (hc:w.heap[r]?=some (.map es cl)) (hm:es.toList.map (λe=>(e.key,e.val))=l.map (λp:κ×Value=>(FV.val p.1,p.2))) (hT:Gq P T=some (K,E)) (k:κ) (hz:(P.info? E).map (·.zero)=some (some zv)) (c:Bool) :
  (Instr.lookup T (.map (some r)) (FV.val k) c).run P w=.ok (let q:=match Be eqb k l 0 with | some y=>(y.2,true) | none=>(zv,false);if c then .tuple #[q.1,.bool q.2] else q.1) w:=by
 have hf:=mk.find k l es.toList w hm;have hchk:=mk.check k es.isEmpty w;have hzr:(zeroValue E).run P w=.ok zv w:=by
  cases hi:P.info? E with
  | none=>simp [hi] at hz
  | some i=>
   simp only [hi,FR,Option.some.injEq] at hz;simp only [zeroValue,typeInfo,EY,run_program,EX,hi,EZ,hz]
 have hg:(getObj r).run P w=.ok (.map es cl) w:=MapKept.run_getObj_map hc;simp only [Instr.lookup,EY,run_underlying (Bv hT),EX,hg,EZ,hchk,hf];cases hq:Be eqb k l 0 with
 | none=>simp only [EY,hzr,EX,EZ]
 | some q=>rfl
theorem lkq {κ ν:Type} [Rep κ] [FV κ] [Rep ν] {T K E KK:Nat} {eqb:κ->κ->Bool} [MK P K κ eqb] {z:ν} {zv:Value} {x y:Operand} {r:Nat} {m:List (κ×ν)} {k:κ} (hx:Od Γ x (Qv (.map (some r)))) (hk:Ak Γ KK=some (Oq r m)) (hy:Od Γ y (Va k)) (hT:Gq P T=some (K,E)) (hz:(P.info? E).map (·.zero)=some (some zv)) (hzv:∀ M w,V z M w zv) :
  OR P (.lookup T x y false) ty Γ (Va ((mat eqb m k).getD z)):=by
 refine OR.val λρ M w rd=>?_;obtain ⟨_,_,hv⟩:=hx ρ M w rd;obtain ⟨_,hb⟩:=hy ρ M w rd;obtain ⟨_,_,es,cl,l,hc,hm,_,hvq⟩:=rd.tmp _ _ hk;have hr:=Tk (P:=P) (eqb:=eqb) hc hm hT k hz false;unfold mat
 rcases Vq.find (eqb:=eqb) (k:=k) (i:=0) hvq with ⟨h1,h2⟩ | ⟨j,v,u,h1,h2,h3⟩
 ·rw [h1] at hr;rw [h2];exact ⟨zv,λ_ _ _ _=>by simp only [execOp,hv,Va.fv hb,EY,hr,EX,EZ];rfl,rfl,hzv _ _⟩
 ·rw [h1] at hr;rw [h2];exact ⟨v,λ_ _ _ _=>by simp only [execOp,hv,Va.fv hb,EY,hr,EX,EZ];rfl,rfl,h3⟩
theorem lkoq {κ ν:Type} [Rep κ] [FV κ] [Rep ν] {T K E KK:Nat} {eqb:κ->κ->Bool} [MK P K κ eqb] {z:ν} {zv:Value} {x y:Operand} {r:Nat} {m:List (κ×ν)} {k:κ} (hx:Od Γ x (Qv (.map (some r)))) (hk:Ak Γ KK=some (Oq r m)) (hy:Od Γ y (Va k)) (hT:Gq P T=some (K,E)) (hz:(P.info? E).map (·.zero)=some (some zv)) (hzv:∀ M w,V z M w zv) :
  OR P (.lookup T x y true) ty Γ (T2 (Va ((mat eqb m k).getD z)) (Va (mat eqb m k).isSome)):=by
 refine OR.val λρ M w rd=>?_;obtain ⟨_,_,hv⟩:=hx ρ M w rd;obtain ⟨_,hb⟩:=hy ρ M w rd;obtain ⟨_,_,es,cl,l,hc,hm,_,hvq⟩:=rd.tmp _ _ hk;have hr:=Tk (P:=P) (eqb:=eqb) hc hm hT k hz true;unfold mat
 rcases Vq.find (eqb:=eqb) (k:=k) (i:=0) hvq with ⟨h1,h2⟩ | ⟨j,v,u,h1,h2,h3⟩
 ·rw [h1] at hr;rw [h2];exact ⟨.tuple #[zv,.bool false],λ_ _ _ _=>by simp only [execOp,hv,Va.fv hb,EY,hr,EX,EZ];rfl,_,_,[],[],rfl,rfl,⟨rfl,hzv _ _⟩,Va.mkBool⟩
 ·rw [h1] at hr;rw [h2];exact ⟨.tuple #[v,.bool true],λ_ _ _ _=>by simp only [execOp,hv,Va.fv hb,EY,hr,EX,EZ];rfl,_,_,[],[],rfl,rfl,⟨rfl,h3⟩,Va.mkBool⟩
theorem CX {κ:Type} [Rep κ] [FV κ] {T K E:Nat} {eqb:κ->κ->Bool} [hmk:MK P K κ eqb] {r:Nat} {es:Array MapEntry} {cl:Nat} {l:List (κ×Value)} {w:World} (hc:w.heap[r]?=some (.map es cl)) (hm:es.toList.map (λe=>(e.key,e.val))=l.map (λp:κ×Value=>(FV.val p.1,p.2))) (hT:Gq P T=some (K,E)) (hbn:Bn es cl) (k:κ) (v:Value) :
  ∃ es' cl',(Instr.mapUpdate T (.map (some r)) (FV.val k) v).run P w=.ok () { w with heap:=w.heap.setIfInBounds r (.map es' cl') }/\es'.toList.map (λe=>(e.key,e.val))=(Ej eqb l k v).map (λp=>(FV.val p.1,p.2))/\Bn es' cl':=by
 have hf:=hmk.find k l es.toList w hm;have hchk:=hmk.check k false w;have hg:(getObj r).run P w=.ok (.map es cl) w:=MapKept.run_getObj_map hc;have hset:=λo=>MapKept.run_setObj_map (P:=P) (w:=w) o hc;simp only [Instr.mapUpdate,EY,run_underlying (Bv hT),EX,hg,hchk,hf];unfold Ej;cases hq:Be eqb k l 0 with
 | none=>
  refine ⟨es.push { key:=FV.val k,val:=v,born:=cl },cl + 1,?_,?_,hbn.push⟩
  ·exact hset _
  ·simp [hm]
 | some q=>
  obtain ⟨i,y⟩:=q;obtain ⟨k',_,h2,h3⟩:=Dh hq;have hkk:=hmk.stays k k' h3;subst hkk;rw [J9] at h2;have hi:(es.toList.map (λe=>(e.key,e.val)))[i]?=some (FV.val k',y):=by rw [hm,FO,h2];rfl
  rw [FO] at hi;obtain ⟨e,he,hee⟩:=H1.1 hi;have hek:e.key=FV.val k':=congrArg Prod.fst hee;have hei:es[i]?=some e:=by rw [← GQ];exact he
  refine ⟨es.modify i λe=>{ e with key:=FV.val k',val:=v },cl,?_,?_,hbn.mod⟩
  ·simp only [hei,H7,hek,Instr.keyThatStays,hmk.same,if_true,EZ,EY,EX,FR];exact hset _
  ·rw [JR];refine GP λq=>?_;have hmq:(es.toList[q]?).map (λe=>(e.key,e.val))=(l[q]?).map λp=>(FV.val p.1,p.2):=by rw [← FO,hm,FO]
   simp only [FO,JO];by_cases hiq:i=q
   ·subst hiq;rw [he,h2];simp
   ·simp only [hiq,if_false];rw [show (λa:MapEntry=>a) <$> es.toList[q]?=es.toList[q]? by simp,show (λa:κ×Value=>a) <$> l[q]?=l[q]? by simp];exact hmq
theorem lnmq {κ ν:Type} [Rep κ] [FV κ] [Rep ν] {T K E KK:Nat} {x:Operand} {r:Nat} {m:List (κ×ν)} (hx:Od Γ x (Qv (.map (some r)))) (hk:Ak Γ KK=some (Oq r m)) (hT:Gq P T=some (K,E)):OR P (.call { callee:=.builtin .len,args:=#[x],argTypes:=#[T] }) ty Γ (Va (m.length:Int)):=by
 refine OR.val λρ M w rd=>?_;obtain ⟨_,_,hv⟩:=hx ρ M w rd;obtain ⟨_,_,es,cl,l,hc,hm,_,hvq⟩:=rd.tmp _ _ hk;have hg:(getObj r).run P w=.ok (.map es cl) w:=MapKept.run_getObj_map hc;have hl:es.size=m.length:=by
  have:=congrArg List.length hm;rw [← hvq.len];simpa using this
 refine ⟨.int .i64 m.length,λ_ _ _ _=>?_,Va.mkInt⟩;simp [execOp,hg,hl,resolve,hv,invoke,builtin,Builtin.len_,run_underlying (Bv hT),goInt]
theorem vqn {α:Type} [Rep α]:∀ M w,V ([]:List α) M w (.slice none 0 0):=λ_ _=>⟨_,rfl,_,rfl,none,0,rfl,.inl rfl⟩
theorem stq_ {κ ν:Type} [Rep κ] [FV κ] [Rep ν] {ops:Array Oper} {rest:List Oper} {T K E KK:Nat} {eqb:κ->κ->Bool} [hmk:MK P K κ eqb] {x y u:Operand} {pos:String} {aft:Array Edge} {r:Nat} {m:List (κ×ν)} {k:κ} {v:ν} (ins:Bool)
  (hs:St M0 w0 n Γ a w) (hx:Od Γ x (Qv (.map (some r)))) (hk:Ak Γ KK=some (Oq r m)) (hy:Od Γ y (Va k)) (hu:Od Γ u (Va v)) (hT:Gq P T=some (K,E))
  (cont:∀ w',St M0 w0 n ((KK,Oq r (Ej eqb m k v)) :: Γ) a w'->wpListIn (Fr rr) 0 P ops Q rest a w'):wpListIn (Fr rr) 0 P ops Q (⟨none,(bif ins then .insert T x y u else .mapUpdate T x y u),ty,pos,aft,none⟩ :: rest) a w:=by
 refine wpListIn_plain (by cases ins <;> rfl) λKc hK=>?_
 obtain ⟨M,φ,h⟩:=hs;obtain ⟨_,_,hv⟩:=hx _ _ _ h.rd;obtain ⟨_,hb⟩:=hy _ _ _ h.rd;obtain ⟨_,_,hd⟩:=hu _ _ _ h.rd;have hown:=h.own KK (by rw [hk];rfl);obtain ⟨hF,es,cl,l,hc,hm,hbn,hvq⟩:=h.holds KK _ hk;have hMr:M r:=(hown.2 r (by rw [hF];simp)).1;have hlt:=(E4.1 hc).1;obtain ⟨es',cl',hrun,hm',hbn'⟩:=CX (P:=P) (eqb:=eqb) hc hm hT hbn k (a.eval u);have hext:Ext (λq=>q=r) w { w with heap:=w.heap.setIfInBounds r (.map es' cl') }:=⟨rfl,rfl,rfl,by simp,λq _ hq=>by
  simp only [GA];rw [if_neg (λe=>hq e.symm)],FN _⟩
 have hextM:Ext M w { w with heap:=w.heap.setIfInBounds r (.map es' cl') }:=hext.mono λq _ e=>by subst e;exact hMr
 refine Ba.upon (Ba.skip (w':={ w with heap:=w.heap.setIfInBounds r (.map es' cl') }) ?_ ?_)
 ·cases ins <;> simp only [cond_true,cond_false,execOp,hv,Va.fv hb,EY,hrun,EX,EZ]
 ·refine hK _ _ (cont _ ?_);unfold St;rw [Ah];refine h.write (b:=r) (by rw [hk];rfl) (by rw [hF];simp) hext ⟨hF,es',cl',_,(?_:({ w with heap:=w.heap.setIfInBounds r (.map es' cl') }:World).heap[r]?=_),hm',hbn',?_⟩
  ·simp only [GA,if_true];rw [if_pos hlt]
  ·exact (hvq.put hd).imp λy v hy=>hy.ext hextM
end
end Go.Pn
namespace Go.Pn
open Go Go.RowKit
def Oe {κ ν:Type} [Rep κ] [FV κ] [Rep ν] (r:Nat) (es:Array MapEntry) (cl:Nat) (m:List (κ×ν)):Ent where
 p F M w _:=F=[r]/\∃ l,w.heap[r]?=some (.map es cl)/\es.toList.map (λe=>(e.key,e.val))=l.map (λp:κ×Value=>(FV.val p.1,p.2))/\Bn es cl/\Vq M w l m
 st h e:=by
  obtain ⟨rfl,l,hc,hm,hb,hv⟩:=h;exact ⟨rfl,l,by rw [e.block r (E4.1 hc).1 smp_];exact hc,hm,hb,hv.imp λy v hy=>hy.ext (e.mono λ_ _ hk=>hk.1)⟩
 sb h s:=by
  obtain ⟨rfl,l,hc,hm,hb,hv⟩:=h;exact ⟨rfl,l,hc,hm,hb,hv.imp λy v hy=>hy.sub s⟩
def Im (it b cl:Nat) (seen:Array Nat):Ent where
 p F _ w _:=F=[it]/\w.heap[it]?=some (.mapIter (some b) cl seen cl)
 st h e:=by
  obtain ⟨rfl,h⟩:=h;exact ⟨rfl,by rw [e.block it (E4.1 h).1 smp_];exact h⟩
 sb h _:=h
def IM (b cl:Nat):Ent where
 p F M w v:=∃ it,v=pb it 0/\(Im it b cl #[]).p F M w v
 st h e:=let ⟨it,hv,h⟩:=h;⟨it,hv,(Im it b cl #[]).st h e⟩
 sb h s:=let ⟨it,hv,h⟩:=h;⟨it,hv,(Im it b cl #[]).sb h s⟩
def Ne (e:Option (Value×Value)):Ent where
 p F _ _ v:=F=[]/\v=match e with | some q=>.tuple #[.bool true,q.1,q.2] | none=>.tuple #[.bool false]
 st h _:=h
 sb h _:=h
def Ntm (q:Value×Value):Ent where
 p F _ _ v:=F=[]/\v=.tuple #[q.1,q.2]
 st h _:=h
 sb h _:=h
theorem Vq.keys {κ ν:Type} [Rep ν] {M:Nat->Prop} {w:World}:∀ {l:List (κ×Value)} {m:List (κ×ν)},Vq M w l m->l.map (·.1)=m.map (·.1)
 | [],[],_=>rfl
 | p :: l,q :: m,h=>by
  obtain ⟨h1,_,h3⟩:=h;rw [FE,FE,h1,Vq.keys h3]
 | [],_ :: _,h=>h.elim
 | _ :: _,[],h=>h.elim
section
variable {rr:Option Nat} {P:Program} {M0:Fm} {w0:World} {n:Nat} {Γ:Cx} {Q:Exit->Act->World->Prop} {a:Act} {w:World} {ty:TypeId} {κ ν:Type} [Rep κ] [FV κ] [Rep ν]
theorem St.opE {K b:Nat} {m:List (κ×ν)} (h:St M0 w0 n Γ a w) (hk:Ak Γ K=some (Oq b m)):∃ es cl,es.toList.map (·.key)=m.map (λp=>FV.val p.1)/\Bn es cl/\St M0 w0 n ((K,Oe b es cl m) :: Γ) a w:=by
 obtain ⟨M,φ,h⟩:=h;obtain ⟨hF,es,cl,l,hc,hm,hb,hv⟩:=h.holds K _ hk;have hkeys:es.toList.map (·.key)=m.map (λp=>FV.val p.1):=by
  have h1:=congrArg (List.map Prod.fst) hm;rw [JU,JU] at h1;have h2:=hv.keys;have h3:l.map (λp=>FV.val p.1)=(l.map (·.1)).map FV.val:=by rw [JU];rfl
  have h4:m.map (λp=>FV.val p.1)=(m.map (·.1)).map FV.val:=by rw [JU];rfl
  rw [h4,← h2,← h3];exact h1
 refine ⟨es,cl,hkeys,hb,?_⟩;unfold St;rw [Ah];have hs:∀ t,(put K (Oe b es cl m) (Ak Γ) t).isSome=true->(Ak Γ t).isSome=true:=λt ht=>by
  unfold put at ht;split at ht
  ·rename_i h;rw [h,hk];rfl
  ·exact ht
 refine ⟨M,φ,λt e he=>?_,λt ht=>h.own t (hs t ht),λt s hne ht hs'=>h.apart t s hne (hs t ht) (hs s hs'),h.sub,h.bd,h.fr,h.sz,h.df⟩;unfold put at he;split at he
 ·rename_i ht;subst ht;cases he;exact ⟨hF,l,hc,hm,hb,hv⟩
 ·exact h.holds t e he
theorem St.clE {K b:Nat} {es:Array MapEntry} {cl:Nat} {m:List (κ×ν)} (h:St M0 w0 n Γ a w) (hk:Ak Γ K=some (Oe b es cl m)):St M0 w0 n ((K,Oq b m) :: Γ) a w:=
 h.turn1 hk λF M v _ hp=>let ⟨hF,l,hc,hm,hb,hv⟩:=hp;⟨hF,es,cl,l,hc,hm,hb,hv⟩
theorem rgm {T k e K:Nat} {x:Operand} {b:Nat} {es:Array MapEntry} {cl:Nat} {m:List (κ×ν)} (hx:Od Γ x (Qv (.map (some b)))) (hk:Ak Γ K=some (Oe b es cl m)) (hT:Gq P T=some (k,e)):OR P (.range T x) ty Γ (IM b cl):=by
 refine OR.run λρ M w r=>?_;obtain ⟨_,_,hv⟩:=hx ρ M w r;obtain ⟨_,_,l,hc,_⟩:=r.tmp _ _ hk;refine ⟨pb w.heap.size 0,w.alloc (.mapIter (some b) cl #[] cl),λ_ _ _ _=>?_,Ext.alloc _ _ _,[w.heap.size],by simp,λk hk=>?_,w.heap.size,rfl,rfl,heap_alloc_new w _⟩
 ·simp only [execOp,hv,EY,run_range_map w T k e b es cl (Bv hT) hc,EX,EZ,pb]
 ·simp at hk;subst hk;exact ⟨Nat.le_refl _,by simp⟩
theorem sqim {ops:Array Oper} {rest:List Oper} {d:Nat} {op:Op} {pos:String} {aft:Array Edge} {b cl:Nat} (K:Nat)
  (hs:St M0 w0 n Γ a w) (ho:OR P op ty Γ (IM b cl)) (hn:Nat.blt d n=true) (hdk:Nat.beq d K=false)
  (k:∀ it a' w',St M0 w0 n ((d,Qv (pb it 0)) :: (K,Im it b cl #[]) :: (d,IM b cl) :: Γ) a' w'->wpListIn (Fr rr) 0 P ops Q rest a' w'):wpListIn (Fr rr) 0 P ops Q (⟨some d,op,ty,pos,aft,none⟩ :: rest) a w:=
 sq hs ho hn λa' w' s'=>by
  obtain ⟨M,φ,h⟩:=s';obtain ⟨it,hv,hb⟩:=h.holds d (IM b cl) (by simp [Ak]);refine k it a' w' ?_;unfold St;rw [Ef];exact h.split (by simp [Ak]) (FZ hdk) ⟨rfl,hv⟩ hb
theorem nxm {ops:Array Oper} {rest:List Oper} {d K K2:Nat} {x:Operand} {T:TypeId} {p:String} {aft:Array Edge} {it b cl:Nat} {es:Array MapEntry} {seen:Array Nat} {m:List (κ×ν)}
  (hs:St M0 w0 n Γ a w) (hx:Od Γ x (Qv (pb it 0))) (hk:Ak Γ K=some (Oe b es cl m)) (hi:Ak Γ K2=some (Im it b cl seen)) (hB:Bn es cl) (hn:Nat.blt d n=true)
  (k0:(leftOf es seen).size=0->∀ a' w',St M0 w0 n ((d,Ne none) :: Γ) a' w'->wpListIn (Fr rr) 0 P ops Q rest a' w')
  (k1:∀ e∈(leftOf es seen).toList,∀ a' w',St M0 w0 n ((d,Ne (some (e.key,e.val))) :: (K2,Im it b cl (seen.push e.born)) :: Γ) a' w'->wpListIn (Fr rr) 0 P ops Q rest a' w'):wpListIn (Fr rr) 0 P ops Q (⟨some d,.next x false,T,p,aft,none⟩ :: rest) a w:=by
 refine wpListIn_plain rfl λKc hK=>?_;obtain ⟨M,φ,h⟩:=hs;obtain ⟨_,_,hv⟩:=hx _ _ _ h.rd;obtain ⟨hF,hc⟩:=h.holds K2 _ hi;obtain ⟨_,l,hcm,_⟩:=h.holds K _ hk;have hlt:=(E4.1 hc).1;rcases run_next_at (P:=P) w T it b cl cl seen es cl hc hcm hB.1 (FN _) with ⟨h0,hrun⟩ | ⟨e,he,w1,hw1,hrun⟩
 ·refine Ba.upon (Ba.val (v:=.tuple #[.bool false]) (w':=w) ?_ ?_)
  ·simp only [execOp,hv,EY];show ((Instr.next (.pointer (some ⟨it,0,none⟩)) false T).run P w).andThen _=_;rw [hrun];rfl
  ·refine hK _ _ (k0 h0 _ _ ?_);unfold St;rw [Ah];exact h.gives ⟨Ext.refl _ _,[],FY,λq hq=>by simp at hq,rfl,rfl⟩ (E7 hn)
 ·refine Ba.upon (Ba.val (v:=.tuple #[.bool true,e.key,e.val]) (w':=Go.ChangeMaps.setBlock w1 it (.mapIter (some b) cl (seen.push e.born) cl)) ?_ ?_)
  ·simp only [execOp,hv,EY];show ((Instr.next (.pointer (some ⟨it,0,none⟩)) false T).run P w).andThen _=_;rw [hrun];rfl
  ·refine hK _ _ (k1 e he _ _ ?_);have h1:StF M0 w0 n (put K2 (Im it b cl (seen.push e.born)) (Ak Γ)) a (Go.ChangeMaps.setBlock w1 it (.mapIter (some b) cl (seen.push e.born) cl)):=by
    refine h.write (b:=it) (by rw [hi];rfl) (by rw [hF];simp) ?_ ⟨hF,?_⟩
    ·rcases hw1 with rfl | rfl
     ·exact ⟨rfl,rfl,rfl,by simp [Go.ChangeMaps.setBlock],λq _ hq=>by simp only [Go.ChangeMaps.setBlock,GA];rw [if_neg (λe=>hq e.symm)],FN _⟩
     ·exact ⟨rfl,rfl,rfl,by show w.heap.size<=(w.heap.setIfInBounds it _).size;simp,λq _ hq=>by
       show (w.heap.setIfInBounds it _)[q]?=_;simp only [GA];rw [if_neg (λe=>hq e.symm)],JP _⟩
    ·rcases hw1 with rfl | rfl
     ·show (w1.heap.setIfInBounds it _)[it]?=_;simp only [GA,if_true];rw [if_pos hlt]
     ·show (w.heap.setIfInBounds it _)[it]?=_;simp only [GA,if_true];rw [if_pos hlt]
   obtain ⟨M',φ',h1⟩:=h1;unfold St;rw [Ah,Ah];exact h1.gives ⟨Ext.refl _ _,[],FY,λq hq=>by simp at hq,rfl,rfl⟩ (E7 hn)
theorem ne0 {x:Operand} {e:Option (Value×Value)} (h:Od Γ x (Ne e)):OR P (.extract x 0) ty Γ (Va e.isSome):=OR.val λρ M w r=>by
 obtain ⟨_,_,h1⟩:=h ρ M w r;cases e with
 | some q=>exact ⟨.bool true,λ_ _ _ _=>by simp only [execOp,h1];rfl,Va.mkBool⟩
 | none=>exact ⟨.bool false,λ_ _ _ _=>by simp only [execOp,h1];rfl,Va.mkBool⟩
theorem enm {K K2:Nat} {x:Operand} {it b cl:Nat} {es:Array MapEntry} {seen:Array Nat} {m:List (κ×ν)} {e:MapEntry} (hx:Od Γ x (Qv (pb it 0))) (hk:Ak Γ K=some (Oe b es cl m)) (hi:Ak Γ K2=some (Im it b cl (seen.push e.born))) (hB:Bn es cl) (he:e∈es.toList) :
  OR P (.entry x) ty Γ (Ntm (e.key,e.val)):=OR.val λρ M w r=>by
 obtain ⟨_,_,hv⟩:=hx ρ M w r;obtain ⟨_,_,hc⟩:=r.tmp _ _ hi;obtain ⟨_,_,l,hcm,_⟩:=r.tmp _ _ hk;have hrun:=run_entry_at (P:=P) w it b cl seen es cl e hc hcm he hB.2;refine ⟨.tuple #[e.key,e.val],λ_ _ _ _=>?_,rfl,rfl⟩;simp only [execOp,hv,EY];show ((Instr.entry (.pointer (some ⟨it,0,none⟩))).run P w).andThen _=_;rw [hrun];rfl
theorem nt0 {x:Operand} {k:Int} {q:Value×Value} (h:Od Γ x (Ntm q)) (hk:q.1=.int .i64 k):OR P (.extract x 0) ty Γ (Va k):=OR.val λρ M w r=>by
 obtain ⟨_,_,h1⟩:=h ρ M w r;rw [hk] at h1;exact ⟨.int .i64 k,λ_ _ _ _=>by simp only [execOp,h1];rfl,Va.mkInt⟩
end
end Go.Pn
namespace Go.Pn
open Go Go.RowKit
abbrev mfs (Ds:List Nat) (K:Fm):Fm:=⟨K.k,K.b,Ds.map mark ++ K.ds⟩
def Dks (Ds:List Nat):Ent where
 p F _ w _:=F=Ds/\∀ D∈Ds,w.heap[D]?=some (.deferred (some []))
 st h e:=by
  obtain ⟨rfl,h⟩:=h;exact ⟨rfl,λD hD=>by rw [e.block D (E4.1 (h D hD)).1 (λhm=>hm.2 hD)];exact h D hD⟩
 sb h _:=h
section
variable {P:Program} {M0:Fm} {w0:World} {n:Nat} {Γ:Cx} {Q:Exit->Act->World->Prop} {a:Act} {w:World} {ty:TypeId}
theorem hMs {Ds:List Nat} {K:Fm} (h:Bd K w):Bd (mfs Ds K) w:=h
theorem St.mk0 (K:Nat) (h:St M0 w0 n Γ a w):St (mfs [] M0) w0 n ((K,Dks []) :: Γ) a w:=h.more λ_ _ _=>⟨rfl,by simp⟩
theorem St.mkc {K k D:Nat} {Ds:List Nat} (h:St (mf D (mfs Ds M0)) w0 n Γ a w) (hK:Ak Γ K=some (Dks Ds)) (hk:Ak Γ k=some (Dk D)) (hne:Nat.beq K k=false):St (mfs (D :: Ds) M0) w0 n ((k,Dd) :: (K,Dks (D :: Ds)) :: Γ) a w:=by
 have hne:=FZ hne;obtain ⟨M,φ,h⟩:=h;obtain ⟨hF1,hc1⟩:=h.holds K _ hK;obtain ⟨hF2,hc2⟩:=h.holds k _ hk;have hsK:(Ak Γ K).isSome=true:=by rw [hK];rfl
 have hsk:(Ak Γ k).isSome=true:=by rw [hk];rfl
 have hD:D∈φ k:=by rw [hF2];simp
 have hDK:D ∉ φ K:=λhm=>h.apart K k hne hsK hsk D hm hD;have some':∀ t,t≠k->(put k Dd (put K (Dks (D :: Ds)) (Ak Γ)) t).isSome=true->(Ak Γ t).isSome=true:=λt h1 ht=>by
  unfold put at ht;rw [if_neg h1] at ht;by_cases h2:t=K
  ·subst h2;exact hsK
  ·rw [if_neg h2] at ht;exact ht
 unfold St;rw [Ah,Ah];refine ⟨M,λt=>if t=k then [] else if t=K then D :: φ K else φ t,λt e he=>?_,λt ht=>?_,λt s hts ht hs=>?_,h.sub,h.bd,h.fr,h.sz,h.df⟩
 ·unfold put at he;by_cases h1:t=k
  ·rw [if_pos h1] at he ⊢;cases he;rfl
  ·rw [if_neg h1] at he ⊢;by_cases h2:t=K
   ·rw [if_pos h2] at he ⊢;cases he
    refine ⟨by rw [hF1],λq hq=>?_⟩;rcases FA.1 hq with rfl | hq
    ·exact hc2
    ·exact hc1 q hq
   ·rw [if_neg h2] at he ⊢;exact h.holds t e he
 ·show (if t=k then [] else if t=K then D :: φ K else φ t).Nodup/\∀ q∈(if t=k then [] else if t=K then D :: φ K else φ t),_
  by_cases h1:t=k
  ·rw [if_pos h1];exact ⟨List.nodup_nil,λq hq=>by simp at hq⟩
  ·rw [if_neg h1];by_cases h2:t=K
   ·rw [if_pos h2];refine ⟨List.nodup_cons.2 ⟨hDK,(h.own K hsK).1⟩,λq hq=>?_⟩;rcases FA.1 hq with rfl | hq
    ·exact (h.own k hsk).2 _ hD
    ·exact (h.own K hsK).2 q hq
   ·rw [if_neg h2];exact h.own t (some' t h1 ht)
 ·intro q hq0 hq0';have hq:q∈(if t=k then [] else if t=K then D :: φ K else φ t):=hq0
  have hq':q∈(if s=k then [] else if s=K then D :: φ K else φ s):=hq0'
  clear hq0 hq0';by_cases h1:t=k
  ·rw [if_pos h1] at hq;simp at hq
  ·by_cases h2:s=k
   ·rw [if_pos h2] at hq';simp at hq'
   ·rw [if_neg h1] at hq;rw [if_neg h2] at hq';have e1:=some' t h1 ht;have e2:=some' s h2 hs;by_cases h3:t=K
    ·have h4:s≠K:=λe=>hts (h3.trans e.symm);rw [if_pos h3] at hq;rw [if_neg h4] at hq';rcases FA.1 hq with rfl | hq
     ·exact h.apart s k h2 e2 hsk _ hq' hD
     ·exact h.apart K s (Ne.symm h4) hsK e2 q hq hq'
    ·rw [if_neg h3] at hq;by_cases h4:s=K
     ·rw [if_pos h4] at hq';rcases FA.1 hq' with rfl | hq'
      ·exact h.apart t k h1 e1 hsk _ hq hD
      ·exact h.apart t K h3 e1 hsK q hq hq'
     ·rw [if_neg h4] at hq';exact h.apart t s hts e1 e2 q hq hq'
theorem lv1 {K:Fm} {fn:Func} {R:Ending->World->Prop} {tm:Array Value} {ds:List Deferred} {D KD:Nat} {Ds:List Nat} (hs:St (mfs (D :: Ds) K) w0 n Γ a w) (hk:Ak Γ KD=some (Dks (D :: Ds))) (htm:a.tmps=tm) (hds:a.defers=ds)
  (h:∀ a w,a.tmps=tm->St (mfs Ds K) w0 n ((KD,Dks Ds) :: Γ) a w->LeavesInM (Fr none) 0 P fn tm R a.defers .returning w):LeavesInM (Fr none) 0 P fn tm R ds .returning w:=by
 obtain ⟨M,φ,h0⟩:=hs;have hdf:=h0.df;rw [hds] at hdf;subst hdf;obtain ⟨hF,hc⟩:=h0.holds KD _ hk;have hcD:=hc D (FP ..);have hlt:=(E4.1 hcD).1;have hko:=h0.own KD (by rw [hk];rfl);have hnd:D ∉ Ds/\Ds.Nodup:=by
  have:=hko.1;rw [hF] at this;exact List.nodup_cons.1 this
 refine ⟨by simp,.inl ⟨D,_,rfl,run_takeDeferred hcD,?_⟩⟩;refine h { a with defers:=Ds.map mark ++ K.ds } _ htm ?_;have hx:Ext (λk=>k=D) w (w.putObj D (.deferred none)):=⟨rfl,rfl,rfl,by simp,λq _ hq=>JE hq,FN _⟩;have hDF:D∈φ KD:=by rw [hF];simp
 refine ⟨M,λt=>if t=KD then Ds else φ t,λt e he=>?_,λt ht=>?_,λt s hts ht hs=>?_,h0.sub,λk hk=>F9 (h0.bd k hk) hx.size,?_,h0.sz,rfl⟩
 ·rw [Ah] at he;unfold put at he;by_cases h3:t=KD
  ·subst h3;simp only [if_true,Option.some.injEq] at he ⊢;subst he;refine ⟨rfl,λq hq=>?_⟩;rw [JE (by rintro rfl;exact hnd.1 hq)];exact hc q (FM _ hq)
  ·simp only [if_neg h3] at he ⊢;refine Ent.st _ (h0.holds t e he) (hx.mono λk _ hk'=>?_);subst hk';exact ⟨(hko.2 _ hDF).1,λhm=>h0.apart t KD h3 (by rw [he];rfl) (by rw [hk];rfl) _ hm hDF⟩
 ·rw [Ah] at ht;unfold put at ht;by_cases h3:t=KD
  ·simp only [h3,if_true];exact ⟨hnd.2,λq hq=>hko.2 q (by rw [hF];exact FM _ hq)⟩
  ·simp only [if_neg h3] at ht ⊢;exact h0.own t ht
 ·rw [Ah] at ht hs;unfold put at ht hs;by_cases h3:t=KD
  ·have h4:s≠KD:=λe=>hts (h3.trans e.symm);simp only [if_neg h4] at hs;intro q hq;have hq:q∈(if t=KD then Ds else φ t):=hq
   rw [if_pos h3] at hq;show q ∉ (if s=KD then Ds else φ s)
   rw [if_neg h4];exact λhm=>h0.apart s KD h4 hs (by rw [hk];rfl) q hm (by rw [hF];exact FM _ hq)
  ·by_cases h4:s=KD
   ·simp only [if_neg h3] at ht;intro q hq;have hq:q∈(if t=KD then Ds else φ t):=hq
    rw [if_neg h3] at hq;show q ∉ (if s=KD then Ds else φ s)
    rw [if_pos h4];exact λhm=>h0.apart t KD h3 ht (by rw [hk];rfl) q hq (by rw [hF];exact FM _ hm)
   ·simp only [if_neg h3,if_neg h4] at ht hs ⊢;exact h0.apart t s hts ht hs
 ·have hD2:=(hko.2 _ hDF).2;exact ⟨hx.os.trans h0.fr.os,hx.tape.trans h0.fr.tape,hx.output.trans h0.fr.output,F7 h0.fr.size hx.size,λk hk hb=>
   (hx.block k (F9 hk h0.fr.size) (λe=>by subst e;exact hD2.elim (λh=>absurd hk om_) hb)).trans (h0.fr.block k hk hb),F7 h0.fr.dr hx.dr⟩
theorem lvms {K:Fm} {fn:Func} {R:Ending->World->Prop} {tm:Array Value} {KD:Nat}:∀ {Ds:List Nat} {Γ:Cx} {a:Act} {w:World} {ds:List Deferred} (_:St (mfs Ds K) w0 n Γ a w) (_:Ak Γ KD=some (Dks Ds)) (_:a.tmps=tm) (_:a.defers=ds)
  (_:∀ Γ' a w,(∀ t,t≠KD->Ak Γ' t=Ak Γ t)->a.tmps=tm->St K w0 n Γ' a w->LeavesInM (Fr none) 0 P fn tm R a.defers .returning w),LeavesInM (Fr none) 0 P fn tm R ds .returning w
 | [],Γ,a,w,ds,hs,_,htm,hds,h=>by
  subst hds;exact h Γ a w (λ_ _=>rfl) htm hs
 | D :: Ds,Γ,a,w,ds,hs,hk,htm,hds,h=>by
  refine lv1 hs hk htm hds λa w ht s=>?_;refine lvms s (by rw [Ah];unfold put;rw [if_pos rfl]) ht rfl λΓ' a w hl ht s=>?_;refine h Γ' a w (λt hne=>?_) ht s;rw [hl t hne,Ah];unfold put;rw [if_neg hne]
theorem lvm' {K:Fm} {fn:Func} {R:Ending->World->Prop} {tm:Array Value} {ds:List Deferred} {KD:Nat} {Ds:List Nat} (hs:St (mfs Ds K) w0 n Γ a w) (hk:Ak Γ KD=some (Dks Ds)) (htm:a.tmps=tm) (hds:a.defers=ds)
  (h:∀ a w,a.tmps=tm->St K w0 n ((KD,Dd) :: Γ) a w->LeavesInM (Fr none) 0 P fn tm R a.defers .returning w):LeavesInM (Fr none) 0 P fn tm R ds .returning w:=
 lvms hs hk htm hds λΓ' a w hl ht s=>h a w ht (by
  obtain ⟨M,φ,s⟩:=s;unfold St;rw [Ah];have hs':∀ t,t≠KD->(put KD Dd (Ak Γ) t).isSome=true->(Ak Γ' t).isSome=true:=λt h1 h2=>by
   unfold put at h2;rw [if_neg h1] at h2;rw [hl t h1];exact h2
  refine ⟨M,λt=>if t=KD then [] else φ t,λt e he=>?_,λt ht=>?_,λt s' hts ht hs=>?_,s.sub,s.bd,s.fr,s.sz,s.df⟩
  ·unfold put at he;by_cases h1:t=KD
   ·rw [if_pos h1] at he ⊢;cases he;rfl
   ·rw [if_neg h1] at he ⊢;exact s.holds t e (by rw [hl t h1];exact he)
  ·show (if t=KD then [] else φ t).Nodup/\∀ q∈(if t=KD then [] else φ t),_
   by_cases h1:t=KD
   ·rw [if_pos h1];exact ⟨List.nodup_nil,λq hq=>by simp at hq⟩
   ·rw [if_neg h1];exact s.own t (hs' t h1 ht)
  ·intro q hq hq';have hq:q∈(if t=KD then [] else φ t):=hq
   have hq':q∈(if s'=KD then [] else φ s'):=hq'
   by_cases h1:t=KD
   ·rw [if_pos h1] at hq;simp at hq
   ·by_cases h2:s'=KD
    ·rw [if_pos h2] at hq';simp at hq'
    ·rw [if_neg h1] at hq;rw [if_neg h2] at hq';exact s.apart t s' hts (hs' t h1 ht) (hs' s' h2 hs) q hq hq')
end
end Go.Pn
namespace Go.Pn
open Go Go.RowKit Go.Proofs
theorem Zm {α:Type} [Rep α] {M:Nat->Prop} {w:World} {ad:Option Addr} {cap l h:Nat} {xs:List α} (hs:xs=[]\/∃ b o,ad=some ⟨b,o,none⟩/\Row M w b o xs) (h1:l<=h) (h2:h<=xs.length) :
  Sl M w (sliced ad l h (cap + xs.length) (Rep.sz α)) ((xs.drop l).take (h - l)):=by
 have hl:((xs.drop l).take (h - l)).length=h - l:=by simp;omega
 by_cases h0:h - l=0
 ·have hn:(xs.drop l).take (h - l)=[]:=by rw [h0];simp
  refine ⟨if cap + xs.length=l then ad else ad.map (·.add (l * Rep.sz α)),cap + xs.length - l,?_,.inl hn⟩
  rw [hn];unfold sliced;rw [h0];rfl
 ·rcases hs with hs | ⟨b,o,rfl,hr⟩
  ·rw [hs] at h2;simp at h2;omega
  ·refine ⟨some ⟨b,o + l * Rep.sz α,none⟩,cap + (xs.length - h),?_,.inr ⟨b,_,rfl,Row.of_get λi x hx=>?_⟩⟩
   ·unfold sliced;rw [if_neg om_,hl,FR,Ay];congr 1;omega
   ·have hi:i < h - l:=by rw [← hl];exact (E6.1 hx).1
    rw [G7 hi,HS] at hx;have:=hr.get hx
    rwa [HC,← Nat.add_assoc] at this
section
variable {P:Program} {Γ:Cx} {ty:TypeId}
theorem EF {α:Type} {xs ys:List α} {l h:Int} (hr:lsl xs l h=some ys):0<=l/\l<=h/\h<=xs.length/\ys=(xs.drop l.toNat).take (h.toNat - l.toNat):=by
 unfold lsl at hr;split at hr
 ·rename_i hc;exact ⟨hc.1,hc.2.1,hc.2.2,(Option.some.inj hr).symm⟩
 ·cases hr
theorem EO {T:TypeId} {α:Type} [Rep α] (he:Es P T α):P.underlying T=some (.slice (P.elem T))/\∀ w,(sizeOf (P.elem T)).run P w=.ok (Rep.sz α) w:=by
 obtain ⟨e,h1,h2⟩:=he.el;have hu:=Sw h1;have hE:P.elem T=e:=by simp [Program.elem,hu]
 rw [hE];refine ⟨hu,λw=>?_⟩;cases hi:P.info? e with
 | none=>rw [hi] at h2;cases h2
 | some i=>rw [hi] at h2;simp at h2;simp [sizeOf,typeInfo,hi,h2]
theorem ll0 {α:Type} [Rep α] {T:TypeId} [he:Es P T α] {x y:Operand} {xs ys:List α} {h:Int} (hx:Od Γ x (Va xs)) (hy:Od Γ y (Va h)) (hr:lsl xs 0 h=some ys):OR P (.slice T x none (some y) none) ty Γ (Va ys):=by
 obtain ⟨h1,h2,h3,rfl⟩:=EF hr;obtain ⟨hu,hsz⟩:=EO he;refine OR.val λρ M w rd=>?_;obtain ⟨_,hv⟩:=hx ρ M w rd;obtain ⟨_,hy2⟩:=hy ρ M w rd;obtain ⟨ad,cap,hv,hs⟩:=Va.list hv;have:=run_slice_h w T ad xs.length (cap + xs.length) hu .i64 h h2 om_;refine ⟨sliced ad 0 h.toNat (cap + xs.length) (Rep.sz α),λ_ _ _ _=>?_,Va.mkList (Zm hs (G9 _) om_)⟩;simp only [execOp,hv,G1,FR,Va.int hy2,EY];rw [run_sliceAt_slice _ _ _ _ _ _ hu,this,hsz];try rfl
theorem ll1 {α:Type} [Rep α] {T:TypeId} [he:Es P T α] {x y:Operand} {xs ys:List α} {l:Int} (hx:Od Γ x (Va xs)) (hy:Od Γ y (Va l)) (hr:lsl xs l (xs.length:Int)=some ys):OR P (.slice T x (some y) none none) ty Γ (Va ys):=by
 obtain ⟨h1,h2,h3,rfl⟩:=EF hr;obtain ⟨hu,hsz⟩:=EO he;refine OR.val λρ M w rd=>?_;obtain ⟨_,hv⟩:=hx ρ M w rd;obtain ⟨_,hy2⟩:=hy ρ M w rd;obtain ⟨ad,cap,hv,hs⟩:=Va.list hv;have:=run_slice_l w T ad xs.length (cap + xs.length) hu .i64 l h1 h2;refine ⟨sliced ad l.toNat xs.length (cap + xs.length) (Rep.sz α),λ_ _ _ _=>?_,Va.mkList (Zm hs om_ (FN _))⟩;simp only [execOp,hv,G1,FR,Va.int hy2,EY];rw [run_sliceAt_slice _ _ _ _ _ _ hu,this,hsz];try rfl
end
end Go.Pn
namespace Go.Pn
theorem I.{u} {α : Sort u} {a : α} : a = a := rfl
abbrev nz : Go.Value := .slice none 0 0
end Go.Pn

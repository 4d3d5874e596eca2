import Derived.Test.YtohmmpdeoahmmaaGreatDoorCp4
set_option synthInstance.checkSynthOrder false
set_option synthInstance.maxSize 10000
set_option synthInstance.maxHeartbeats 400000
set_option maxRecDepth 100000
set_option maxHeartbeats 4000000
set_option linter.unusedVariables false
set_option linter.unusedSimpArgs false
set_option linter.defProp false
namespace Go.Pn
open Go
open Csc
variable {s:Ah}
theorem Az {n:Nat}:m230 FF (n:Int)=some (lnx n):=rfl
theorem Cf {op:Int}:∀ {l:List Nat},m226 FF op (l.map lnx)=some (Nu op l)
 | []=>rfl
 | [n]=>rfl
 | a :: b :: t=>by
  unfold m226;rw [show ((((a :: b :: t).map lnx).length:Int) == 1)=false by rw [beq_eq_false_iff_ne];simp;omega,cf_];rfl
theorem Hd {n:Nat} {l:List Nat} (hl:l.length<=1000):m232 FF (n:Int) (l.map lnx)=some (Nu 3 (n :: l)):=by
 unfold m232;rw [Az,ob_,Bo so_,ob_,show [lnx n] ++ l.map lnx=(n :: l).map lnx from rfl,Cf];rfl
theorem itz_tab:((List.range 64).all λk=>decide (((m231 FF (k:Int)).bind λx=>cat (⟨#[103]⟩:ByteArray) x)=some (nbr 103 k)) && decide (((m231 FF (k:Int)).bind λx=>cat (⟨#[119]⟩:ByteArray) x)=some (nbr 119 k)) && decide (((m231 FF (k:Int)).bind λx=>cat (⟨#[115]⟩:ByteArray) x)=some (nbr 115 k)))=true:=by kernel_rfl
theorem itz {k:Nat} (h:k < 64):∃ x,m231 FF (k:Int)=some x/\cat (⟨#[103]⟩:ByteArray) x=some (nbr 103 k)/\cat (⟨#[119]⟩:ByteArray) x=some (nbr 119 k)/\cat (⟨#[115]⟩:ByteArray) x=some (nbr 115 k):=by
 have h1:=List.all_eq_true.1 itz_tab k (List.mem_range.2 h);rw [Bool.and_eq_true,Bool.and_eq_true,decide_eq_true_iff,decide_eq_true_iff,decide_eq_true_iff] at h1;obtain ⟨⟨h1,h2⟩,h3⟩:=h1;obtain ⟨x,hx,h1⟩:=Option.bind_eq_some_iff.1 h1;rw [hx,ob_] at h2 h3;exact ⟨x,hx,h1,h2,h3⟩
theorem He (h:Sq4 s) {b:Builder} (hb:b.division=cin (dv s)) (hs:b.s.Steps.length=n s) {j:Nat} (hj:j < G s):m228 FF b (j:Int)=some ((las s j:Nat):Int):=by
 have hG:=h.G64;have hn:=h.n;have h0:=h.q.n0;have hGe:=G_eq (s:=s);unfold m228 las;rw [Am om_,hb,Cq,hs,An];by_cases h1:j + 1 < G s
 ·rw [dt_ h1,ct_,if_pos h1,Ak,Ca];obtain ⟨b,h2,h3,h4,_,_⟩:=Hy (s:=s) (j:=j + 1) (k:=n s - 1) om_;have h5:(dv s)[j + 1]?=some b:=h2;have hb:0 < b:=by
   rcases Nat.eq_zero_or_pos b with e | e
   ·subst e;have:g s 0=0:=rfl;omega
   ·exact e
  rw [h5,List.getD_eq_getElem?_getD,h5];show some (wr ((b:Int) - 1))=some ((b - 1:Nat):Int);rw [Be om_ om_];congr 1;omega
 ·rw [df_ h1,cf_,if_neg h1];show some (wr (((n s:Nat):Int) - 1))=_;rw [Be om_ om_];congr 1;omega
theorem Kv (h:Sq4 s) {b:Builder} (hb:b.division=cin (dv s)) {k:Nat} (hk:k < n s):m233 FF b (k:Int)=some ((g s k:Nat):Int):=by
 have hG:=h.G64;have hn:=h.n;have hg:=g_lt h hk;have key:∀ (m i:Nat),g s k<=i->i < G s->i < m->Hc b (k:Int) m (i:Int)=some ((g s k:Nat):Int):=by
  intro m
  induction m with
  | zero=>intro i _ _ h;omega
  | succ m ih=>
   intro i h1 h2 h3;obtain ⟨c,h4,h5,_,_⟩:=dv_le h2 hk;rw [Hc,hb,Ak,Ca,h4];rw [show (some c).map (λx=>((x:Nat):Int))=some (c:Int) from rfl,ob_];by_cases hc:c<=k
   ·have:=h5.1 hc;obtain rfl:i=g s k:=by omega
    rw [df_ om_,cf_]
   ·have hne:¬ i<=g s k:=λe=>hc (h5.2 e);rw [dt_ om_,ct_,Be om_ om_,show (i:Int) - 1=((i - 1:Nat):Int) by omega];exact ih (i - 1) om_ om_ om_
 unfold m233;rw [hb,Cq,Be om_ om_,show (G s:Int) - 1=((G s - 1:Nat):Int) by omega,key FF (G s - 1) om_ om_ uF];rfl
theorem Ku (h:Sq4 s) {k:Nat} (hk:k < n s) {a b:Int} {d g t st:List Int} {i:List ByteArray} {sg:List Ae} {p q:List Int}:m234 FF (k:Int) a b s.Steps d g t st i sg p q=some (((S s k).map CasD.sw).map lnx):=by
 have h6:=(h.st k hk).le;unfold m234;rw [Ak,Au hk,ob_];have:=bldI (L:=Eo FF (stp s k)) (N:=(stp s k).Strokes.length) (f:=λi=>[lnx (CasD.sw (((stp s k).Strokes.getD i default).Actuator.toNat,((stp s k).Strokes.getD i default).Out))]) (acc0:=[]) om_ (λ_ _=>by simp) Bv (λm i acc hi ha=>by
  have hx:=gE_ hi;have hac:=(h.st k hk).ac _ (List.getElem_mem hi);have hd:(stp s k).Strokes.getD i default=(stp s k).Strokes[i]:=by rw [List.getD_eq_getElem?_getD,hx];rfl
  rw [Eo];dsimp only;rw [An,dt_ hi,ct_,Ak,hx,ob_,Am om_,hd];rw [Be (x:=2 * (stp s k).Strokes[i].Actuator) om_ om_];cases ho:(stp s k).Strokes[i].Out with
  | true=>
   rw [ct_,Be om_ om_,ob_,show 2 * (stp s k).Strokes[i].Actuator + 1=((CasD.sw ((stp s k).Strokes[i].Actuator.toNat,true):Nat):Int) by unfold CasD.sw;show _=((2 * (stp s k).Strokes[i].Actuator.toNat + 1:Nat):Int);omega,Az,ob_,Bo so_,ob_]
  | false=>
   rw [cf_,ob_,show 2 * (stp s k).Strokes[i].Actuator=((CasD.sw ((stp s k).Strokes[i].Actuator.toNat,false):Nat):Int) by unfold CasD.sw;show _=((2 * (stp s k).Strokes[i].Actuator.toNat + 0:Nat):Int);omega,Az,ob_,Bo so_,ob_]) (λm acc=>by
  rw [Eo];dsimp only;rw [An,df_ om_,cf_])
 rw [this,Qr,ob_];unfold S;rw [List.map_map,List.map_map,List.nil_append];exact congrArg some (map_rg (l:=(stp s k).Strokes) (d:=default) (f:=λy=>lnx (CasD.sw (y.Actuator.toNat,y.Out))))
theorem Dr (h:Sq4 s) {k:Nat} (hk:k < n s) {a b:Int} {d g st:List Int} {i:List ByteArray} {sg:List Ae} {p q:List Int}:m227 FF (k:Int) a b s.Steps d g (tms s) st i sg p q=some (((dat s).en k).map lnx):=by
 unfold m227;rw [Ak,tms_get hk,ob_];unfold CasD.en;by_cases hw:W s k=true
 ·rw [if_pos hw,if_pos (show (dat s).W k=true from hw),dt_ om_,ct_,ob_,Az];rfl
 ·rw [if_neg hw,if_neg (show ¬ (dat s).W k=true from hw),df_ om_,cf_,Ku h hk];rfl
theorem Qb (h:Sq4 s) {b:Int} {st:List Int} {i:List ByteArray} {sg:List Ae} {p q:List Int}:m157 FF s.Actuators b s.Steps (cin (dv s)) [] [] st i sg p q=some (cin (lnz s),tms s):=by
 have hA:=h.A6;have hG:=h.G64;have hn:=h.n;have h2:=h.q.g2;unfold m157;have e1:=bldI (L:=Ez s.Actuators (cin (dv s))) (N:=G s) (f:=λj=>[((2 * A s + 1 + j:Nat):Int)]) (acc0:=[]) om_ (λ_ _=>by simp) Bv (λm i acc hi ha=>by
  rw [Ez];dsimp only;rw [Cq,An,dt_ hi,ct_,h.Ac,Be (x:=2 * ((A s:Nat):Int)) om_ om_,Be (x:=2 * ((A s:Nat):Int) + 1) om_ om_,Be om_ om_,Bo so_,ob_,Am om_];congr 4) (λm acc=>by
  rw [Ez];dsimp only;rw [Cq,An,df_ om_,cf_])
 rw [e1,Qr,ob_,List.nil_append];dsimp only;rw [Cq];have e2:(bif ((G s:Int) == 2) then (Mz FF ((List.range (G s)).map λj=>((2 * A s + 1 + j:Nat):Int))).bind λx6=>some x6 else some ((List.range (G s)).map λj=>((2 * A s + 1 + j:Nat):Int)))=some (cin (lnz s)):=by
  by_cases e:G s=2
  ·rw [show ((G s:Int) == 2)=true by rw [beq_iff_eq];omega,ct_,e];have:cin (lnz s)=[((2 * A s + 1 + 1:Nat):Int),((2 * A s + 1:Nat):Int)]:=by
    unfold lnz cin;rw [e];show [((2 * A s + 1 + (if G s=2 then 1 - 0 else 0):Nat):Int),((2 * A s + 1 + (if G s=2 then 1 - 1 else 1):Nat):Int)]=_
    rw [e];rfl
   rw [this];rfl
  ·rw [show ((G s:Int) == 2)=false by rw [beq_eq_false_iff_ne];omega,cf_];unfold lnz cin;rw [List.map_map];refine congrArg some (List.map_congr_left λj hj=>?_);show _=((2 * A s + 1 + (if G s=2 then 1 - j else j):Nat):Int)
   rw [if_neg e]
 rw [e2,ob_,h.Ac,Be (x:=2 * ((A s:Nat):Int)) om_ om_,Be (x:=2 * ((A s:Nat):Int) + 1) om_ om_,Be om_ om_];obtain ⟨v,hv,hh⟩:=Ob (L:=Df s.Steps) (mk:=λi (v:Int×List Int)=>(v.1,(i:Int),v.2)) (N:=n s) (I:=λi v=>v=(((2 * A s + 1 + G s + cts s i:Nat):Int),(List.range i).map λk=>if W s k=true then (((dat s).L (.tm k):Nat):Int) else -1)) (λm i v hi hI=>by
  subst hI;have hc:=Hz (s:=s) (k:=i);have hcs:=cts_s (s:=s) i;rw [Df];dsimp only;rw [So hi,ct_,Ak,Au hi,ob_];by_cases hw:W s i=true
  ·have:=Sv.1 hw;rw [show ((stp s i).Wait == 0)=false by rw [beq_eq_false_iff_ne];exact this,cf_,Bo so_,ob_,Am om_,Am om_];refine ⟨(((2 * A s + 1 + G s + cts s i + 1:Nat):Int),(List.range i).map (λk=>if W s k=true then (((dat s).L (.tm k):Nat):Int) else -1) ++ [((2 * A s + 1 + G s + cts s i:Nat):Int)]),?_,rfl⟩
   rw [List.range_succ,List.map_append,hcs];simp only [List.map_cons,List.map_nil,if_pos hw];have e:(dat s).L (.tm i)=2 * A s + 1 + G s + cts s i:=by show 2 * A s + 1 + (G s + cts s i)=_;omega
   rw [e];rfl
  ·have:(stp s i).Wait=0:=by
    rcases Int.lt_trichotomy (stp s i).Wait 0 with e | e | e
    ·exact absurd (Sv.2 om_) hw
    ·exact e
    ·exact absurd (Sv.2 om_) hw
   rw [show ((stp s i).Wait == 0)=true by rw [beq_iff_eq];exact this,ct_,Bo so_,ob_,Am om_];refine ⟨(((2 * A s + 1 + G s + cts s i:Nat):Int),(List.range i).map (λk=>if W s k=true then (((dat s).L (.tm k):Nat):Int) else -1) ++ [-1]),?_,rfl⟩
   rw [List.range_succ,List.map_append,hcs];simp only [List.map_cons,List.map_nil,if_neg hw];rfl) (λm v hI=>by
  rw [Df];dsimp only;rw [Sk,cf_]) FF 0 (((2 * A s + 1 + G s:Nat):Int),[]) om_ uF rfl
 try dsimp only at hh
 rw [n0] at hh;rw [show 2 * ((A s:Nat):Int) + 1 + (G s:Int)=((2 * A s + 1 + G s:Nat):Int) by omega,hh,ob_];subst hv;rfl
theorem Dt (h:Sq4 s) {x:Ae} {b:List Step} {d g t st:List Int} {i:List ByteArray} {sg:List Ae} {p q:List Int} {a:Int} (hl:sg.length<=100000):m225 FF x s.Actuators a b d g t st i sg p q=some (((2 * A s + (sg.length + 1):Nat):Int),sg ++ [x]):=by
 have hA:=h.A6;unfold m225;rw [Bo so_,ob_,h.Ac,List.length_append,Be (x:=2 * ((A s:Nat):Int)) om_ om_,Be so_ so_];rfl
theorem Dq (h:Sq4 s) {x:ByteArray} {e:Expr} {b:List Step} {d g t st:List Int} {i:List ByteArray} {sg:List Ae} {p q:List Int} {a:Int} (hl:sg.length<=100000):m229 FF x e s.Actuators a b d g t st i sg p q=some (((2 * A s + (sg.length + 1):Nat):Int),sg ++ [⟨x,0,e,zxp,0,false⟩]):=by
 unfold m229;rw [Dt h hl,ob_]
theorem Pz (h:Sq4 s) {st:List Int} {i:List ByteArray} {p q:List Int}:m158 FF s.Actuators s.Actuators s.Steps (cin (dv s)) (cin (lnz s)) (tms s) st i [] p q=some (s.Actuators,s.Actuators,s.Steps,cin (dv s),cin (lnz s),tms s,st,i,sgG nmS s,p,q):=by
 have hG:=h.G64;have hn:=h.n;have h0:=h.q.n0;have h2:=h.q.g2;have hA:=h.A6;unfold m158;rw [Cq];by_cases e:G s=2
 ·rw [show ((G s:Int) == 2)=true by rw [beq_iff_eq];omega,ct_];rw [show (0:Int)=((0:Nat):Int) from rfl,show (1:Int)=((1:Nat):Int) from rfl];rw [He h (j:=0) rfl rfl om_,ob_,Dr h (Nc h om_),ob_,Cf,ob_];rw [He h (j:=1) rfl rfl om_,ob_,Dr h (Nc h om_),ob_,Cf,ob_];rw [Dt h Bv,ob_];dsimp only;rw [Az,ob_,Dq h Bv,ob_];have hs:sgG nmS s=[⟨nmS (.gl 1),1,Nu 3 ((dat s).en (las s 0)),Nu 3 ((dat s).en (las s 1)),0,false⟩,⟨nmS (.gl 0),0,⟨2,0,[lnx ((dat s).L (.gl 1))]⟩,zxp,0,false⟩]:=by unfold sgG;rw [if_pos e]
  rw [hs];have hL:(dat s).L (.gl 1)=2 * A s + (([]:List Ae).length + 1):=by
   rw [L_eq];show 2 * A s + 1 + (if G s=2 then 1 - 1 else 1)=_
   rw [if_pos e];rfl
  rw [hL];rfl
 ·rw [show ((G s:Int) == 2)=false by rw [beq_eq_false_iff_ne];omega,cf_];have:=bldI (L:=Ey FF s.Actuators s.Actuators s.Steps (cin (dv s)) (cin (lnz s)) (tms s) st i p q) (N:=G s) (f:=λj=>[(⟨nmS (.gl j),1,Nu 3 ((dat s).L (.gl ((dat s).pv j)) :: (dat s).en (las s ((dat s).pv j))),lnx ((dat s).L (.gl ((dat s).nx j))),0,decide (j=0)⟩:Ae)]) (acc0:=[]) om_ (λ_ _=>by simp) Bv (λm j acc hi ha=>by
   have hp:(dat s).pv j < G s:=CasD.pvl (q:=dat s) h2 hi;have hx:(dat s).nx j < G s:=CasD.nxl (q:=dat s) h2;have ep:(j + G s - 1) % G s=(dat s).pv j:=by
    show _=if j=0 then G s - 1 else j - 1
    by_cases e0:j=0
    ·subst e0;rw [if_pos rfl,Nat.zero_add,Nat.mod_eq_of_lt om_]
    ·rw [if_neg e0,show j + G s - 1=(j - 1) + G s by omega,Nat.add_mod_right,Nat.mod_eq_of_lt om_]
   have ex:(j + 1) % G s=(dat s).nx j:=by
    show _=if j + 1 < G s then j + 1 else 0
    by_cases e0:j + 1 < G s
    ·rw [if_pos e0,Nat.mod_eq_of_lt e0]
    ·rw [if_neg e0,show j + 1=G s by omega,Nat.mod_self]
   obtain ⟨x,hx1,hx2,_⟩:=itz (k:=j) om_;have hl:acc.length<=100000:=by
    have:=ha.2;simp at this;omega
   rw [Ey];dsimp only;have e0:((j:Int) == 0)=decide (j=0):=by rw [Bool.eq_iff_iff];simp
   rw [Cq,An,dt_ hi,ct_,Be (x:=(j:Int) + (G s:Int)) om_ om_,Be om_ om_,show (j:Int) + (G s:Int) - 1=((j + G s - 1:Nat):Int) by omega,Li om_,ep,ob_,hx1,ob_,hx2,ob_,Ak,Jw hp,ob_,He h rfl rfl hp,ob_,Am om_,Li om_,ex,ob_,Ak,Jw hx,ob_,Dr h (Nc h hp),ob_,Hd (by have:=Tf h (Nc h hp);omega),ob_,Az,ob_,Dt h hl,ob_,e0];rfl) (λm acc=>by
   rw [Ey];dsimp only;rw [Cq,An,df_ om_,cf_])
  rw [this,Qr,ob_];have hs:sgG nmS s=(List.range (G s)).map λj=>(⟨nmS (.gl j),1,Nu 3 ((dat s).L (.gl ((dat s).pv j)) :: (dat s).en (las s ((dat s).pv j))),lnx ((dat s).L (.gl ((dat s).nx j))),0,decide (j=0)⟩:Ae):=by unfold sgG;rw [if_neg e]
  rw [hs,List.nil_append]
end Go.Pn
namespace Go.Pn
open Go
open Csc
variable {s:Ah}
structure Sq5 (s:Ah):Prop extends Sq4 s where
 sig:(sgs nmS s).length<=64
end Go.Pn
namespace Go.Pn
open Go
open Csc
variable {s:Ah}
theorem W_pos (h:Sq4 s) {k:Nat} (hk:k < n s):decide ((stp s k).Wait > 0)=W s k:=by
 have:=h.q.w0 k hk;rw [Bool.eq_iff_iff,decide_eq_true_iff,Sv];omega
theorem Py (h:Sq4 s) {st:List Int} {i:List ByteArray} {p q:List Int} {sg:List Ae} (hsg:sg.length<=100):m159 FF s.Actuators s.Actuators s.Steps (cin (dv s)) (cin (lnz s)) (tms s) st i sg p q=some (s.Actuators,s.Actuators,s.Steps,cin (dv s),cin (lnz s),tms s,st,i,sg ++ ((List.range (n s)).filter (W s)).map (sT nmS s),p,q):=by
 have hG:=h.G64;have hn:=h.n;unfold m159;have:=bldI (L:=Ex FF s.Actuators s.Actuators s.Steps (cin (dv s)) (cin (lnz s)) (tms s) st i p q) (N:=n s) (f:=λk=>if W s k=true then [sT nmS s k] else []) (acc0:=sg) om_ (λi _=>by split <;> simp) om_ (λm k acc hi ha=>by
  have hl:acc.length<=100000:=by have:=ha.2;omega
  obtain ⟨x,hx1,_,hx2,_⟩:=itz (k:=k) om_;rw [Ex];dsimp only;rw [So hi,ct_,Ak,Au hi,ob_,W_pos h hi];cases hw:W s k with
  | true=>
   rw [ct_,if_pos rfl,hx1,ob_,hx2,ob_,Kv h rfl hi,ob_,Ak,Jw (g_lt h hi),ob_,Ku h hi,ob_,Hd (by have:=Tk h hi;omega),ob_,Dt h hl,ob_,ob_,Am om_];rfl
  | false=>rw [cf_,if_neg (by decide),ob_,Am om_,List.append_nil]) (λm acc=>by
  rw [Ex];dsimp only;rw [Sk,cf_])
 rw [this,fm_if];rfl
theorem Px (h:Sq4 s) {i:List ByteArray} {p q:List Int} {sg:List Ae} (hsg:sg.length=G s + cts s (n s)):m160 FF s.Actuators s.Actuators s.Steps (cin (dv s)) (cin (lnz s)) (tms s) [] i sg p q=some (s.Actuators,s.Actuators,s.Steps,cin (dv s),cin (lnz s),tms s,cin (sts s),i,sg ++ (List.range (n s)).map (sS nmS s),p,q):=by
 have hG:=h.G64;have hn:=h.n;have hA:=h.A6;have hct:=Hz (s:=s) (k:=n s);unfold m160;obtain ⟨v,hv,hh⟩:=Ob (L:=Ew FF s.Actuators s.Actuators s.Steps (cin (dv s)) (cin (lnz s)) (tms s) i p q) (mk:=λi (v:List Int×List Ae)=>((i:Int),v.1,v.2)) (N:=n s) (I:=λi v=>v=(cin ((List.range i).map λk=>(dat s).L (.sg k)),sg ++ (List.range i).map (sS nmS s))) (λm k v hi hI=>by
  subst hI;have hg:=g_lt h hi;obtain ⟨x,hx1,_,_,hx2⟩:=itz (k:=k) om_;have hbg:(bif ((k:Int) == 0) then (m230 FF (wr ((2:Int) * s.Actuators))).bind λx5=>some ([x5]:List Expr) else (idx (cin (dv s)) ((g s k:Nat):Int)).bind λx6=>(bif (decide (x6 < (k:Int))) then (m227 FF (wr ((k:Int) - 1)) s.Actuators s.Actuators s.Steps (cin (dv s)) (cin (lnz s)) (tms s) (cin ((List.range k).map λk=>(dat s).L (.sg k))) i (sg ++ (List.range k).map (sS nmS s)) p q).bind λx8=>some x8 else some ([]:List Expr)).bind λz7=>some z7)=some (((dat s).bg k).map lnx):=by
   unfold CasD.bg;by_cases h0:k=0
   ·subst h0;rw [show (((0:Nat):Int) == 0)=true from rfl,ct_,if_pos rfl,h.Ac,Be om_ om_,show 2 * ((A s:Nat):Int)=((2 * A s:Nat):Int) by omega,Az];rfl
   ·rw [show ((k:Int) == 0)=false by rw [beq_eq_false_iff_ne];omega,cf_,if_neg h0];obtain ⟨b,h1,_,h3,_⟩:=dv_le (s:=s) hg hi;have h4:=h3 rfl;have hle:=Mo (s:=s) k;rw [Ak,Ca,h1,h4];show ((bif (decide ((((gb s k).1:Nat):Int) < (k:Int))) then _ else _):Option _).bind _=_;by_cases hf:g s (k - 1)=g s k
    ·have hne:(gb s k).1≠k:=λe=>(Ng om_).1 e hf;rw [dt_ om_,ct_,if_pos (show (dat s).g (k - 1)=(dat s).g k from hf),Be om_ om_,show (k:Int) - 1=((k - 1:Nat):Int) by omega,Dr h om_];rfl
    ·have he:(gb s k).1=k:=(Ng om_).2 hf;rw [df_ om_,cf_,if_neg (show ¬ (dat s).g (k - 1)=(dat s).g k from hf)];rfl
  refine ⟨_,rfl,?_⟩;rw [Ew];dsimp only;have hbl:((dat s).bg k).length<=1000:=by
   unfold CasD.bg;split
   ·simp
   ·split
    ·have:=Tf h (show k - 1 < n s by omega);omega
    ·simp
  rw [So hi,ct_,Kv h rfl hi,ob_,hbg,ob_,hx1,ob_,hx2,ob_,Ak,Jw hg,ob_,Hd hbl,ob_,Dq h so_,ob_,Bo (by simp [cin];omega),ob_,Am om_];congr 3
  ·rw [List.range_succ,List.map_append];unfold cin;rw [List.map_append];simp only [List.map_cons,List.map_nil];congr 2;rw [L_eq];show ((2 * A s + ((sg ++ (List.range k).map (sS nmS s)).length + 1):Nat):Int)=((2 * A s + 1 + (G s + cts s (n s) + k):Nat):Int);rw [List.length_append,List.length_map,List.length_range,hsg];omega
  ·rw [List.range_succ,List.map_append,← List.append_assoc];rfl) (λm v _=>by
  rw [Ew];dsimp only;rw [Sk,cf_]) FF 0 ([],sg) om_ uF (by simp [cin])
 try dsimp only at hh
 rw [n0] at hh;rw [hh,hv];rfl
theorem Pp (h:Sq4 s) {k a:Nat} {o:Bool} (hk:k < n s):m235 FF (stp s k).Strokes (⟨(a:Int),o⟩:Ab)=some (decide ((a,o)∈S s k)):=by
 have hS:=h.st k hk;have h6:=hS.le;have hh:=Eg (L:=Ep (stp s k).Strokes (⟨(a:Int),o⟩:Ab)) (N:=(stp s k).Strokes.length) (Q:=λi=>match (stp s k).Strokes[i]? with | some y=>Oa (⟨(a:Int),o⟩:Ab) y | none=>false) (r:=λi=>i) (λm i hi=>by
  rw [Ep,An,dt_ hi,ct_,Ak,gE_ hi,ob_,Am om_]) (λm=>by
  rw [Ep,An,df_ om_,cf_]) FF 0 om_ uF
 rw [n0] at hh;unfold m235 m194;rcases hh with ⟨i,_,hi,hq,hh⟩ | ⟨hh,hq⟩
 ·rw [hh,ob_];dsimp only;rw [ob_,dt_ (show (i:Int)>=0 by omega)];rw [gE_ hi] at hq;dsimp only at hq;have e:(⟨(a:Int),o⟩:Ab)=(stp s k).Strokes[i]:=by
   unfold Oa at hq;simp at hq;cases hx:(stp s k).Strokes[i] with
   | mk p r=>rw [hx] at hq;dsimp only at hq;rw [hq.1,hq.2]
  rw [dt_];exact List.mem_map.2 ⟨_,List.getElem_mem hi,by rw [← e];rfl⟩
 ·rw [hh,ob_];dsimp only;rw [ob_,df_ (by omega:¬ ((-1:Int)>=0))];rw [df_];intro hm;obtain ⟨y,hy,he⟩:=List.mem_map.1 hm;obtain ⟨he1,he2⟩:=Prod.mk.inj he;obtain ⟨i,hi⟩:=List.getElem?_of_mem hy;have:=hq i (Nat.zero_le _) (List.getElem?_eq_some_iff.1 hi).1;rw [hi] at this;dsimp only at this;have hac:=hS.ac y hy;unfold Oa at this;rw [show ((⟨(a:Int),o⟩:Ab).Actuator == y.Actuator)=true by rw [beq_iff_eq];show (a:Int)=_;omega,show ((⟨(a:Int),o⟩:Ab).Out == y.Out)=true by rw [beq_iff_eq];exact he2.symm] at this;cases this
theorem Fy (h:Sq4 s) {a:Nat} {o:Bool} (z1:Int×List Ae×List Int×List Int) (hz1:z1.1=(a:Int)):De FF s.Steps (cin (sts s)) z1 o FF ((0:Int),[])=some ((n s:Int),(((dat s).at_ a o).map λk=>(dat s).L (.sg k)).map lnx):=by
 have hn:=h.n;have:=bldI (L:=De FF s.Steps (cin (sts s)) z1 o) (N:=n s) (f:=λk=>if decide ((a,o)∈S s k)=true then [lnx ((dat s).L (.sg k))] else []) (acc0:=[]) om_ (λi _=>by split <;> simp) Bv (λm i acc hi ha=>by
  have hl:acc.length<=6400:=by have:=ha.2;simp at this;omega
  rw [De];dsimp only;rw [So hi,ct_,Ak,Au hi,ob_,hz1,Pp h hi,ob_];cases decide ((a,o)∈S s i) with
  | true=>rw [ct_,if_pos rfl,Ak,sts_get hi,ob_,Az,ob_,Bo so_,ob_,ob_,Am om_]
  | false=>rw [cf_,if_neg (by decide),ob_,Am om_,List.append_nil]) (λm acc=>by
  rw [De];dsimp only;rw [Sk,cf_])
 rw [this,fm_if];unfold CasD.at_;rw [List.map_map];rfl
theorem Ky (h:Sq4 s) {a:Nat} (ha:a < A s) {i:List ByteArray} (z1:Int×List Ae×List Int×List Int) (hz1:z1.1=(a:Int)) {sg:List Ae} (hl:sg.length=G s + cts s (n s) + n s + 2 * a) {p q:List Int} (hp:p.length<=100) (hq:q.length<=100) :
  Bt FF s.Actuators s.Actuators s.Steps (cin (dv s)) (cin (lnz s)) (tms s) (cin (sts s)) i z1 FF ((0:Int),sg,p,q)=some (2,sg ++ [sP nmS s true a,sP nmS s false a],p ++ [(((dat s).L (.pl a true):Nat):Int)],q ++ [(((dat s).L (.pl a false):Nat):Int)]):=by
 have hA:=h.A6;have hG:=h.G64;have hn:=h.n;have hct:=Hz (s:=s) (k:=n s);obtain ⟨x,hx,hx2⟩:=Nr (show a < 6 by omega) true;obtain ⟨x',hx',hx2'⟩:=Nr (show a < 6 by omega) false;rw [hx] at hx';obtain rfl:=Option.some.inj hx';rw [ct_] at hx2;rw [cf_] at hx2';have e1:(((dat s).L (.pl a true):Nat):Int)=((2 * A s + (sg.length + 1):Nat):Int):=by
  rw [L_eq,hl];show ((2 * A s + 1 + (G s + cts s (n s) + n s + 2 * a + (if true=true then 0 else 1)):Nat):Int)=_
  rw [if_pos rfl];omega
 have e2:(((dat s).L (.pl a false):Nat):Int)=((2 * A s + ((sg ++ [sP nmS s true a]).length + 1):Nat):Int):=by
  rw [L_eq,List.length_append,hl];show ((2 * A s + 1 + (G s + cts s (n s) + n s + 2 * a + (if false=true then 0 else 1)):Nat):Int)=((2 * A s + (G s + cts s (n s) + n s + 2 * a + 1 + 1):Nat):Int)
  rw [if_neg (by decide)];omega
 show Bt FF s.Actuators s.Actuators s.Steps (cin (dv s)) (cin (lnz s)) (tms s) (cin (sts s)) i z1 (99999 + 1) (((0:Nat):Int),sg,p,q)=_;rw [Bt];dsimp only;rw [show decide (((0:Nat):Int) < (([true,false]:List Bool).length:Int))=true from rfl,ct_,Ak,show ([true,false]:List Bool)[0]?=some true from rfl,ob_,Fy h z1 hz1,ob_,hz1,hx,ob_,ct_,hx2,ob_];dsimp only;rw [Cf,ob_,Dq h om_,ob_];dsimp only;rw [Bo so_,ob_,ob_,Am om_,← e1];show Bt FF s.Actuators s.Actuators s.Steps (cin (dv s)) (cin (lnz s)) (tms s) (cin (sts s)) i z1 (99998 + 1) (((1:Nat):Int),sg ++ [sP nmS s true a],p ++ [(((dat s).L (.pl a true):Nat):Int)],q)=_;rw [Bt];dsimp only;rw [show decide (((1:Nat):Int) < (([true,false]:List Bool).length:Int))=true from rfl,ct_,Ak,show ([true,false]:List Bool)[1]?=some false from rfl,ob_,Fy h z1 hz1,ob_,hz1,hx,ob_,cf_,hx2',ob_];dsimp only;rw [Cf,ob_,Dq h so_,ob_];dsimp only;rw [Bo so_,ob_,ob_,Am om_,← e2];show Bt FF s.Actuators s.Actuators s.Steps (cin (dv s)) (cin (lnz s)) (tms s) (cin (sts s)) i z1 (99997 + 1) (((2:Nat):Int),sg ++ [sP nmS s true a] ++ [sP nmS s false a],p ++ [(((dat s).L (.pl a true):Nat):Int)],q ++ [(((dat s).L (.pl a false):Nat):Int)])=_;rw [Bt];dsimp only;rw [show decide (((2:Nat):Int) < (([true,false]:List Bool).length:Int))=false from rfl,cf_,List.append_assoc];rfl
def plL (s:Ah) (o:Bool) (k:Nat):List Int:=(List.range k).map λa=>(((dat s).L (.pl a o):Nat):Int)
theorem Pv (h:Sq4 s) {i:List ByteArray} {sg:List Ae} (hl:sg.length=G s + cts s (n s) + n s):m161 FF s.Actuators s.Actuators s.Steps (cin (dv s)) (cin (lnz s)) (tms s) (cin (sts s)) i sg [] []=some (s.Actuators,s.Actuators,s.Steps,cin (dv s),cin (lnz s),tms s,cin (sts s),i,sg ++ ((List.range (A s)).flatMap λa=>[sP nmS s true a,sP nmS s false a]),plL s true (A s),plL s false (A s)):=by
 have hA:=h.A6;have hG:=h.G64;have hn:=h.n;have hct:=Hz (s:=s) (k:=n s);unfold m161;obtain ⟨v,hv,hh⟩:=Ob (L:=Ev FF s.Actuators s.Actuators s.Steps (cin (dv s)) (cin (lnz s)) (tms s) (cin (sts s)) i) (mk:=λi (v:List Ae×List Int×List Int)=>((i:Int),v.1,v.2.1,v.2.2)) (N:=A s) (I:=λi v=>v=(sg ++ ((List.range i).flatMap λa=>[sP nmS s true a,sP nmS s false a]),plL s true i,plL s false i)) (λm a v hi hI=>by
  subst hI;refine ⟨_,rfl,?_⟩;rw [Ev];dsimp only;rw [show decide ((a:Int) < s.Actuators)=true from dt_ (by rw [h.Ac];omega),ct_,Ky h hi _ rfl (by rw [List.length_append,Hv,hl]) (by unfold plL;simp;omega) (by unfold plL;simp;omega),ob_,Am om_];have e:∀ o,plL s o (a + 1)=plL s o a ++ [(((dat s).L (.pl a o):Nat):Int)]:=λo=>by unfold plL;rw [List.range_succ,List.map_append];rfl
  rw [e,e,List.range_succ,List.flatMap_append];congr 3;simp) (λm v _=>by
  rw [Ev];dsimp only;rw [show decide (((A s:Nat):Int) < s.Actuators)=false from df_ (by rw [h.Ac];omega),cf_]) FF 0 (sg,[],[]) om_ uF (by simp [plL])
 try dsimp only at hh
 rw [n0] at hh;rw [hh,hv];rfl
abbrev strt:List ByteArray:=[⟨#[115,116,97,114,116]⟩]
theorem My (h:Sq5 s):m84 FF s=some (.inr ((0:Int),s.Actuators,s.Actuators,s.Steps,cin (dv s),cin (lnz s),tms s,cin (sts s),strt,sgs nmS s,plL s true (A s),plL s false (A s))):=by
 have h4:=h.toSq4;have hA:=h4.A6;have hG:=h4.G64;have hn:=h4.n;have hct:=Hz (s:=s) (k:=n s);have hT:(((List.range (n s)).filter (W s)).map (sT nmS s)).length=cts s (n s):=by rw [List.length_map];rfl
 unfold m84;rw [Jr h4,ob_,zf_,cf_,Js h4,ob_];dsimp only;rw [zf_,cf_,Qb h4,ob_];dsimp only;have loop:Bh FF FF ((0:Int),s.Actuators,s.Actuators,s.Steps,cin (dv s),cin (lnz s),tms s,([]:List Int),strt,([]:List Ae),([]:List Int),([]:List Int))=some (4,s.Actuators,s.Actuators,s.Steps,cin (dv s),cin (lnz s),tms s,cin (sts s),strt,sgs nmS s,plL s true (A s),plL s false (A s)):=by
  show Bh FF (99999 + 1) (((0:Nat):Int),_)=_;rw [Bh];dsimp only;rw [show decide (((0:Nat):Int) < 4)=true from rfl,ct_,Ak,List.getElem?_range om_,ob_,show ((0:Nat) == 0)=true from rfl,ct_,Pz h4,ob_,Am om_];dsimp only;show Bh FF (99998 + 1) (((1:Nat):Int),_)=_;rw [Bh];dsimp only;rw [show decide (((1:Nat):Int) < 4)=true from rfl,ct_,Ak,List.getElem?_range om_,ob_,show ((1:Nat) == 0)=false from rfl,cf_,show ((1:Nat) == 1)=true from rfl,ct_,Py h4 (by rw [Jo];omega),ob_,Am om_];dsimp only;show Bh FF (99997 + 1) (((2:Nat):Int),_)=_;rw [Bh];dsimp only;rw [show decide (((2:Nat):Int) < 4)=true from rfl,ct_,Ak,List.getElem?_range om_,ob_,show ((2:Nat) == 0)=false from rfl,cf_,show ((2:Nat) == 1)=false from rfl,cf_,show ((2:Nat) == 2)=true from rfl,ct_,Px h4 (by rw [List.length_append,Jo,hT]),ob_,Am om_];dsimp only;show Bh FF (99996 + 1) (((3:Nat):Int),_)=_;rw [Bh];dsimp only;rw [show decide (((3:Nat):Int) < 4)=true from rfl,ct_,Ak,List.getElem?_range om_,ob_,show ((3:Nat) == 0)=false from rfl,cf_,show ((3:Nat) == 1)=false from rfl,cf_,show ((3:Nat) == 2)=false from rfl,cf_,show ((3:Nat) == 3)=true from rfl,ct_,Pv h4 (by rw [List.length_append,List.length_append,Jo,hT,List.length_map,List.length_range]),ob_,Am om_];dsimp only;show Bh FF (99995 + 1) (((4:Nat):Int),_)=_;rw [Bh];dsimp only;rw [show decide (((4:Nat):Int) < 4)=false from rfl,cf_];unfold sgs;rw [List.append_assoc,List.append_assoc];rfl
 rw [loop,ob_];dsimp only;rw [df_ (by have:=h.sig;omega),cf_]
end Go.Pn
namespace Go.Pn
open Go
theorem zf:((0:Int) != 0)=false:=rfl
end Go.Pn
namespace Go.Pn
open Go
open Csc
variable {s:Ah}
theorem few7 (s:Ah):∃ b,m50 FF s=some b:=by
 unfold m50;by_cases h:s.Steps.length > 128
 ·rw [dt_ (by omega:(s.Steps.length:Int) > 128),ct_];exact ⟨_,rfl⟩
 ·rw [df_ (by omega:¬ (s.Steps.length:Int) > 128),cf_];have h1:=Eg (L:=Fw s) (N:=s.Steps.length) (Q:=λi=>match s.Steps[i]? with | some x=>decide ((x.Strokes.length:Int) > 40) | none=>false) (r:=λ_=>false) (λn i hi=>by
   rw [Fw,An,dt_ hi,ct_,Ak,gE_ hi,ob_,Am om_]) (λn=>by
   rw [Fw,An,df_ om_,cf_]) FF 0 om_ uF
  rw [n0] at h1;rcases h1 with ⟨_,_,_,_,h1⟩ | ⟨h1,_⟩ <;> rw [h1] <;> exact ⟨_,rfl⟩
theorem Ns (s:Ah) (m:Int):∃ b,m19 FF s m=some b/\(b=true->Sq4 s/\(n s:Int)<=m):=by
 obtain ⟨b,hb⟩:=few7 s;obtain ⟨e,he,hst⟩:=Sd s;unfold m19;by_cases h:(s.Steps.length:Int)<=m
 ·rw [dt_ h,ct_,hb,ob_,ob_];cases b with
  | false=>exact ⟨false,rfl,λh=>by cases h⟩
  | true=>
   rw [ct_,he];refine ⟨_,rfl,λh0=>?_⟩;have h0:e=0:=by simpa using h0
   obtain ⟨h1,h2,h3⟩:=hst h0;exact ⟨⟨h1,h2,h3⟩,h⟩
 ·rw [df_ h];exact ⟨false,rfl,λh=>by cases h⟩
end Go.Pn
namespace Go.Pn
open Go
open Csc
variable {s:Ah}
theorem perf:m20 FF=some true:=by kernel_rfl
end Go.Pn
namespace Go.Pn
open Go
open Csc
variable {s:Ah}
theorem lslN {α:Type} {xs:List α} {a b:Nat} (h1:a<=b) (h2:b<=xs.length):lsl xs (a:Int) (b:Int)=some ((xs.drop a).take (b - a)):=by
 unfold lsl;rw [if_pos ⟨by omega,by omega,by omega⟩];simp
end Go.Pn
namespace Go.Pn
open Go
open Csc
variable {s:Ah}
theorem sq5_16 (h:Sq4 s) (hn:n s<=16):Sq5 s:=⟨h,by
 have h1:=h.G64;have h2:=Hz (s:=s) (k:=n s);have hA:=h.A6;rw [sgs_len];omega⟩
theorem pair_ok (h:Sq4 s) {i:Nat} (hi:i + 1 < G s):∃ a b,(dv s)[i]?=some a/\(dv s)[i + 1]?=some b/\b < n s/\∃ j,a<=j/\j < b/\rep s j b=true:=by
 have hG:=G_eq (s:=s);have h0:=h.q.n0;obtain ⟨b,h1,h2,h3,h4,h5⟩:=Hy (s:=s) (j:=i + 1) (k:=n s - 1) om_;have hb:0 < b:=by
  rcases Nat.eq_zero_or_pos b with e | e
  ·subst e;have:g s 0=0:=rfl;omega
  ·exact e
 obtain ⟨k,rfl⟩:∃ k,b=k + 1:=⟨b - 1,by omega⟩;have hgk:=h4 hb;rw [Nat.add_sub_cancel] at hgk;obtain ⟨a,g1,_,g2,_⟩:=dv_le (s:=s) (i:=i) (k:=k) om_ om_;have hag:=g2 om_;refine ⟨a,k + 1,g1,h1,by omega,?_⟩;have hbk:brk s (gb s k).1 (k + 1)=true:=by
  have:=g_s (s:=s) k;cases e:brk s (gb s k).1 (k + 1) with
  | true=>rfl
  | false=>rw [e,if_neg (by decide)] at this;omega
 unfold brk at hbk;rw [List.any_eq_true] at hbk;obtain ⟨j,hj,hr⟩:=hbk;rw [Bool.and_eq_true,decide_eq_true_iff] at hr;exact ⟨j,by omega,List.mem_range.1 hj,hr.2⟩
theorem Oq (h:Sq4 s) {j k:Nat} (hj:j < n s) (hk:k < n s):(Ik.toI (Rf (km (Jc (stp s j).Strokes)) (km (Jc (stp s k).Strokes))) == Ik.toI (⟨0⟩:Kd .u64))=!rep s j k:=by
 have h1:=Ei (l:=(stp s j).Strokes) λy hy=>h.act6 hj y hy;have h2:=Ei (l:=(stp s k).Strokes) λy hy=>h.act6 hk y hy;rw [(Np h1 h2).2,← and_bit];show (((Jc (stp s j).Strokes &&& Jc (stp s k).Strokes:Nat):Int) == 0)=_;rw [Bool.eq_iff_iff];simp
theorem Qg (h:Sq4 s) {j k:Nat} (hj:j < n s) (hk:k < n s):m101 FF (stp s j) s (k:Int)=some (rep s j k):=by
 unfold m101;rw [Co (h.st j hj),ob_,Ak,Au hk,ob_,Co (h.st k hk),ob_];congr 1;have:=Oq h hj hk;show (!(Ik.toI (Rf (km (Jc (stp s j).Strokes)) (km (Jc (stp s k).Strokes))) == Ik.toI (⟨0⟩:Kd .u64)))=_;rw [this,Bool.not_not]
theorem Qh (h:Sq4 s) {a b j:Nat} (hj:a<=j) (hjb:j < b) (hb:b < n s) (hr:rep s j b=true):∃ i:Nat,m100 FF ((s.Steps.drop a).take (b - a)) s (b:Int)=some (i:Int)/\a + i < b/\rep s (a + i) b=true:=by
 have hn:=h.n;have hns:s.Steps.length=n s:=rfl;have hlen:((s.Steps.drop a).take (b - a)).length=b - a:=by rw [List.length_take,List.length_drop];omega
 have e1:=Eg (L:=Ff FF ((s.Steps.drop a).take (b - a)) s (b:Int)) (N:=b - a) (Q:=λi=>rep s (a + i) b) (r:=λi=>i) (λm i hi=>by
  have hx:((s.Steps.drop a).take (b - a))[i]?=some (stp s (a + i)):=by
   rw [List.getElem?_take,if_pos hi,List.getElem?_drop];exact Au om_
  rw [Ff,hlen,An,dt_ hi,ct_,Ak,hx,ob_,Qg h om_ hb,ob_,Am om_]) (λm=>by
  rw [Ff,hlen,An,df_ om_,cf_]) FF 0 om_ uF
 rw [n0] at e1;unfold m100;rcases e1 with ⟨i,_,hi,hq,e1⟩ | ⟨_,hq⟩
 ·rw [e1];exact ⟨i,rfl,by omega,hq⟩
 ·have:=hq (j - a) om_ om_;rw [show a + (j - a)=j by omega,hr] at this;cases this
def PrL (s:Ah) (l:List (Int×Int)) (m:Nat):Prop:=l.length=m/\∀ i,i < m->∃ a b j,(dv s)[i]?=some a/\(dv s)[i + 1]?=some b/\b < n s/\a<=j/\j < b/\rep s j b=true/\l[i]?=some ((j:Int),(b:Int))
theorem Sa (h:Sq4 s):∃ l,m35 FF s=some (l,0)/\PrL s l (G s - 1):=by
 have hn:=h.n;have hG:=h.G64;have hg2:=h.q.g2;have hns:s.Steps.length=n s:=rfl;have hdl:(cin (dv s)).length=G s:=Cq;unfold m35;rw [Js h,ob_];dsimp only;rw [zf,cf_,hdl,show (1:Int)=((1:Nat):Int) from rfl,lslN om_ om_,ob_];have htl:(((cin (dv s)).drop 1).take (G s - 1)).length=G s - 1:=by rw [List.length_take,List.length_drop];omega
 obtain ⟨v,hv,hh⟩:=Ob (L:=Jj FF s (cin (dv s),0) (((cin (dv s)).drop 1).take (G s - 1))) (mk:=λi (v:List (Int×Int))=>((i:Int),v)) (N:=G s - 1) (I:=λi v=>PrL s v i) (λm i v hi hI=>by
  obtain ⟨a,b,h1,h2,h3,j,h4,h5,h6⟩:=pair_ok h (i:=i) om_;obtain ⟨z,hz,hz1,hz2⟩:=Qh h h4 h5 h3 h6;have hvl:=hI.1;refine ⟨v ++ [(((a + z:Nat):Int),(b:Int))],⟨by rw [List.length_append,hvl];rfl,λi' hi'=>?_⟩,?_⟩
  ·rcases Nat.eq_or_lt_of_le (show i'<=i by omega) with e | e
   ·subst e;refine ⟨a,b,a + z,h1,h2,h3,by omega,hz1,hz2,?_⟩;rw [List.getElem?_append_right om_,hvl,Nat.sub_self];rfl
   ·obtain ⟨a',b',j',g1,g2,g3,g4,g5,g6,g7⟩:=hI.2 i' e;exact ⟨a',b',j',g1,g2,g3,g4,g5,g6,by rw [List.getElem?_append_left om_];exact g7⟩
  ·rw [Jj];dsimp only;have hx2:(((cin (dv s)).drop 1).take (G s - 1))[i]?=some (b:Int):=by
    rw [List.getElem?_take,if_pos hi,List.getElem?_drop,Ca,show 1 + i=i + 1 by omega,h2];rfl
   have hx1:(cin (dv s))[i]?=some (a:Int):=by rw [Ca,h1];rfl
   rw [htl,An,dt_ hi,ct_,Ak,hx2,ob_,Ak,hx1,ob_,ob_,lslN om_ om_,ob_,hz,ob_,Be (x:=(a:Int) + (z:Int)) om_ om_,Bo (by rw [hvl];simp;omega),ob_,Am om_];rfl) (λm v _=>by
  rw [Jj];dsimp only;rw [htl,An,df_ om_,cf_]) FF 0 [] om_ uF ⟨rfl,λi hi=>by omega⟩
 try dsimp only at hh
 rw [n0] at hh;rw [hh];exact ⟨v,rfl,hv⟩
theorem Ry (h:Sq4 s) {l:List (Int×Int)} (hl:PrL s l (G s - 1)):m36 FF s l=some ((G s:Int),0):=by
 have hn:=h.n;have hG:=h.G64;have hg2:=h.q.g2;have hns:s.Steps.length=n s:=rfl;have hll:=hl.1;unfold m36;rw [Jr h,ob_,zf,cf_,df_ om_,cf_];obtain ⟨v,hv,hh⟩:=forG (L:=Ji FF s l) (mk:=λi (v:Int)=>(v,(i:Int))) (N:=G s - 1) (E:=λv=>some (.brk (v,((G s - 1:Nat):Int)))) (I:=λi v=>0 < i->∃ a,(dv s)[i]?=some a/\v=(a:Int)) (λm i v hi hI=>by
  obtain ⟨a,b,j,h1,h2,h3,h4,h5,h6,h7⟩:=hl.2 i hi;refine ⟨(b:Int),λ_=>⟨b,h2,rfl⟩,?_⟩;rw [Ji];dsimp only;have c1:decide ((if (b:Int) < (j:Int) then (b:Int) else (j:Int)) < 0)=false:=df_ (by split <;> omega)
  have c2:decide ((if (b:Int) > (j:Int) then (b:Int) else (j:Int))>=((s.Steps.length:Nat):Int))=false:=df_ (by split <;> omega)
  have c3:(decide ((i:Int) > 0) && decide ((j:Int) < v))=false:=by
   by_cases e:0 < i
   ·obtain ⟨a',g1,g2⟩:=hI e;rw [h1] at g1;have:=Option.some.inj g1;subst this;rw [df_ (show ¬ ((j:Int) < v) by omega),Bool.and_false]
   ·rw [df_ (show ¬ ((i:Int) > 0) by omega),Bool.false_and]
  rw [hll,An,dt_ hi,ct_,Ak,h7,ob_];dsimp only;rw [c1,c2,Bool.or_false,cf_,df_ (show ¬ ((j:Int)>=(b:Int)) by omega),c3,Bool.or_false,cf_,Ak,Au (show j < n s by omega),ob_,Co (h.st j om_),ob_,Ak,Au h3,ob_,Co (h.st b h3),ob_,Oq h om_ h3,h6,Bool.not_true,cf_,Am om_]) (λm v _=>by
  rw [Ji];dsimp only;rw [hll,An,df_ om_,cf_]) FF 0 0 om_ uF (λh=>by omega)
 try dsimp only at hh
 rw [n0] at hh;clear hv;have e:G s - 1 + 1=G s:=by omega
 rw [hh,ob_,hll];dsimp only;rw [Am om_,e]
def knd (v:Int) (l:List Ae):Nat:=(l.filter λx=>x.Kind == v).length
theorem Dh {v:Int} {l m:List Ae}:knd v (l ++ m)=knd v l + knd v m:=by unfold knd;rw [List.filter_append,List.length_append]
theorem Qk {v:Int} {l:List Ae} (h:∀ x∈l,x.Kind=v):knd v l=l.length:=by
 unfold knd;rw [List.filter_eq_self.2 λx hx=>by simpa using h x hx]
theorem Jk {v:Int} {l:List Ae} (h:∀ x∈l,x.Kind≠v):knd v l=0:=by
 unfold knd;rw [List.filter_eq_nil_iff.2 λx hx=>by simpa using h x hx];rfl
theorem Qj {N:Sg->ByteArray}:knd 1 (sgs N s)=(if G s=2 then 1 else G s)/\knd 2 (sgs N s)=cts s (n s):=by
 have hT:∀ x∈((List.range (n s)).filter (W s)).map (sT N s),x.Kind=2:=λx hx=>by obtain ⟨k,_,rfl⟩:=List.mem_map.1 hx;rfl
 have hS:∀ x∈(List.range (n s)).map (sS N s),x.Kind=0:=λx hx=>by obtain ⟨k,_,rfl⟩:=List.mem_map.1 hx;rfl
 have hP:∀ x∈(List.range (A s)).flatMap λa=>[sP N s true a,sP N s false a],x.Kind=0:=λx hx=>by
  obtain ⟨a,_,hx⟩:=List.mem_flatMap.1 hx;rcases List.mem_cons.1 hx with rfl | hx
  ·rfl
  ·obtain rfl:=List.mem_singleton.1 hx;rfl
 have hl:(((List.range (n s)).filter (W s)).map (sT N s)).length=cts s (n s):=by rw [List.length_map];rfl
 unfold sgs;rw [Dh,Dh,Dh,Dh,Dh,Dh];rw [Jk (v:=1) (l:=((List.range (n s)).filter (W s)).map (sT N s)) λx hx=>by rw [hT x hx];decide];rw [Qk (v:=2) hT,hl];rw [Jk (v:=1) (l:=(List.range (n s)).map (sS N s)) λx hx=>by rw [hS x hx];decide,Jk (v:=2) (l:=(List.range (n s)).map (sS N s)) λx hx=>by rw [hS x hx];decide];rw [Jk (v:=1) (l:=(List.range (A s)).flatMap λa=>[sP N s true a,sP N s false a]) λx hx=>by rw [hP x hx];decide,Jk (v:=2) (l:=(List.range (A s)).flatMap λa=>[sP N s true a,sP N s false a]) λx hx=>by rw [hP x hx];decide];have hg:knd 1 (sgG N s)=(if G s=2 then 1 else G s)/\knd 2 (sgG N s)=0:=by
  unfold sgG;by_cases e:G s=2
  ·rw [if_pos e,if_pos e];exact ⟨rfl,rfl⟩
  ·rw [if_neg e,if_neg e];have hM:∀ x∈(List.range (G s)).map λj=>(⟨N (.gl j),1,Nu 3 ((dat s).L (.gl ((dat s).pv j)) :: (dat s).en (las s ((dat s).pv j))),lnx ((dat s).L (.gl ((dat s).nx j))),0,decide (j=0)⟩:Ae),x.Kind=1:=λx hx=>by obtain ⟨k,_,rfl⟩:=List.mem_map.1 hx;rfl
   refine ⟨?_,Jk λx hx=>by rw [hM x hx];decide⟩;rw [Qk hM,List.length_map,List.length_range]
 rw [hg.1,hg.2];exact ⟨by omega,by omega⟩
theorem Nd {v:Int} {l:List Ae} {i:Nat} (hi:i < l.length):knd v (l.take (i + 1))=knd v (l.take i) + (if l[i].Kind=v then 1 else 0):=by
 rw [List.take_add_one,gE_ hi,Dh];congr 1;unfold knd;by_cases e:l[i].Kind=v
 ·rw [if_pos e];simp [e]
 ·rw [if_neg e];simp [e]
theorem Rx (h:Sq5 s):m37 FF s=some (((if G s=2 then 1 else G s:Nat):Int),(cts s (n s):Int),0):=by
 have h4:=h.toSq4;have hsg:=h.sig;unfold m37;rw [My h,ob_];dsimp only;rw [zf,cf_];obtain ⟨v,hv,hh⟩:=Ob (L:=Fx (0,s.Actuators,s.Actuators,s.Steps,cin (dv s),cin (lnz s),tms s,cin (sts s),strt,sgs nmS s,plL s true (A s),plL s false (A s))) (mk:=λi (v:Nat×Nat)=>((v.1:Int),(v.2:Int),(i:Int))) (N:=(sgs nmS s).length) (I:=λi v=>v=(knd 1 ((sgs nmS s).take i),knd 2 ((sgs nmS s).take i))) (λm i v hi hI=>by
  subst hI;have b1:knd 1 ((sgs nmS s).take i)<=i:=by unfold knd;have h1:=List.length_filter_le (λx:Ae=>x.Kind == 1) ((sgs nmS s).take i);rw [List.length_take] at h1;omega
  have b2:knd 2 ((sgs nmS s).take i)<=i:=by unfold knd;have h1:=List.length_filter_le (λx:Ae=>x.Kind == 2) ((sgs nmS s).take i);rw [List.length_take] at h1;omega
  refine ⟨_,rfl,?_⟩;rw [Fx];dsimp only;rw [An,dt_ hi,ct_,Ak,gE_ hi,ob_,Am om_,Am om_,Am om_,Nd hi,Nd hi];by_cases e1:(sgs nmS s)[i].Kind=1
  ·rw [show ((sgs nmS s)[i].Kind == 1)=true by simpa using e1,ct_,ob_,if_pos e1,if_neg om_];rfl
  ·rw [show ((sgs nmS s)[i].Kind == 1)=false by simpa using e1,cf_,if_neg e1];by_cases e2:(sgs nmS s)[i].Kind=2
   ·rw [show ((sgs nmS s)[i].Kind == 2)=true by simpa using e2,ct_,if_pos e2];rfl
   ·rw [show ((sgs nmS s)[i].Kind == 2)=false by simpa using e2,cf_,if_neg e2];rfl) (λm v _=>by
  rw [Fx];dsimp only;rw [An,df_ om_,cf_]) FF 0 (0,0) om_ uF rfl
 subst hv;try dsimp only at hh
 rw [n0,List.take_length,Qj.1,Qj.2] at hh;rw [hh];rfl
theorem Ri (h:Sq4 s):∃ z,Lq s FF ((0:Int),(0:Int))=some ((cts s (n s):Int),z):=by
 have hn:=h.n;obtain ⟨v,hv,hh⟩:=Ob (L:=Lq s) (mk:=λi (v:Nat)=>((v:Int),(i:Int))) (N:=n s) (I:=λi v=>v=cts s i) (λm i v hi hI=>by
  subst hI;have hc:=Hz (s:=s) (k:=i);refine ⟨_,rfl,?_⟩;rw [Lq];dsimp only;rw [show decide ((i:Int) < (s.Steps.length:Int))=true from dt_ (by show (i:Int) < ((n s:Nat):Int);omega),ct_,Ak,Au hi,ob_,W_pos h hi,cts_s];cases hw:W s i with
  | true=>rw [ct_,ob_,if_pos rfl,Am om_,Am om_]
  | false=>rw [cf_,ob_,if_neg (by decide),Am om_];rfl) (λm v _=>by
  rw [Lq];dsimp only;rw [show decide (((n s:Nat):Int) < (s.Steps.length:Int))=false from df_ (by show ¬ ((n s:Nat):Int) < ((n s:Nat):Int);omega),cf_]) FF 0 0 om_ uF rfl
 subst hv;try dsimp only at hh
 rw [n0] at hh;exact ⟨_,hh⟩
theorem Ny (s:Ah):m6 FF s=some true:=by
 obtain ⟨b,hb,hsm⟩:=Ns s 16;unfold m6;rw [hb,ob_,perf];cases b with
 | false=>rfl
 | true=>
  obtain ⟨h4,hn⟩:=hsm rfl;have h:=sq5_16 h4 om_;have hg2:=h.q.g2;have hG:=h4.G64;have hn64:=h4.n;obtain ⟨l,hl,hP⟩:=Sa h4;obtain ⟨z,hz⟩:=Ri h4;have hlen:(cin (lnz s)).length=G s:=by unfold cin lnz;rw [List.length_map,List.length_map,List.length_range]
  have hm33:m33 FF s=some (cin (lnz s),0):=by
   unfold m33;rw [My h];rfl
  have hnem:∃ x,nem (cin (dv s))=some x:=by
   unfold nem;have:(cin (dv s)).length≠0:=by rw [Cq];omega
   cases hc:cin (dv s) with
   | nil=>rw [hc] at this;exact absurd rfl this
   | cons a l=>exact ⟨_,rfl⟩
  obtain ⟨x,hx⟩:=hnem;rw [Bool.not_true,cf_,Sc h4,ob_,hx,ob_,ob_,cf_,hm33,ob_];dsimp only;rw [zf,cf_,Js h4,ob_,hl,ob_];dsimp only;rw [Ry h4 hP,ob_,Rx h,ob_];dsimp only;rw [show wr (wr (wr ((0:Int) + 0) + 0) + 0)=0 from rfl,zf,Bool.false_or,hlen,Cq,show (((G s:Nat):Int) != ((G s:Nat):Int))=false by simp,Bool.or_false,cf_,hz,ob_];dsimp only;have hfin:((((cts s (n s):Nat):Int) == ((cts s (n s):Nat):Int)) && (((((if G s=2 then 1 else G s:Nat):Nat):Int) == ((G s:Nat):Int)) || ((((G s:Nat):Int) == 2) && ((((if G s=2 then 1 else G s:Nat):Nat):Int) == 1))))=true:=by
   by_cases e:G s=2
   ·rw [if_pos e,e];simp
   ·rw [if_neg e];simp
  rw [hfin];rfl
end Go.Pn

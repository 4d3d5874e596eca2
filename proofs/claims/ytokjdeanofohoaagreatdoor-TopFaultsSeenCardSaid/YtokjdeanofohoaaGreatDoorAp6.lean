import Derived.Test.YtokjdeanofohoaaGreatDoorAp5
set_option synthInstance.checkSynthOrder false
set_option synthInstance.maxSize 10000
set_option synthInstance.maxHeartbeats 400000
set_option maxRecDepth 100000
set_option maxHeartbeats 4000000
set_option linter.unusedVariables false
set_option linter.unusedSimpArgs false
set_option linter.defProp false
namespace Go.Pn
open Go
open Csc
variable {s:Ah}
theorem Bx {n:Nat}:m66 FF (n:Int)=some (lnx n):=rfl
theorem Gc {op:Int}:∀ {l:List Nat},m62 FF op (l.map lnx)=some (Dh op l)
 | []=>rfl
 | [n]=>rfl
 | a :: b :: t=>by
  unfold m62;rw [show ((((a :: b :: t).map lnx).length:Int) == 1)=false by rw [beq_eq_false_iff_ne];simp;omega,cf_];rfl
theorem Ox {n:Nat} {l:List Nat} (hl:l.length<=1000):m68 FF (n:Int) (l.map lnx)=some (Dh 3 (n :: l)):=by
 unfold m68;rw [Bx,ob_,Aw so_,ob_,show [lnx n] ++ l.map lnx=(n :: l).map lnx from rfl,Gc];rfl
theorem itz_tab:((List.range 64).all λk=>decide (((m67 FF (k:Int)).bind λx=>cat (⟨#[103]⟩:ByteArray) x)=some (nbr 103 k)) && decide (((m67 FF (k:Int)).bind λx=>cat (⟨#[119]⟩:ByteArray) x)=some (nbr 119 k)) && decide (((m67 FF (k:Int)).bind λx=>cat (⟨#[115]⟩:ByteArray) x)=some (nbr 115 k)))=true:=by kernel_rfl
theorem itz {k:Nat} (h:k < 64):∃ x,m67 FF (k:Int)=some x/\cat (⟨#[103]⟩:ByteArray) x=some (nbr 103 k)/\cat (⟨#[119]⟩:ByteArray) x=some (nbr 119 k)/\cat (⟨#[115]⟩:ByteArray) x=some (nbr 115 k):=by
 have h1:=E8.1 itz_tab k (E4.2 h);rw [E3,E3,decide_eq_true_iff,decide_eq_true_iff,decide_eq_true_iff] at h1;obtain ⟨⟨h1,h2⟩,h3⟩:=h1;obtain ⟨x,hx,h1⟩:=GP.1 h1;rw [hx,ob_] at h2 h3;exact ⟨x,hx,h1,h2,h3⟩
theorem Oy (h:Sq4 s) {b:Builder} (hb:b.division=cin (dv s)) (hs:b.s.Steps.length=n s) {j:Nat} (hj:j < G s):m64 FF b (j:Int)=some ((las s j:Nat):Int):=by
 have hG:=h.G64;have hn:=h.n;have h0:=h.q.n0;have hGe:=EP (s:=s);unfold m64 las;rw [Ao om_,hb,Hw,hs,Al];by_cases h1:j + 1 < G s
 ·rw [dt_ h1,ct_,if_pos h1,Ak,Hm];obtain ⟨b,h2,h3,h4,_,_⟩:=Oa (s:=s) (j:=j + 1) (k:=n s - 1) om_;have h5:(dv s)[j + 1]?=some b:=h2;have hb:0 < b:=by
   rcases H7 b with e | e
   ·subst e;have:g s 0=0:=rfl;omega
   ·exact e
  rw [h5,ES,h5];show some (wr ((b:Int) - 1))=some ((b - 1:Nat):Int);rw [Aq om_ om_];congr 1;omega
 ·rw [df_ h1,cf_,if_neg h1];show some (wr (((n s:Nat):Int) - 1))=_;rw [Aq om_ om_];congr 1;omega
theorem Ve (h:Sq4 s) {b:Builder} (hb:b.division=cin (dv s)) {k:Nat} (hk:k < n s):m69 FF b (k:Int)=some ((g s k:Nat):Int):=by
 have hG:=h.G64;have hn:=h.n;have hg:=g_lt h hk;have key:∀ (m i:Nat),g s k<=i->i < G s->i < m->Rb b (k:Int) m (i:Int)=some ((g s k:Nat):Int):=by
  intro m
  induction m with
  | zero=>intro i _ _ h;omega
  | succ m ih=>
   intro i h1 h2 h3;obtain ⟨c,h4,h5,_,_⟩:=dv_le h2 hk;rw [Rb,hb,Ak,Hm,h4];rw [show (some c).map (λx=>((x:Nat):Int))=some (c:Int) from rfl,ob_];by_cases hc:c<=k
   ·have:=h5.1 hc;obtain rfl:i=g s k:=by omega
    rw [df_ om_,cf_]
   ·have hne:¬ i<=g s k:=λe=>hc (h5.2 e);rw [dt_ om_,ct_,Aq om_ om_,show (i:Int) - 1=((i - 1:Nat):Int) by omega];exact ih (i - 1) om_ om_ om_
 unfold m69;rw [hb,Hw,Aq om_ om_,show (G s:Int) - 1=((G s - 1:Nat):Int) by omega,key FF (G s - 1) om_ om_ uF];rfl
theorem Vd (h:Sq4 s) {k:Nat} (hk:k < n s) {a b:Int} {d g t st:List Int} {i:List ByteArray} {sg:List Ae} {p q:List Int}:m70 FF (k:Int) a b s.Steps d g t st i sg p q=some (((S s k).map CasD.sw).map lnx):=by
 have h6:=(h.st k hk).le;unfold m70;rw [Ak,Dl hk,ob_];have:=bldI (L:=Mf FF (stp s k)) (N:=(stp s k).Strokes.length) (f:=λi=>[lnx (CasD.sw (((stp s k).Strokes.getD i default).Actuator.toNat,((stp s k).Strokes.getD i default).Out))]) (acc0:=[]) om_ (λ_ _=>by simp) As (λm i acc hi ha=>by
  have hx:=gE_ hi;have hac:=(h.st k hk).ac _ (E9 hi);have hd:(stp s k).Strokes.getD i default=(stp s k).Strokes[i]:=by rw [ES,hx];rfl
  rw [Mf];dsimp only;rw [Al,dt_ hi,ct_,Ak,hx,ob_,Ao om_,hd];rw [Aq (x:=2 * (stp s k).Strokes[i].Actuator) om_ om_];cases ho:(stp s k).Strokes[i].Out with
  | true=>
   rw [ct_,Aq om_ om_,ob_,show 2 * (stp s k).Strokes[i].Actuator + 1=((CasD.sw ((stp s k).Strokes[i].Actuator.toNat,true):Nat):Int) by unfold CasD.sw;show _=((2 * (stp s k).Strokes[i].Actuator.toNat + 1:Nat):Int);omega,Bx,ob_,Aw so_,ob_]
  | false=>
   rw [cf_,ob_,show 2 * (stp s k).Strokes[i].Actuator=((CasD.sw ((stp s k).Strokes[i].Actuator.toNat,false):Nat):Int) by unfold CasD.sw;show _=((2 * (stp s k).Strokes[i].Actuator.toNat + 0:Nat):Int);omega,Bx,ob_,Aw so_,ob_]) (λm acc=>by
  rw [Mf];dsimp only;rw [Al,df_ om_,cf_])
 rw [this,AM,ob_];unfold S;rw [J1,J1,G1];exact congrArg some (map_rg (l:=(stp s k).Strokes) (d:=default) (f:=λy=>lnx (CasD.sw (y.Actuator.toNat,y.Out))))
theorem Jf (h:Sq4 s) {k:Nat} (hk:k < n s) {a b:Int} {d g st:List Int} {i:List ByteArray} {sg:List Ae} {p q:List Int}:m63 FF (k:Int) a b s.Steps d g (tms s) st i sg p q=some (((dat s).en k).map lnx):=by
 unfold m63;rw [Ak,tms_get hk,ob_];unfold CasD.en;by_cases hw:W s k=true
 ·rw [if_pos hw,if_pos (show (dat s).W k=true from hw),dt_ om_,ct_,ob_,Bx];rfl
 ·rw [if_neg hw,if_neg (show ¬ (dat s).W k=true from hw),df_ om_,cf_,Vd h hk];rfl
theorem C3 (h:Sq4 s) {b:Int} {st:List Int} {i:List ByteArray} {sg:List Ae} {p q:List Int}:m29 FF s.Actuators b s.Steps (cin (dv s)) [] [] st i sg p q=some (cin (lnz s),tms s):=by
 have hA:=h.A6;have hG:=h.G64;have hn:=h.n;have h2:=h.q.g2;unfold m29;have e1:=bldI (L:=Nd s.Actuators (cin (dv s))) (N:=G s) (f:=λj=>[((2 * A s + 1 + j:Nat):Int)]) (acc0:=[]) om_ (λ_ _=>by simp) As (λm i acc hi ha=>by
  rw [Nd];dsimp only;rw [Hw,Al,dt_ hi,ct_,h.Ac,Aq (x:=2 * ((A s:Nat):Int)) om_ om_,Aq (x:=2 * ((A s:Nat):Int) + 1) om_ om_,Aq om_ om_,Aw so_,ob_,Ao om_];congr 4) (λm acc=>by
  rw [Nd];dsimp only;rw [Hw,Al,df_ om_,cf_])
 rw [e1,AM,ob_,G1];dsimp only;rw [Hw];have e2:(bif ((G s:Int) == 2) then (CM FF ((List.range (G s)).map λj=>((2 * A s + 1 + j:Nat):Int))).bind λx6=>some x6 else some ((List.range (G s)).map λj=>((2 * A s + 1 + j:Nat):Int)))=some (cin (lnz s)):=by
  by_cases e:G s=2
  ·rw [show ((G s:Int) == 2)=true by rw [beq_iff_eq];omega,ct_,e];have:cin (lnz s)=[((2 * A s + 1 + 1:Nat):Int),((2 * A s + 1:Nat):Int)]:=by
    unfold lnz cin;rw [e];show [((2 * A s + 1 + (if G s=2 then 1 - 0 else 0):Nat):Int),((2 * A s + 1 + (if G s=2 then 1 - 1 else 1):Nat):Int)]=_
    rw [e];rfl
   rw [this];rfl
  ·rw [show ((G s:Int) == 2)=false by rw [beq_eq_false_iff_ne];omega,cf_];unfold lnz cin;rw [J1];refine congrArg some (List.map_congr_left λj hj=>?_);show _=((2 * A s + 1 + (if G s=2 then 1 - j else j):Nat):Int)
   rw [if_neg e]
 rw [e2,ob_,h.Ac,Aq (x:=2 * ((A s:Nat):Int)) om_ om_,Aq (x:=2 * ((A s:Nat):Int) + 1) om_ om_,Aq om_ om_];obtain ⟨v,hv,hh⟩:=Nu (L:=Ki s.Steps) (mk:=λi (v:Int×List Int)=>(v.1,(i:Int),v.2)) (N:=n s) (I:=λi v=>v=(((2 * A s + 1 + G s + cts s i:Nat):Int),(List.range i).map λk=>if W s k=true then (((dat s).L (.tm k):Nat):Int) else -1)) (λm i v hi hI=>by
  subst hI;have hc:=Ob (s:=s) (k:=i);have hcs:=cts_s (s:=s) i;rw [Ki];dsimp only;rw [DL hi,ct_,Ak,Dl hi,ob_];by_cases hw:W s i=true
  ·have:=BD.1 hw;rw [show ((stp s i).Wait == 0)=false by rw [beq_eq_false_iff_ne];exact this,cf_,Aw so_,ob_,Ao om_,Ao om_];refine ⟨(((2 * A s + 1 + G s + cts s i + 1:Nat):Int),(List.range i).map (λk=>if W s k=true then (((dat s).L (.tm k):Nat):Int) else -1) ++ [((2 * A s + 1 + G s + cts s i:Nat):Int)]),?_,rfl⟩
   rw [F9,GQ,hcs];simp only [FC,FW,if_pos hw];have e:(dat s).L (.tm i)=2 * A s + 1 + G s + cts s i:=by show 2 * A s + 1 + (G s + cts s i)=_;omega
   rw [e];rfl
  ·have:(stp s i).Wait=0:=by
    rcases Int.lt_trichotomy (stp s i).Wait 0 with e | e | e
    ·exact absurd (BD.2 om_) hw
    ·exact e
    ·exact absurd (BD.2 om_) hw
   rw [show ((stp s i).Wait == 0)=true by rw [beq_iff_eq];exact this,ct_,Aw so_,ob_,Ao om_];refine ⟨(((2 * A s + 1 + G s + cts s i:Nat):Int),(List.range i).map (λk=>if W s k=true then (((dat s).L (.tm k):Nat):Int) else -1) ++ [-1]),?_,rfl⟩
   rw [F9,GQ,hcs];simp only [FC,FW,if_neg hw];rfl) (λm v hI=>by
  rw [Ki];dsimp only;rw [DK,cf_]) FF 0 (((2 * A s + 1 + G s:Nat):Int),[]) om_ uF rfl
 try dsimp only at hh
 rw [n0] at hh;rw [show 2 * ((A s:Nat):Int) + 1 + (G s:Int)=((2 * A s + 1 + G s:Nat):Int) by omega,hh,ob_];subst hv;rfl
theorem Jg (h:Sq4 s) {x:Ae} {b:List Step} {d g t st:List Int} {i:List ByteArray} {sg:List Ae} {p q:List Int} {a:Int} (hl:sg.length<=100000):m61 FF x s.Actuators a b d g t st i sg p q=some (((2 * A s + (sg.length + 1):Nat):Int),sg ++ [x]):=by
 have hA:=h.A6;unfold m61;rw [Aw so_,ob_,h.Ac,ET,Aq (x:=2 * ((A s:Nat):Int)) om_ om_,Aq so_ so_];rfl
theorem Je (h:Sq4 s) {x:ByteArray} {e:Expr} {b:List Step} {d g t st:List Int} {i:List ByteArray} {sg:List Ae} {p q:List Int} {a:Int} (hl:sg.length<=100000):m65 FF x e s.Actuators a b d g t st i sg p q=some (((2 * A s + (sg.length + 1):Nat):Int),sg ++ [⟨x,0,e,zxp,0,false⟩]):=by
 unfold m65;rw [Jg h hl,ob_]
theorem C2 (h:Sq4 s) {st:List Int} {i:List ByteArray} {p q:List Int}:m30 FF s.Actuators s.Actuators s.Steps (cin (dv s)) (cin (lnz s)) (tms s) st i [] p q=some (s.Actuators,s.Actuators,s.Steps,cin (dv s),cin (lnz s),tms s,st,i,sgG nmS s,p,q):=by
 have hG:=h.G64;have hn:=h.n;have h0:=h.q.n0;have h2:=h.q.g2;have hA:=h.A6;unfold m30;rw [Hw];by_cases e:G s=2
 ·rw [show ((G s:Int) == 2)=true by rw [beq_iff_eq];omega,ct_];rw [show (0:Int)=((0:Nat):Int) from rfl,show (1:Int)=((1:Nat):Int) from rfl];rw [Oy h (j:=0) rfl rfl om_,ob_,Jf h (Eq h om_),ob_,Gc,ob_];rw [Oy h (j:=1) rfl rfl om_,ob_,Jf h (Eq h om_),ob_,Gc,ob_];rw [Jg h As,ob_];dsimp only;rw [Bx,ob_,Je h As,ob_];have hs:sgG nmS s=[⟨nmS (.gl 1),1,Dh 3 ((dat s).en (las s 0)),Dh 3 ((dat s).en (las s 1)),0,false⟩,⟨nmS (.gl 0),0,⟨2,0,[lnx ((dat s).L (.gl 1))]⟩,zxp,0,false⟩]:=by unfold sgG;rw [if_pos e]
  rw [hs];have hL:(dat s).L (.gl 1)=2 * A s + (([]:List Ae).length + 1):=by
   rw [L_eq];show 2 * A s + 1 + (if G s=2 then 1 - 1 else 1)=_
   rw [if_pos e];rfl
  rw [hL];rfl
 ·rw [show ((G s:Int) == 2)=false by rw [beq_eq_false_iff_ne];omega,cf_];have:=bldI (L:=Na FF s.Actuators s.Actuators s.Steps (cin (dv s)) (cin (lnz s)) (tms s) st i p q) (N:=G s) (f:=λj=>[(⟨nmS (.gl j),1,Dh 3 ((dat s).L (.gl ((dat s).pv j)) :: (dat s).en (las s ((dat s).pv j))),lnx ((dat s).L (.gl ((dat s).nx j))),0,decide (j=0)⟩:Ae)]) (acc0:=[]) om_ (λ_ _=>by simp) As (λm j acc hi ha=>by
   have hp:(dat s).pv j < G s:=CasD.pvl (q:=dat s) h2 hi;have hx:(dat s).nx j < G s:=CasD.nxl (q:=dat s) h2;have ep:(j + G s - 1) % G s=(dat s).pv j:=by
    show _=if j=0 then G s - 1 else j - 1
    by_cases e0:j=0
    ·subst e0;rw [if_pos rfl,GV,H2 om_]
    ·rw [if_neg e0,show j + G s - 1=(j - 1) + G s by omega,Nat.add_mod_right,H2 om_]
   have ex:(j + 1) % G s=(dat s).nx j:=by
    show _=if j + 1 < G s then j + 1 else 0
    by_cases e0:j + 1 < G s
    ·rw [if_pos e0,H2 e0]
    ·rw [if_neg e0,show j + 1=G s by omega,Nat.mod_self]
   obtain ⟨x,hx1,hx2,_⟩:=itz (k:=j) om_;have hl:acc.length<=100000:=by
    have:=ha.2;simp at this;omega
   rw [Na];dsimp only;have e0:((j:Int) == 0)=decide (j=0):=by rw [FT];simp
   rw [Hw,Al,dt_ hi,ct_,Aq (x:=(j:Int) + (G s:Int)) om_ om_,Aq om_ om_,show (j:Int) + (G s:Int) - 1=((j + G s - 1:Nat):Int) by omega,Te om_,ep,ob_,hx1,ob_,hx2,ob_,Ak,Ps hp,ob_,Oy h rfl rfl hp,ob_,Ao om_,Te om_,ex,ob_,Ak,Ps hx,ob_,Jf h (Eq h hp),ob_,Ox (by have:=AU h (Eq h hp);omega),ob_,Bx,ob_,Jg h hl,ob_,e0];rfl) (λm acc=>by
   rw [Na];dsimp only;rw [Hw,Al,df_ om_,cf_])
  rw [this,AM,ob_];have hs:sgG nmS s=(List.range (G s)).map λj=>(⟨nmS (.gl j),1,Dh 3 ((dat s).L (.gl ((dat s).pv j)) :: (dat s).en (las s ((dat s).pv j))),lnx ((dat s).L (.gl ((dat s).nx j))),0,decide (j=0)⟩:Ae):=by unfold sgG;rw [if_neg e]
  rw [hs,G1]
end Go.Pn
namespace Go.Pn
open Go
open Csc
variable {s:Ah}
theorem W_pos (h:Sq4 s) {k:Nat} (hk:k < n s):decide ((stp s k).Wait > 0)=W s k:=by
 have:=h.q.w0 k hk;rw [FT,decide_eq_true_iff,BD];omega
theorem C1 (h:Sq4 s) {st:List Int} {i:List ByteArray} {p q:List Int} {sg:List Ae} (hsg:sg.length<=100):m31 FF s.Actuators s.Actuators s.Steps (cin (dv s)) (cin (lnz s)) (tms s) st i sg p q=some (s.Actuators,s.Actuators,s.Steps,cin (dv s),cin (lnz s),tms s,st,i,sg ++ ((List.range (n s)).filter (W s)).map (sT nmS s),p,q):=by
 have hG:=h.G64;have hn:=h.n;unfold m31;have:=bldI (L:=Mz FF s.Actuators s.Actuators s.Steps (cin (dv s)) (cin (lnz s)) (tms s) st i p q) (N:=n s) (f:=λk=>if W s k=true then [sT nmS s k] else []) (acc0:=sg) om_ (λi _=>by split <;> simp) om_ (λm k acc hi ha=>by
  have hl:acc.length<=100000:=by have:=ha.2;omega
  obtain ⟨x,hx1,_,hx2,_⟩:=itz (k:=k) om_;rw [Mz];dsimp only;rw [DL hi,ct_,Ak,Dl hi,ob_,W_pos h hi];cases hw:W s k with
  | true=>
   rw [ct_,if_pos rfl,hx1,ob_,hx2,ob_,Ve h rfl hi,ob_,Ak,Ps (g_lt h hi),ob_,Vd h hi,ob_,Ox (by have:=BF h hi;omega),ob_,Jg h hl,ob_,ob_,Ao om_];rfl
  | false=>rw [cf_,if_neg (by decide),ob_,Ao om_,GA]) (λm acc=>by
  rw [Mz];dsimp only;rw [DK,cf_])
 rw [this,fm_if];rfl
theorem C0 (h:Sq4 s) {i:List ByteArray} {p q:List Int} {sg:List Ae} (hsg:sg.length=G s + cts s (n s)):m32 FF s.Actuators s.Actuators s.Steps (cin (dv s)) (cin (lnz s)) (tms s) [] i sg p q=some (s.Actuators,s.Actuators,s.Steps,cin (dv s),cin (lnz s),tms s,cin (sts s),i,sg ++ (List.range (n s)).map (sS nmS s),p,q):=by
 have hG:=h.G64;have hn:=h.n;have hA:=h.A6;have hct:=Ob (s:=s) (k:=n s);unfold m32;obtain ⟨v,hv,hh⟩:=Nu (L:=My FF s.Actuators s.Actuators s.Steps (cin (dv s)) (cin (lnz s)) (tms s) i p q) (mk:=λi (v:List Int×List Ae)=>((i:Int),v.1,v.2)) (N:=n s) (I:=λi v=>v=(cin ((List.range i).map λk=>(dat s).L (.sg k)),sg ++ (List.range i).map (sS nmS s))) (λm k v hi hI=>by
  subst hI;have hg:=g_lt h hi;obtain ⟨x,hx1,_,_,hx2⟩:=itz (k:=k) om_;have hbg:(bif ((k:Int) == 0) then (m66 FF (wr ((2:Int) * s.Actuators))).bind λx5=>some ([x5]:List Expr) else (idx (cin (dv s)) ((g s k:Nat):Int)).bind λx6=>(bif (decide (x6 < (k:Int))) then (m63 FF (wr ((k:Int) - 1)) s.Actuators s.Actuators s.Steps (cin (dv s)) (cin (lnz s)) (tms s) (cin ((List.range k).map λk=>(dat s).L (.sg k))) i (sg ++ (List.range k).map (sS nmS s)) p q).bind λx8=>some x8 else some ([]:List Expr)).bind λz7=>some z7)=some (((dat s).bg k).map lnx):=by
   unfold CasD.bg;by_cases h0:k=0
   ·subst h0;rw [show (((0:Nat):Int) == 0)=true from rfl,ct_,if_pos rfl,h.Ac,Aq om_ om_,show 2 * ((A s:Nat):Int)=((2 * A s:Nat):Int) by omega,Bx];rfl
   ·rw [show ((k:Int) == 0)=false by rw [beq_eq_false_iff_ne];omega,cf_,if_neg h0];obtain ⟨b,h1,_,h3,_⟩:=dv_le (s:=s) hg hi;have h4:=h3 rfl;have hle:=Ww (s:=s) k;rw [Ak,Hm,h1,h4];show ((bif (decide ((((gb s k).1:Nat):Int) < (k:Int))) then _ else _):Option _).bind _=_;by_cases hf:g s (k - 1)=g s k
    ·have hne:(gb s k).1≠k:=λe=>(Vt om_).1 e hf;rw [dt_ om_,ct_,if_pos (show (dat s).g (k - 1)=(dat s).g k from hf),Aq om_ om_,show (k:Int) - 1=((k - 1:Nat):Int) by omega,Jf h om_];rfl
    ·have he:(gb s k).1=k:=(Vt om_).2 hf;rw [df_ om_,cf_,if_neg (show ¬ (dat s).g (k - 1)=(dat s).g k from hf)];rfl
  refine ⟨_,rfl,?_⟩;rw [My];dsimp only;have hbl:((dat s).bg k).length<=1000:=by
   unfold CasD.bg;split
   ·simp
   ·split
    ·have:=AU h (show k - 1 < n s by omega);omega
    ·simp
  rw [DL hi,ct_,Ve h rfl hi,ob_,hbg,ob_,hx1,ob_,hx2,ob_,Ak,Ps hg,ob_,Ox hbl,ob_,Je h so_,ob_,Aw (by simp [cin];omega),ob_,Ao om_];congr 3
  ·rw [F9,GQ];unfold cin;rw [GQ];simp only [FC,FW];congr 2;rw [L_eq];show ((2 * A s + ((sg ++ (List.range k).map (sS nmS s)).length + 1):Nat):Int)=((2 * A s + 1 + (G s + cts s (n s) + k):Nat):Int);rw [ET,FL,F0,hsg];omega
  ·rw [F9,GQ,← FM];rfl) (λm v _=>by
  rw [My];dsimp only;rw [DK,cf_]) FF 0 ([],sg) om_ uF (by simp [cin])
 try dsimp only at hh
 rw [n0] at hh;rw [hh,hv];rfl
theorem CL (h:Sq4 s) {k a:Nat} {o:Bool} (hk:k < n s):m71 FF (stp s k).Strokes (⟨(a:Int),o⟩:Ab)=some (decide ((a,o)∈S s k)):=by
 have hS:=h.st k hk;have h6:=hS.le;have hh:=Eh (L:=Hk (stp s k).Strokes (⟨(a:Int),o⟩:Ab)) (N:=(stp s k).Strokes.length) (Q:=λi=>match (stp s k).Strokes[i]? with | some y=>Sq (⟨(a:Int),o⟩:Ab) y | none=>false) (r:=λi=>i) (λm i hi=>by
  rw [Hk,Al,dt_ hi,ct_,Ak,gE_ hi,ob_,Ao om_]) (λm=>by
  rw [Hk,Al,df_ om_,cf_]) FF 0 om_ uF
 rw [n0] at hh;unfold m71 m101;rcases hh with ⟨i,_,hi,hq,hh⟩ | ⟨hh,hq⟩
 ·rw [hh,ob_];dsimp only;rw [ob_,dt_ (show (i:Int)>=0 by omega)];rw [gE_ hi] at hq;dsimp only at hq;have e:(⟨(a:Int),o⟩:Ab)=(stp s k).Strokes[i]:=by
   unfold Sq at hq;simp at hq;cases hx:(stp s k).Strokes[i] with
   | mk p r=>rw [hx] at hq;dsimp only at hq;rw [hq.1,hq.2]
  rw [dt_];exact FE.2 ⟨_,E9 hi,by rw [← e];rfl⟩
 ·rw [hh,ob_];dsimp only;rw [ob_,df_ (by omega:¬ ((-1:Int)>=0))];rw [df_];intro hm;obtain ⟨y,hy,he⟩:=FE.1 hm;obtain ⟨he1,he2⟩:=Prod.mk.inj he;obtain ⟨i,hi⟩:=GL hy;have:=hq i (GH _) (EY.1 hi).1;rw [hi] at this;dsimp only at this;have hac:=hS.ac y hy;unfold Sq at this;rw [show ((⟨(a:Int),o⟩:Ab).Actuator == y.Actuator)=true by rw [beq_iff_eq];show (a:Int)=_;omega,show ((⟨(a:Int),o⟩:Ab).Out == y.Out)=true by rw [beq_iff_eq];exact he2.symm] at this;cases this
theorem Ke (h:Sq4 s) {a:Nat} {o:Bool} (z1:Int×List Ae×List Int×List Int) (hz1:z1.1=(a:Int)):Kh FF s.Steps (cin (sts s)) z1 o FF ((0:Int),[])=some ((n s:Int),(((dat s).at_ a o).map λk=>(dat s).L (.sg k)).map lnx):=by
 have hn:=h.n;have:=bldI (L:=Kh FF s.Steps (cin (sts s)) z1 o) (N:=n s) (f:=λk=>if decide ((a,o)∈S s k)=true then [lnx ((dat s).L (.sg k))] else []) (acc0:=[]) om_ (λi _=>by split <;> simp) As (λm i acc hi ha=>by
  have hl:acc.length<=6400:=by have:=ha.2;simp at this;omega
  rw [Kh];dsimp only;rw [DL hi,ct_,Ak,Dl hi,ob_,hz1,CL h hi,ob_];cases decide ((a,o)∈S s i) with
  | true=>rw [ct_,if_pos rfl,Ak,sts_get hi,ob_,Bx,ob_,Aw so_,ob_,ob_,Ao om_]
  | false=>rw [cf_,if_neg (by decide),ob_,Ao om_,GA]) (λm acc=>by
  rw [Kh];dsimp only;rw [DK,cf_])
 rw [this,fm_if];unfold CasD.at_;rw [J1];rfl
theorem Tp (h:Sq4 s) {a:Nat} (ha:a < A s) {i:List ByteArray} (z1:Int×List Ae×List Int×List Int) (hz1:z1.1=(a:Int)) {sg:List Ae} (hl:sg.length=G s + cts s (n s) + n s + 2 * a) {p q:List Int} (hp:p.length<=100) (hq:q.length<=100) :
  Em FF s.Actuators s.Actuators s.Steps (cin (dv s)) (cin (lnz s)) (tms s) (cin (sts s)) i z1 FF ((0:Int),sg,p,q)=some (2,sg ++ [sP nmS s true a,sP nmS s false a],p ++ [(((dat s).L (.pl a true):Nat):Int)],q ++ [(((dat s).L (.pl a false):Nat):Int)]):=by
 have hA:=h.A6;have hG:=h.G64;have hn:=h.n;have hct:=Ob (s:=s) (k:=n s);obtain ⟨x,hx,hx2⟩:=Wm (show a < 6 by omega) true;obtain ⟨x',hx',hx2'⟩:=Wm (show a < 6 by omega) false;rw [hx] at hx';obtain rfl:=Option.some.inj hx';rw [ct_] at hx2;rw [cf_] at hx2';have e1:(((dat s).L (.pl a true):Nat):Int)=((2 * A s + (sg.length + 1):Nat):Int):=by
  rw [L_eq,hl];show ((2 * A s + 1 + (G s + cts s (n s) + n s + 2 * a + (if true=true then 0 else 1)):Nat):Int)=_
  rw [if_pos rfl];omega
 have e2:(((dat s).L (.pl a false):Nat):Int)=((2 * A s + ((sg ++ [sP nmS s true a]).length + 1):Nat):Int):=by
  rw [L_eq,ET,hl];show ((2 * A s + 1 + (G s + cts s (n s) + n s + 2 * a + (if false=true then 0 else 1)):Nat):Int)=((2 * A s + (G s + cts s (n s) + n s + 2 * a + 1 + 1):Nat):Int)
  rw [if_neg (by decide)];omega
 show Em FF s.Actuators s.Actuators s.Steps (cin (dv s)) (cin (lnz s)) (tms s) (cin (sts s)) i z1 (99999 + 1) (((0:Nat):Int),sg,p,q)=_;rw [Em];dsimp only;rw [show decide (((0:Nat):Int) < (([true,false]:List Bool).length:Int))=true from rfl,ct_,Ak,show ([true,false]:List Bool)[0]?=some true from rfl,ob_,Ke h z1 hz1,ob_,hz1,hx,ob_,ct_,hx2,ob_];dsimp only;rw [Gc,ob_,Je h om_,ob_];dsimp only;rw [Aw so_,ob_,ob_,Ao om_,← e1];show Em FF s.Actuators s.Actuators s.Steps (cin (dv s)) (cin (lnz s)) (tms s) (cin (sts s)) i z1 (99998 + 1) (((1:Nat):Int),sg ++ [sP nmS s true a],p ++ [(((dat s).L (.pl a true):Nat):Int)],q)=_;rw [Em];dsimp only;rw [show decide (((1:Nat):Int) < (([true,false]:List Bool).length:Int))=true from rfl,ct_,Ak,show ([true,false]:List Bool)[1]?=some false from rfl,ob_,Ke h z1 hz1,ob_,hz1,hx,ob_,cf_,hx2',ob_];dsimp only;rw [Gc,ob_,Je h so_,ob_];dsimp only;rw [Aw so_,ob_,ob_,Ao om_,← e2];show Em FF s.Actuators s.Actuators s.Steps (cin (dv s)) (cin (lnz s)) (tms s) (cin (sts s)) i z1 (99997 + 1) (((2:Nat):Int),sg ++ [sP nmS s true a] ++ [sP nmS s false a],p ++ [(((dat s).L (.pl a true):Nat):Int)],q ++ [(((dat s).L (.pl a false):Nat):Int)])=_;rw [Em];dsimp only;rw [show decide (((2:Nat):Int) < (([true,false]:List Bool).length:Int))=false from rfl,cf_,FM];rfl
def plL (s:Ah) (o:Bool) (k:Nat):List Int:=(List.range k).map λa=>(((dat s).L (.pl a o):Nat):Int)
theorem CZ (h:Sq4 s) {i:List ByteArray} {sg:List Ae} (hl:sg.length=G s + cts s (n s) + n s):m33 FF s.Actuators s.Actuators s.Steps (cin (dv s)) (cin (lnz s)) (tms s) (cin (sts s)) i sg [] []=some (s.Actuators,s.Actuators,s.Steps,cin (dv s),cin (lnz s),tms s,cin (sts s),i,sg ++ ((List.range (A s)).flatMap λa=>[sP nmS s true a,sP nmS s false a]),plL s true (A s),plL s false (A s)):=by
 have hA:=h.A6;have hG:=h.G64;have hn:=h.n;have hct:=Ob (s:=s) (k:=n s);unfold m33;obtain ⟨v,hv,hh⟩:=Nu (L:=Mw FF s.Actuators s.Actuators s.Steps (cin (dv s)) (cin (lnz s)) (tms s) (cin (sts s)) i) (mk:=λi (v:List Ae×List Int×List Int)=>((i:Int),v.1,v.2.1,v.2.2)) (N:=A s) (I:=λi v=>v=(sg ++ ((List.range i).flatMap λa=>[sP nmS s true a,sP nmS s false a]),plL s true i,plL s false i)) (λm a v hi hI=>by
  subst hI;refine ⟨_,rfl,?_⟩;rw [Mw];dsimp only;rw [show decide ((a:Int) < s.Actuators)=true from dt_ (by rw [h.Ac];omega),ct_,Tp h hi _ rfl (by rw [ET,Gx,hl]) (by unfold plL;simp;omega) (by unfold plL;simp;omega),ob_,Ao om_];have e:∀ o,plL s o (a + 1)=plL s o a ++ [(((dat s).L (.pl a o):Nat):Int)]:=λo=>by unfold plL;rw [F9,GQ];rfl
  rw [e,e,F9,HH];congr 3;simp) (λm v _=>by
  rw [Mw];dsimp only;rw [show decide (((A s:Nat):Int) < s.Actuators)=false from df_ (by rw [h.Ac];omega),cf_]) FF 0 (sg,[],[]) om_ uF (by simp [plL])
 try dsimp only at hh
 rw [n0] at hh;rw [hh,hv];rfl
abbrev strt:List ByteArray:=[⟨#[115,116,97,114,116]⟩]
theorem C7 (h:Sq5 s):m15 FF s=some (.inr ((0:Int),s.Actuators,s.Actuators,s.Steps,cin (dv s),cin (lnz s),tms s,cin (sts s),strt,sgs nmS s,plL s true (A s),plL s false (A s))):=by
 have h4:=h.toSq4;have hA:=h4.A6;have hG:=h4.G64;have hn:=h4.n;have hct:=Ob (s:=s) (k:=n s);have hT:(((List.range (n s)).filter (W s)).map (sT nmS s)).length=cts s (n s):=by rw [FL];rfl
 unfold m15;rw [Vl h4,ob_,zf_,cf_,C4 h4,ob_];dsimp only;rw [zf_,cf_,C3 h4,ob_];dsimp only;have loop:Bo FF FF ((0:Int),s.Actuators,s.Actuators,s.Steps,cin (dv s),cin (lnz s),tms s,([]:List Int),strt,([]:List Ae),([]:List Int),([]:List Int))=some (4,s.Actuators,s.Actuators,s.Steps,cin (dv s),cin (lnz s),tms s,cin (sts s),strt,sgs nmS s,plL s true (A s),plL s false (A s)):=by
  show Bo FF (99999 + 1) (((0:Nat):Int),_)=_;rw [Bo];dsimp only;rw [show decide (((0:Nat):Int) < 4)=true from rfl,ct_,Ak,FB om_,ob_,show ((0:Nat) == 0)=true from rfl,ct_,C2 h4,ob_,Ao om_];dsimp only;show Bo FF (99998 + 1) (((1:Nat):Int),_)=_;rw [Bo];dsimp only;rw [show decide (((1:Nat):Int) < 4)=true from rfl,ct_,Ak,FB om_,ob_,show ((1:Nat) == 0)=false from rfl,cf_,show ((1:Nat) == 1)=true from rfl,ct_,C1 h4 (by rw [Br];omega),ob_,Ao om_];dsimp only;show Bo FF (99997 + 1) (((2:Nat):Int),_)=_;rw [Bo];dsimp only;rw [show decide (((2:Nat):Int) < 4)=true from rfl,ct_,Ak,FB om_,ob_,show ((2:Nat) == 0)=false from rfl,cf_,show ((2:Nat) == 1)=false from rfl,cf_,show ((2:Nat) == 2)=true from rfl,ct_,C0 h4 (by rw [ET,Br,hT]),ob_,Ao om_];dsimp only;show Bo FF (99996 + 1) (((3:Nat):Int),_)=_;rw [Bo];dsimp only;rw [show decide (((3:Nat):Int) < 4)=true from rfl,ct_,Ak,FB om_,ob_,show ((3:Nat) == 0)=false from rfl,cf_,show ((3:Nat) == 1)=false from rfl,cf_,show ((3:Nat) == 2)=false from rfl,cf_,show ((3:Nat) == 3)=true from rfl,ct_,CZ h4 (by rw [ET,ET,Br,hT,FL,F0]),ob_,Ao om_];dsimp only;show Bo FF (99995 + 1) (((4:Nat):Int),_)=_;rw [Bo];dsimp only;rw [show decide (((4:Nat):Int) < 4)=false from rfl,cf_];unfold sgs;rw [FM,FM];rfl
 rw [loop,ob_];dsimp only;rw [df_ (by have:=h.sig;omega),cf_]
theorem m7_spec (h:Sq5 s):m7 FF s=some (cbl s,0):=by
 unfold m7;rw [C7 h,ob_];rfl
end Go.Pn
namespace Go.Pn
open Go
open Csc
variable {s:Ah}
theorem D2:∀ {d f:Nat} {n:Int} {x:Expr} {y:Int} {b:Bool},okE d n x->d + 300<=f->m138 f x (-1) y b (-1) y=some (x,b)
 | 0,_,_,_,_,_,h,_=>h.elim
 | d + 1,f,n,x,y,b,h,hf=>by
  obtain ⟨f,rfl⟩:∃ f',f=f' + 1:=⟨f - 1,by omega⟩;obtain ⟨h1,h2,h3⟩:=h;have hz:=Gb h1;unfold m138;rw [show (x.Index == (-1:Int))=false by rw [beq_eq_false_iff_ne];have:=hz.2.2.2.2.2.1;omega,HD,cf_];obtain ⟨v,hv,hh⟩:=Nu (L:=Hi (m138 f) x (-1) y) (mk:=λi (v:Bool×List Expr)=>((i:Int),v)) (N:=x.Args.length) (I:=λi v=>v=(b,x.Args.take i)) (λn' i v hi hI=>by
   subst hI;refine ⟨_,rfl,?_⟩;rw [Hi];dsimp only;rw [Al,dt_ hi,ct_,Ak,gE_ hi,ob_,D2 (h3 _ (E9 hi)) om_,ob_,Aw (by rw [JB];simp;omega),ob_,Ao om_,HF,gE_ hi];rfl) (λn' v _=>by
   rw [Hi];dsimp only;rw [Al,df_ om_,cf_]) f 0 (b,[]) om_ om_ As
  try dsimp only at hh
  rw [n0] at hh;rw [hh,hv,ob_];dsimp only;rw [JA];clear hh hv hz h1 h2 h3;cases x;rfl
theorem zrx_eq {x:Expr} (h:zrx x=true):x=⟨0,0,[]⟩:=by
 unfold zrx at h;rw [E3,E3,beq_iff_eq,beq_iff_eq,beq_iff_eq] at h;obtain ⟨op,ix,ar⟩:=x;obtain ⟨⟨h1,h2⟩,h3⟩:=h;dsimp only at h1 h2 h3;subst h1 h2;rw [HT.1 (show ar.length=0 by omega)]
theorem okE_z {n:Int}:okE 16 n ⟨0,0,[]⟩:=⟨rfl,by simp,λ_ h=>by cases h⟩
theorem off_ok {c:Aa} {i:Nat} {x:Ae} (hw:Fw c) (hx:c.Signals[i]?=some x) (h:sge c i x=0):okE 16 (cL c) x.On/\okE 16 (cL c) x.Off:=by
 obtain ⟨⟨h1,h2,h3,h4⟩,_⟩:=Uj hw hx h;refine ⟨h3,?_⟩;by_cases hk:x.Kind=1
 ·exact h4 hk
 have:zrx x.Off=true:=by
  unfold sge at h;split at h
  ·contradiction
  split at h
  ·contradiction
  split at h
  ·contradiction
  split at h
  ·split at h
   ·cases h
   ·split at h
    ·cases h
    ·rename_i h9;cases hz:zrx x.Off with
     | true=>rfl
     | false=>rw [hz] at h9;exact absurd rfl h9
  ·split at h
   ·cases h
   ·split at h
    ·cases h
    ·rename_i h9;cases hz:zrx x.Off with
     | true=>rfl
     | false=>rw [hz] at h9;exact absurd rfl h9
 rw [zrx_eq this];exact okE_z
theorem cbl_ok (h:Sq5 s) {x:Ae} (hx:x∈(cbl s).Signals):okE 16 (cL (cbl s)) x.On/\okE 16 (cL (cbl s)) x.Off:=by
 obtain ⟨i,hi,rfl⟩:=JD.1 hx;have h0:=Uk h (i:=i) hi;unfold sgE at h0;rw [gE_ hi] at h0;exact off_ok (AL h) (gE_ hi) h0
def k0:ByteArray:=⟨#[115,116,117,99,107,48]⟩
def k1:ByteArray:=⟨#[115,116,117,99,107,49]⟩
theorem k0_no:(nma.any λy=>k0.toList == y.toList)=false:=by kernel_rfl
theorem k1_no:((nma ++ [k0]).any λy=>k1.toList == y.toList)=false:=by kernel_rfl
theorem m110_no {l:List ByteArray} {x:ByteArray} (hl:l.length<=1000) (h:(l.any λy=>x.toList == y.toList)=false):m110 FF l x=some false:=by
 have h1:=BR (L:=Ph l x) (xs:=l) (p:=λ_ y=>some (x.toList == y.toList)) (q:=λy=>x.toList == y.toList) (r:=λz=>z) (λ_ _=>rfl) om_ (λ_ _ _=>rfl) FF 0 om_ uF;have h2:l.findIdx? (λy=>x.toList == y.toList)=none:=by
  rw [GT];intro y hy;have:=F4.1 h y hy;simpa using this
 rw [GG,h2,n0] at h1;unfold m110 m139;rw [h1];rfl
end Go.Pn
namespace Go.Pn
open Go
theorem Zp {xs:List ByteArray} (h:xs.length<=1000):m105 FF xs=some xs:=by
 unfold m105;rw [Aw so_];rfl
theorem Pi {f:Nat} {n:Nat} {i:List ByteArray} {g:List Ae} {p q:List Int} (h1:n<=6) (h2:i.length<=16) (h3:g.length<=100):m107 f ⟨(n:Int),i,g,p,q⟩=some ((2 * n + i.length + g.length:Nat):Int):=by
 show some (wr (wr (wr (2 * (n:Int)) + (i.length:Int)) + (g.length:Int)))=_;rw [Aq (x:=2 * (n:Int)) om_ om_,Aq (x:=2 * (n:Int) + _) om_ om_,Aq om_ om_];congr 1
def kdT:ByteArray×Bool×Int×ByteArray×Bool×Int×ByteArray×Bool×Int×ByteArray×Bool×Int×ByteArray×Bool×Int×ByteArray×Bool×Int×Int×Int×Int×Int×Int×Int×Int×Int:=((⟨#[32,115,116,117,99,107,32,105,110]⟩:ByteArray),false,(0:Int),(⟨#[32,115,116,117,99,107,32,111,117,116]⟩:ByteArray),false,(0:Int),(⟨#[32,116,114,117,101]⟩:ByteArray),true,(1:Int),(⟨#[32,102,97,108,115,101]⟩:ByteArray),true,(0:Int),(⟨#[32,118,97,108,118,101,32,116,114,117,101]⟩:ByteArray),false,(0:Int),(⟨#[32,118,97,108,118,101,32,102,97,108,115,101]⟩:ByteArray),false,(0:Int),(0:Int),(-1:Int),(-1:Int),(0:Int),(1:Int),(0:Int),(0:Int),(1:Int))
theorem Yj {f:Nat}:m54 f=some kdT:=rfl
def Kst (k:Nat):Prop:=k=0\/k=1\/k=4\/k=5
def plt (k:Nat):Pilots:=if k=0 then ⟨0,-1⟩ else if k=1 then ⟨-1,0⟩ else if k=4 then ⟨1,0⟩ else ⟨0,1⟩
def chd (A a k:Nat):List Pilots:=(List.range A).map λj=>if j=a then plt k else ⟨-1,-1⟩
theorem Kst.idx {k:Nat} (h:Kst k):idx (List.range 6) (k:Int)=some k:=by
 rcases h with rfl | rfl | rfl | rfl <;> rfl
theorem Zn {c:Aa} {k a:Nat} (hk:Kst k) (hA:cA c<=6) (hac:c.Actuators=(cA c:Int)):m109 FF c ⟨(k:Int),(a:Int)⟩=some (chd (cA c) a k):=by
 unfold m109;rw [Yj,ob_];dsimp only;rw [hk.idx,ob_];obtain ⟨v,hv,hh⟩:=Nu (L:=Ce FF c ⟨(k:Int),(a:Int)⟩ kdT k) (mk:=λi (v:List Pilots)=>((i:Int),v)) (N:=cA c) (I:=λi v=>v=(List.range i).map λj=>if j=a then plt k else ⟨-1,-1⟩) (λn' i v hi hI=>by
  subst hI;refine ⟨_,rfl,?_⟩;rw [Ce];dsimp only;rw [hac,Al,dt_ hi,ct_,F9,GQ];have hap:∀ y:Pilots,app ((List.range i).map λj=>if j=a then plt k else (⟨-1,-1⟩:Pilots)) [y]=some (((List.range i).map λj=>if j=a then plt k else (⟨-1,-1⟩:Pilots)) ++ [y]):=λy=>Aw so_
  by_cases h:i=a
  ·rw [show ((i:Int) == (a:Int))=true by simp [h]];generalize hQ:((List.range i).map λj=>if j=a then plt k else (⟨-1,-1⟩:Pilots))=Q at hap ⊢
   have h2:[i].map (λj=>if j=a then plt k else (⟨-1,-1⟩:Pilots))=[plt k]:=by simp [h]
   rw [h2];rcases hk with rfl | rfl | rfl | rfl
   ·show (app Q [(⟨0,-1⟩:Pilots)]).bind _=_;rw [hap,ob_,Ao om_];rfl
   ·show (app Q [(⟨-1,0⟩:Pilots)]).bind _=_;rw [hap,ob_,Ao om_];rfl
   ·show (app Q [(⟨1,0⟩:Pilots)]).bind _=_;rw [hap,ob_,Ao om_];rfl
   ·show (app Q [(⟨0,1⟩:Pilots)]).bind _=_;rw [hap,ob_,Ao om_];rfl
  ·rw [show ((i:Int) == (a:Int))=false by rw [beq_eq_false_iff_ne];omega];generalize hQ:((List.range i).map λj=>if j=a then plt k else (⟨-1,-1⟩:Pilots))=Q at hap ⊢
   have h2:[i].map (λj=>if j=a then plt k else (⟨-1,-1⟩:Pilots))=[⟨-1,-1⟩]:=by simp [h]
   rw [h2];rcases hk with rfl | rfl | rfl | rfl <;>
   ·show (app Q [(⟨-1,-1⟩:Pilots)]).bind _=_;rw [hap,ob_,Ao om_]) (λn' v _=>by
  rw [Ce];dsimp only;rw [hac,Al,df_ om_,cf_]) FF 0 [] om_ uF As
 try dsimp only at hh
 rw [n0] at hh;rw [hh,hv];rfl
theorem Zw {z:Int×(List Ae)×(List Int)×(List Int)×(List ByteArray)×(List Bool)} {x:ByteArray} {at_:Int} {A a k:Nat} {P M:List Int} (hP:P.length=A) (hM:M.length=A) (ha:a < A) (hA:A<=6) (hi:z.1≠-1) :
  Ka z x at_ (chd A a k) FF (false,0,P,M)=some (((plt k).plus == z.1) || ((plt k).minus == z.1),(A:Int),(if (plt k).plus=z.1 then P.set a at_ else P),(if (plt k).minus=z.1 then M.set a at_ else M)):=by
 have hl:(chd A a k).length=A:=by unfold chd;simp
 obtain ⟨v,hv,hh⟩:=Nu (L:=Ka z x at_ (chd A a k)) (mk:=λi (v:Bool×List Int×List Int)=>(v.1,(i:Int),v.2.1,v.2.2)) (N:=A) (I:=λi v=>v=if i<=a then (false,P,M) else (((plt k).plus == z.1) || ((plt k).minus == z.1),(if (plt k).plus=z.1 then P.set a at_ else P),(if (plt k).minus=z.1 then M.set a at_ else M))) (λn' i v hj hI=>by
  subst hI;have hg:(chd A a k)[i]?=some (if i=a then plt k else ⟨-1,-1⟩):=by
   unfold chd;rw [FD,FB hj];rfl
  have hne:((-1:Int) == z.1)=false:=by rw [beq_eq_false_iff_ne];omega
  refine ⟨_,rfl,?_⟩;rw [Ka];dsimp only;rw [hl,Al,dt_ hj,ct_,Ak,hg,ob_];rcases HS i a with h | h | h
  ·rw [if_neg (show ¬ i=a by omega),if_pos (show i<=a by omega),if_pos (show i + 1<=a by omega)];dsimp only;rw [hne,cf_,ob_,cf_,ob_,Ao om_]
  ·subst h;rw [if_pos rfl,if_pos (FH _),if_neg om_];dsimp only;have e1:idx P (i:Int)=some P[i]:=by rw [Ak,gE_ om_]
   have e2:idx M (i:Int)=some M[i]:=by rw [Ak,gE_ om_]
   rw [e1,e2,ob_,ob_,F7,Ao om_];by_cases g1:(plt k).plus=z.1 <;> by_cases g2:(plt k).minus=z.1
   ·rw [if_pos g1,if_pos g2,show ((plt k).plus == z.1)=true by simpa using g1,show ((plt k).minus == z.1)=true by simpa using g2];rfl
   ·rw [if_pos g1,if_neg g2,show ((plt k).plus == z.1)=true by simpa using g1,show ((plt k).minus == z.1)=false by simpa using g2];rfl
   ·rw [if_neg g1,if_pos g2,show ((plt k).plus == z.1)=false by simpa using g1,show ((plt k).minus == z.1)=true by simpa using g2];rfl
   ·rw [if_neg g1,if_neg g2,show ((plt k).plus == z.1)=false by simpa using g1,show ((plt k).minus == z.1)=false by simpa using g2];rfl
  ·rw [if_neg (show ¬ i=a by omega),if_neg (show ¬ i<=a by omega),if_neg (show ¬ i + 1<=a by omega)];dsimp only;rw [hne,cf_,ob_,cf_,ob_,Ao om_]) (λn' v _=>by
  rw [Ka];dsimp only;rw [hl,Al,df_ om_,cf_]) FF 0 (false,P,M) om_ uF As
 try dsimp only at hh
 rw [n0] at hh;rw [hh,hv,if_neg om_]
end Go.Pn
namespace Go.Pn
open Go
theorem CR {c:Aa} (hc:Rc c) {i:Nat} (hi:i < cL c):m55 FF c (i:Int)=some (nmF c i,0):=by
 unfold m55;rw [hc.ck,ob_,zf_,cf_,df_ om_,cf_,Jc hc.rt.bd,ob_,show decide ((i:Int)>=(cL c:Int))=false by simp;omega,ob_,cf_,Uv hc.rt.bd hi];rfl
theorem Zo {d:Nat} {n:Int} {x:Expr} {y:Int} (h:okE 16 n x):m108 FF x (-1) y=some (x,false):=by
 unfold m108;rw [D2 h uF];rfl
def kst0:Ae:=⟨k0,0,⟨0,0,[]⟩,⟨0,0,[]⟩,0,false⟩
def kst1 (nm:ByteArray):Ae:=⟨nm,0,⟨0,1,[]⟩,⟨0,0,[]⟩,0,false⟩
def nmL (c:Aa):List ByteArray:=(List.range (cL c)).map (nmF c)
theorem l3_no {c:Aa} {A a k:Nat} {n:Nat} {o:Int×List ByteArray} {i:Int} {x:ByteArray} {g:List Ae} {P M:List Int} {nm:List ByteArray} {bs:List Bool}
  (h109:m109 FF c ⟨(k:Int),(a:Int)⟩=some (chd A a k)) (hcA:c.Actuators=(A:Int)) (hin:c.Inputs.length<=16) (hg:g.length<=100) (hP:P.length=A) (hM:M.length=A) (ha:a < A) (hA:A<=6) (hi:i=0/\x=k0\/i=1/\x=k1) (hp:(plt k).plus≠i) (hm:(plt k).minus≠i) :
  Bw FF c ⟨(k:Int),(a:Int)⟩ c.Inputs o (n + 1) (i,g,P,M,nm,bs)=Bw FF c ⟨(k:Int),(a:Int)⟩ c.Inputs o n (wr (i + 1),g,P,M,nm,bs):=by
 have hx:idx ([k0,k1]:List ByteArray) i=some x:=by rcases hi with ⟨rfl,rfl⟩ | ⟨rfl,rfl⟩ <;> rfl
 have hlt:decide (i < (([k0,k1]:List ByteArray).length:Int))=true:=by rcases hi with ⟨rfl,_⟩ | ⟨rfl,_⟩ <;> rfl
 have hne:i≠-1:=by rcases hi with ⟨rfl,_⟩ | ⟨rfl,_⟩ <;> decide
 have h4:=Zw (z:=(i,g,P,M,nm,bs)) (x:=x) (at_:=((2 * A + c.Inputs.length + g.length:Nat):Int)) (k:=k) hP hM ha hA hne;rw [if_neg hp,if_neg hm,show ((plt k).plus == (i,g,P,M,nm,bs).1)=false by simpa using hp,show ((plt k).minus == (i,g,P,M,nm,bs).1)=false by simpa using hm] at h4;rw [Bw];dsimp only;rw [show ([(⟨#[115,116,117,99,107,48]⟩:ByteArray),(⟨#[115,116,117,99,107,49]⟩:ByteArray)]:List ByteArray)=[k0,k1] from rfl,hlt,ct_,hx,ob_,hcA,Pi hA hin hg,ob_,h109,ob_,h4];rfl
theorem Nr {c:Aa} {A a k:Nat} {n:Nat} {o:Int×List ByteArray} {i:Int} {x:ByteArray} {g:List Ae} {P M:List Int} {nm:List ByteArray} {bs:List Bool}
  (h109:m109 FF c ⟨(k:Int),(a:Int)⟩=some (chd A a k)) (hcA:c.Actuators=(A:Int)) (hin:c.Inputs.length<=16) (hg:g.length<=100) (hP:P.length=A) (hM:M.length=A) (ha:a < A) (hA:A<=6) (hi:i=0/\x=k0\/i=1/\x=k1) (hpm:(plt k).plus=i\/(plt k).minus=i)
  (hnm:nm.length<=900) (hno:(nm.any λy=>x.toList == y.toList)=false) (hbs:bs.length<=10) :
  Bw FF c ⟨(k:Int),(a:Int)⟩ c.Inputs o (n + 1) (i,g,P,M,nm,bs)=Bw FF c ⟨(k:Int),(a:Int)⟩ c.Inputs o n (wr (i + 1),g ++ [⟨x,0,⟨0,i,[]⟩,⟨0,0,[]⟩,0,false⟩],(if (plt k).plus=i then P.set a ((2 * A + c.Inputs.length + g.length:Nat):Int) else P),(if (plt k).minus=i then M.set a ((2 * A + c.Inputs.length + g.length:Nat):Int) else M),nm ++ [x],bs ++ [i == 1]):=by
 have hx:idx ([k0,k1]:List ByteArray) i=some x:=by rcases hi with ⟨rfl,rfl⟩ | ⟨rfl,rfl⟩ <;> rfl
 have hlt:decide (i < (([k0,k1]:List ByteArray).length:Int))=true:=by rcases hi with ⟨rfl,_⟩ | ⟨rfl,_⟩ <;> rfl
 have hne:i≠-1:=by rcases hi with ⟨rfl,_⟩ | ⟨rfl,_⟩ <;> decide
 have h4:=Zw (z:=(i,g,P,M,nm,bs)) (x:=x) (at_:=((2 * A + c.Inputs.length + g.length:Nat):Int)) (k:=k) hP hM ha hA hne;have h5:Ma FF o (i,g,P,M,nm,bs) FF x=some x:=by
  show Ma FF o (i,g,P,M,nm,bs) (99999 + 1) x=some x;rw [Ma];show (m110 FF nm x).bind _=_;rw [m110_no om_ hno];rfl
 have hor:(((plt k).plus == i) || ((plt k).minus == i))=true:=by
  rw [G8,beq_iff_eq,beq_iff_eq];exact hpm
 rw [Bw];dsimp only;rw [show ([(⟨#[115,116,117,99,107,48]⟩:ByteArray),(⟨#[115,116,117,99,107,49]⟩:ByteArray)]:List ByteArray)=[k0,k1] from rfl,hlt,ct_,hx,ob_,hcA,Pi hA hin hg,ob_,h109,ob_,h4,ob_];dsimp only;rw [hor,GX,cf_,h5,ob_,Aw so_,ob_,Aw so_,ob_,Aw so_,ob_]
theorem Vq {c:Aa} {v:Fault} {n:Nat} {o:Int×List ByteArray} {r:List Ae×List Int×List Int×List ByteArray×List Bool}:Bw FF c v c.Inputs o (n + 1) (2,r)=some (2,r):=by
 rw [Bw];rfl
theorem CH {c:Aa} (hc:Rc c) (hS:∀ x∈c.Signals,okE 16 (cL c) x.On/\okE 16 (cL c) x.Off) (hN0:((nmL c).any λy=>k0.toList == y.toList)=false) (hN1:((nmL c ++ [k0]).any λy=>k1.toList == y.toList)=false)
  {k a:Nat} (hk:Kst k) (ha:a < cA c):∃ d bs,m79 FF c ⟨(k:Int),(a:Int)⟩=some (d,bs)/\d.Actuators=c.Actuators/\d.Inputs=c.Inputs/\(d.Signals=c.Signals ++ [kst0]\/d.Signals=c.Signals ++ [kst0,kst1 k1])/\(d.Plus.getD a 0=(cL c:Int)\/d.Minus.getD a 0=(cL c:Int)):=by
 unfold nmL at hN0 hN1;have hb:=hc.rt.bd;have hA:=hb.a';have hin:=hb.i;have hsg:=hb.s;have hac:=hb.a;have hP:=hc.rt.plus;have hM:=hc.rt.minus;have hcL:cL c=2 * cA c + c.Inputs.length + c.Signals.length:=rfl;have h109:=Zn (a:=a) hk hA.2 hac;unfold m79;rw [Yj,ob_];dsimp only;rw [hk.idx,ob_];have hz:(bif ([kdT.2.1,kdT.2.2.2.2.1,kdT.2.2.2.2.2.2.2.1,kdT.2.2.2.2.2.2.2.2.2.2.1,kdT.2.2.2.2.2.2.2.2.2.2.2.2.2.1,kdT.2.2.2.2.2.2.2.2.2.2.2.2.2.2.2.2.1]:List Bool).getD k false then some (a:Int) else some (-1:Int))=some (-1:Int):=by
  rcases hk with rfl | rfl | rfl | rfl <;> rfl
 rw [hz,ob_,Zp om_,ob_,Cj om_,ob_,Cj om_,ob_];have h107:m107 FF c=some (cL c:Int):=by
  have h:=Pi (f:=FF) (n:=cA c) (i:=c.Inputs) (g:=c.Signals) (p:=c.Plus) (q:=c.Minus) hA.2 hin om_;rw [← hac] at h;exact h
 rw [h107,ob_];obtain ⟨v1,hv1,hh1⟩:=Nu (L:=Mc FF c (cL c:Int)) (mk:=λi (v:List ByteArray)=>((i:Int),v)) (N:=cL c) (I:=λi v=>v=(List.range i).map (nmF c)) (λn' i v hi hI=>by
  subst hI;refine ⟨_,rfl,?_⟩;rw [Mc];dsimp only;rw [Al,dt_ hi,ct_,CR hc hi,ob_,Aw so_,ob_,Ao om_,F9,GQ];rfl) (λn' v _=>by
  rw [Mc];dsimp only;rw [Al,df_ om_,cf_]) FF 0 [] om_ uF As
 try dsimp only at hh1
 rw [n0] at hh1;rw [hh1,hv1,ob_];dsimp only;obtain ⟨v2,hv2,hh2⟩:=Nu (L:=Mb FF c kdT k (-1)) (mk:=λi (v:List Ae)=>((i:Int),v)) (N:=c.Signals.length) (I:=λi v=>v=c.Signals.take i) (λn' i v hi hI=>by
  subst hI;refine ⟨_,rfl,?_⟩;obtain ⟨o1,o2⟩:=hS _ (E9 hi);rw [Mb];dsimp only;rw [Al,dt_ hi,ct_,Ak,gE_ hi,ob_,Zo (d:=0) o1,ob_];dsimp only;rw [Zo (d:=0) o2,ob_,Aw so_,ob_,Ao om_,HF,gE_ hi];rfl) (λn' v _=>by
  rw [Mb];dsimp only;rw [Al,df_ om_,cf_]) FF 0 [] om_ uF As
 try dsimp only at hh2
 rw [n0] at hh2;rw [hh2,hv2,ob_,JA];dsimp only;have hnl:((List.range (cL c)).map (nmF c)).length<=900:=by simp;omega
 have hset:∀ (X:List Int) (y:Int),X.length=cA c->(X.set a y).getD a 0=y:=λX y hX=>by
  rw [ES,GM om_];rfl
 generalize hR:Bw FF c ⟨(k:Int),(a:Int)⟩ c.Inputs _ FF _=R;have hR:Bw FF c ⟨(k:Int),(a:Int)⟩ c.Inputs ((cL c:Int),(List.range (cL c)).map (nmF c)) ((99997 + 1 + 1) + 1) (0,c.Signals,c.Plus,c.Minus,(List.range (cL c)).map (nmF c),[])=R:=hR;rcases hk with rfl | rfl | rfl | rfl
 ·rw [Nr h109 hac hin om_ hP hM ha hA.2 (.inl ⟨rfl,rfl⟩) (.inl rfl) hnl hN0 As,if_pos (show (plt 0).plus=0 from rfl),if_neg (show ¬ (plt 0).minus=0 by decide),show wr (0 + 1)=1 from rfl,
   l3_no h109 hac hin so_ (by simpa using hP) hM ha hA.2 (.inr ⟨rfl,rfl⟩) (by decide) (by decide),show wr (1 + 1)=2 from rfl,Vq] at hR
  subst hR;refine ⟨_,_,rfl,rfl,rfl,.inl rfl,.inl ?_⟩;exact hset _ _ hP
 ·rw [Nr h109 hac hin om_ hP hM ha hA.2 (.inl ⟨rfl,rfl⟩) (.inr rfl) hnl hN0 As,if_neg (show ¬ (plt 1).plus=0 by decide),if_pos (show (plt 1).minus=0 from rfl),show wr (0 + 1)=1 from rfl,
   l3_no h109 hac hin so_ hP (by simpa using hM) ha hA.2 (.inr ⟨rfl,rfl⟩) (by decide) (by decide),show wr (1 + 1)=2 from rfl,Vq] at hR
  subst hR;refine ⟨_,_,rfl,rfl,rfl,.inl rfl,.inr ?_⟩;exact hset _ _ hM
 ·rw [Nr h109 hac hin om_ hP hM ha hA.2 (.inl ⟨rfl,rfl⟩) (.inr rfl) hnl hN0 As,if_neg (show ¬ (plt 4).plus=0 by decide),if_pos (show (plt 4).minus=0 from rfl),show wr (0 + 1)=1 from rfl,
   Nr h109 hac hin so_ hP (by simpa using hM) ha hA.2 (.inr ⟨rfl,rfl⟩) (.inl rfl) (by simp at hnl ⊢;omega) hN1 As,if_pos (show (plt 4).plus=1 from rfl),if_neg (show ¬ (plt 4).minus=1 by decide),show wr (1 + 1)=2 from rfl,Vq] at hR
  subst hR;refine ⟨_,_,rfl,rfl,rfl,.inr ?_,.inr ?_⟩
  ·exact FM ..
  ·exact hset _ _ hM
 ·rw [Nr h109 hac hin om_ hP hM ha hA.2 (.inl ⟨rfl,rfl⟩) (.inl rfl) hnl hN0 As,if_pos (show (plt 5).plus=0 from rfl),if_neg (show ¬ (plt 5).minus=0 by decide),show wr (0 + 1)=1 from rfl,
   Nr h109 hac hin so_ (by simpa using hP) hM ha hA.2 (.inr ⟨rfl,rfl⟩) (.inr rfl) (by simp at hnl ⊢;omega) hN1 As,if_neg (show ¬ (plt 5).plus=1 by decide),if_pos (show (plt 5).minus=1 from rfl),show wr (1 + 1)=2 from rfl,Vq] at hR
  subst hR;refine ⟨_,_,rfl,rfl,rfl,.inr ?_,.inl ?_⟩
  ·exact FM ..
  ·exact hset _ _ hP
end Go.Pn
namespace Go.Pn
open Go
open Csc
variable {s:Ah}
theorem BA {l l':List ByteArray} {f:ByteArray->Bool} (h:∀ x∈l,x∈l') (hf:l'.any f=false):l.any f=false:=by
 rw [F4] at hf ⊢;exact λx hx=>hf x (h x hx)
theorem Yf (h:Sq5 s):∀ x∈nmL (cbl s),x∈nma:=λx hx=>by
 obtain ⟨i,hi,rfl⟩:=FE.1 hx;obtain ⟨p,hp,_⟩:=Yg h (E4.1 hi);exact FP hp
theorem nmL0 (h:Sq5 s):((nmL (cbl s)).any λy=>k0.toList == y.toList)=false:=BA (Yf h) k0_no
theorem nmL1 (h:Sq5 s):((nmL (cbl s) ++ [k0]).any λy=>k1.toList == y.toList)=false:=
 BA (λx hx=>by
  rcases FQ.1 hx with hx | hx
  ·exact FJ _ (Yf h x hx)
  ·exact FK _ hx) k1_no
theorem CS {c:Aa} (hb:Bd_ c) {k a:Nat} (hk:Kst k) (ha:a < cA c):m53 FF c ⟨(k:Int),(a:Int)⟩=some 0:=by
 have hac:=hb.a;unfold m53;rw [Yj,ob_];dsimp only;have h6:k < 6:=by rcases hk with rfl | rfl | rfl | rfl <;> omega
 rw [show (decide ((k:Int) < 0) || decide ((k:Int)>=6))=false by simp;omega,cf_,df_ (show ¬ (a:Int) < 0 by omega),cf_,hk.idx,ob_];have hz:m92 FF c (([kdT.2.1,kdT.2.2.2.2.1,kdT.2.2.2.2.2.2.2.1,kdT.2.2.2.2.2.2.2.2.2.2.1,kdT.2.2.2.2.2.2.2.2.2.2.2.2.2.1,kdT.2.2.2.2.2.2.2.2.2.2.2.2.2.2.2.2.1]:List Bool).getD k false)=some c.Actuators:=by
  rcases hk with rfl | rfl | rfl | rfl <;> rfl
 rw [hz,ob_,show decide ((a:Int)>=c.Actuators)=false by simp;omega];rfl
theorem DG {v:Int}:Fla ⟨0,v,[]⟩:=⟨by simp,λy h=>by cases h⟩
theorem inj_ok (h:Sq5 s) {k a:Nat} (hk:Kst k) (ha:a < A s):(∃ z,m38 FF (cbl s) ⟨(k:Int),(a:Int)⟩=some (z,12))\/∃ d w P,m38 FF (cbl s) ⟨(k:Int),(a:Int)⟩=some (d,0)/\Rc d/\d.Inputs=(cbl s).Inputs/\Ivt d a w P:=by
 have hc:=Xr h;have hw:=AL h;have hb:=hc.rt.bd;have ha':a < cA (cbl s):=by
  have:=h.Ac;have:=hb.a;have:(cbl s).Actuators=s.Actuators:=rfl;omega
 obtain ⟨d,bs,e1,e2,e3,e4,e5⟩:=CH hc (λx hx=>cbl_ok h hx) (nmL0 h) (nmL1 h) hk ha';have hwd:Fw d:=by
  have hz:∀ x∈d.Signals,x∈(cbl s).Signals\/x=kst0\/x=kst1 k1:=λx hx=>by
   rcases e4 with e4 | e4 <;> rw [e4] at hx <;> rcases FQ.1 hx with hx | hx
   ·exact .inl hx
   ·exact .inr (.inl (GJ.1 hx))
   ·exact .inl hx
   ·rcases FG.1 hx with rfl | hx
    ·exact .inr (.inl rfl)
    ·exact .inr (.inr (GJ.1 hx))
  refine ⟨by rw [e3];exact hw.i,λx hx=>?_,λx hx=>?_,λx hx=>?_⟩
  ·rcases hz x hx with hx | rfl | rfl
   ·exact hw.n x hx
   ·decide
   ·decide
  ·rcases hz x hx with hx | rfl | rfl
   ·exact hw.on x hx
   ·exact Hp DG
   ·exact Hp DG
  ·rcases hz x hx with hx | rfl | rfl
   ·exact hw.off x hx
   ·exact Hp DG
   ·exact Hp DG
 obtain ⟨e,c1,c2,c3,_⟩:=Wg hwd;unfold m38 m25;rw [hc.ck,ob_,zf_,cf_,CS hb hk ha',ob_,ob_,zf_,cf_,e1,ob_,c1,ob_];by_cases he:e=0
 ·subst he;right;have hcd:Rc d:=⟨c3 rfl,hwd,c1,c2⟩;have hcA:cA d=cA (cbl s):=by unfold cA;rw [e2]
  have hcS:cS d=cS (cbl s):=by
   show 2 * cA d + d.Inputs.length=2 * cA (cbl s) + (cbl s).Inputs.length;rw [hcA,e3]
  have hsg:d.Signals[(cbl s).Signals.length]?=some kst0:=by
   rcases e4 with e4 | e4 <;> rw [e4,EV (FH _),HR] <;> rfl
  have hcf:Cf0 d (cL (cbl s):Int):=⟨(cbl s).Signals.length,by rw [hcS];rfl,kst0,hsg,rfl,rfl⟩;rcases e5 with e5 | e5
  ·exact ⟨d,true,BH a,rfl,hcd,e3,ivt0 (by rw [hcA];exact ha') (by rw [e5];exact hcf)⟩
  ·exact ⟨d,false,BG a,rfl,hcd,e3,ivt1 (by rw [hcA];exact ha') (by rw [e5];exact hcf)⟩
 ·rw [show (e != 0)=true by simpa using he,ct_];exact .inl ⟨_,rfl⟩
end Go.Pn
namespace Go.Pn
open Go
instance:BEq Af:=⟨Tz⟩
instance:LawfulBEq Af where
 eq_of_beq {a b} h:=by
  have h:Tz a b=true:=h;cases a;cases b
  simpa [Tz] using h
 rfl {a}:=by
  show Tz a a=true;cases a
  simp [Tz]
theorem CW {f:Nat} {xs ys:List Af} (hl:xs.length < 4611686018427387904) (hf:xs.length < f):m45 f xs ys=some (xs == ys):=by
 unfold m45;exact eqls0 (L:=Vg xs ys) (λ_ _=>rfl) hl hf
theorem Yl {c:Aa} {s:Ad} (hc:Rc c) (hf:Fit c s) (hq:Qt c s):m46 FF c s=some (pend s):=by
 unfold m46;rw [CD hc hf hq];rfl
structure Okp (c d:Aa) (p:Pair):Prop where
 gf:Fit c p.Good
 gq:Qt c p.Good
 bf:Fit d p.Bad
 bq:Qt d p.Bad
theorem D7 {c d:Aa} (hc:Rc c) (hd:Rc d) {p:Pair} (h:Okp c d p):∃ b,m21 FF ⟨c,d⟩ p=some b/\(b=false->p.Good.Ends=p.Bad.Ends):=by
 have s1:=h.gf.sm hc.rt.bd;have e1:p.Good.Ends.length<=1000:=s1.e;have i1:p.Good.Inputs.length<=1000:=s1.i;have pl:=Ur s1;unfold m21;dsimp only;rw [Pb om_ uF,Jh om_ uF,Yl hc h.gf h.gq,Yl hd h.bf h.bq,ob_,ob_,ob_,ob_,CW om_ uF,ob_];by_cases he:p.Good.Ends=p.Bad.Ends
 ·rw [show (p.Good.Ends == p.Bad.Ends)=true by simpa using he];cases p.Good.Inputs == p.Bad.Inputs
  ·exact ⟨true,rfl,λh=>by cases h⟩
  ·exact ⟨_,rfl,λ_=>he⟩
 ·rw [show (p.Good.Ends == p.Bad.Ends)=false by simpa using he];exact ⟨true,rfl,λh=>by cases h⟩
theorem m41_ok {c d:Aa} (hc:Rc c) (hd:Rc d) {L:List Pair} {p:Pair} (hp:Okp c d p) (hl:L.length<=1000):∃ r,m41 FF L p=some r/\(0<=r->p∈L):=by
 have h:=BR (L:=Ux FF L p) (xs:=L) (p:=λ_ y=>m82 FF y p) (q:=λy=>sst p.Good y.Good && sst p.Bad y.Bad) (r:=λz=>z) (λ_ _=>rfl) om_ (λi y hy=>by
  show (m83 FF p y).bind _=_;unfold m83;rw [Dv (hp.gf.sm hc.rt.bd) uF om_,Dv (hp.bf.sm hd.rt.bd) uF om_];cases sst p.Good y.Good <;> cases sst p.Bad y.Bad <;> rfl) FF 0 om_ (by unfold FF; omega)
 rw [n0,GG] at h;unfold m41 m81;rw [h];cases hf:L.findIdx? (λy=>sst p.Good y.Good && sst p.Bad y.Bad) with
 | none=>exact ⟨-1,rfl,λh=>by omega⟩
 | some j=>
  refine ⟨_,rfl,λ_=>?_⟩;obtain ⟨hj,hj2,_⟩:=GF.1 hf;rw [E3] at hj2;have h1:=Dm.1 hj2.1;have h2:=Dm.1 hj2.2;have:L[j]=p:=by
   generalize L[j]=y at h1 h2;cases y;cases p
   dsimp only at h1 h2;subst h1 h2;rfl
  rw [← this];exact E9 hj
theorem CG {σ:Type} {gy:Af->σ->Option (Bool×σ)} {c d:Aa} (hc:Rc c) {p:Pair} (hf:Fit c p.Good) (hq:Qt c p.Good) {I:List Af->σ->Prop} {O:σ->Prop}
  (step:∀ x xs z,x∈tld true p.Good->I (x :: xs) z->∃ r,gy x z=some r/\(r.1=true->I xs r.2)/\(r.1=false->O r.2)) {z:σ} (hI:I (tld true p.Good) z) :
  ∃ r,m80 gy FF ⟨c,d⟩ p z=some r/\(I [] r\/O r):=by
 have sm:=hf.sm hc.rt.bd;have pl:=Ur sm;have il:p.Good.Inputs.length<=1000:=sm.i;have run1:∀ (n i:Nat) (z:σ),i<=(pend p.Good).length->(pend p.Good).length - i < n->I ((pend p.Good).drop i ++ (List.range p.Good.Inputs.length).map (prs p.Good)) z ->
   ∃ r,Ra gy (pend p.Good) n ((i:Int),z)=some r/\((∃ y z',r=.brk (y,z')/\I ((List.range p.Good.Inputs.length).map (prs p.Good)) z')\/∃ z',r=.ret z'/\O z'):=by
  intro n
  induction n with
  | zero=>intro i z _ h;omega
  | succ n ih=>
   intro i z h1 h2 hI;rw [Ra];dsimp only;by_cases hi:i < (pend p.Good).length
   ·rw [Al,dt_ hi,ct_,Ak,gE_ hi,ob_];rw [F5 hi,H0] at hI;obtain ⟨r,hr,ht,hn⟩:=step _ _ z (by unfold tld;exact FJ _ (E9 hi)) hI;rw [hr,ob_];cases hb:r.1 with
    | true=>
     rw [GX,cf_,Ao om_];exact ih (i + 1) r.2 om_ om_ (ht hb)
    | false=>exact ⟨_,rfl,.inr ⟨_,rfl,hn hb⟩⟩
   ·rw [Al,df_ hi,cf_];rw [FN om_,G1] at hI;exact ⟨_,rfl,.inl ⟨_,_,rfl,hI⟩⟩
 have run2:∀ (n i:Nat) (z:σ),i<=p.Good.Inputs.length->p.Good.Inputs.length - i < n->I (((List.range p.Good.Inputs.length).map (prs p.Good)).drop i) z ->
   ∃ r,Qz gy p n ((i:Int),z)=some r/\((∃ y z',r=.brk (y,z')/\I [] z')\/∃ z',r=.ret z'/\O z'):=by
  intro n
  induction n with
  | zero=>intro i z _ h;omega
  | succ n ih=>
   intro i z h1 h2 hI;rw [Qz];dsimp only;by_cases hi:i < p.Good.Inputs.length
   ·rw [Al,dt_ hi,ct_,Ak,gE_ hi,ob_];have hi':i < ((List.range p.Good.Inputs.length).map (prs p.Good)).length:=by simpa using hi
    rw [F5 hi'] at hI;have he:((List.range p.Good.Inputs.length).map (prs p.Good))[i]=(⟨2,(i:Int),!p.Good.Inputs[i]⟩:Af):=by
     rw [JC,List.getElem_range];unfold prs;rw [ES,gE_ hi];rfl
    rw [he] at hI;obtain ⟨r,hr,ht,hn⟩:=step _ _ z (by
     rw [← he];unfold tld;refine FK _ ?_;rw [if_pos rfl];exact E9 hi') hI
    rw [hr,ob_];cases hb:r.1 with
    | true=>
     rw [GX,cf_,Ao om_];exact ih (i + 1) r.2 om_ om_ (ht hb)
    | false=>exact ⟨_,rfl,.inr ⟨_,rfl,hn hb⟩⟩
   ·rw [Al,df_ hi,cf_];rw [FN so_] at hI;exact ⟨_,rfl,.inl ⟨_,_,rfl,hI⟩⟩
 unfold m80;dsimp only;rw [Yl hc hf hq,ob_];obtain ⟨r,hr,h⟩:=run1 FF 0 z om_ uF (by
  rw [GG];unfold tld at hI;rw [if_pos rfl] at hI;exact hI)
 rw [n0] at hr;rw [hr,ob_];rcases h with ⟨y,z',rfl,h⟩ | ⟨z',rfl,h⟩
 ·obtain ⟨r,hr,h⟩:=run2 FF 0 z' om_ uF (by rw [GG];exact h);rw [n0] at hr;dsimp only;rw [hr,ob_];rcases h with ⟨y,z',rfl,h⟩ | ⟨z',rfl,h⟩
  ·exact ⟨_,rfl,.inl h⟩
  ·exact ⟨_,rfl,.inr h⟩
 ·exact ⟨_,rfl,.inr h⟩
end Go.Pn
namespace Go.Pn
open Go
structure Srt (c d:Aa) (q:CasD) (a:Nat) (w:Bool) (P:Ad->Prop):Prop where
 rc:Rc c
 rd:Rc d
 cp:CasP c q
 sp:SqP q
 tp:TmP q
 iv:Ivt d a w P
def nxp (c d:Aa) (p:Pair) (x:Af):Pair:=⟨(aft c p.Good x).1,(aft d p.Bad x).1⟩
def dfr (c d:Aa) (p:Pair) (x:Af):Option Bool:=bif (!((aft d p.Bad x).2 == 0)) then some true else (m21 FF ⟨c,d⟩ (nxp c d p x)).bind λx12=>some x12
structure Okc (c d:Aa) (q:CasD) (P:Ad->Prop) (p:Pair):Prop where
 cs:Cst c q p.Good
 bf:Fit d p.Bad
 bq:Qt d p.Bad
 pb:P p.Bad
 e:p.Good.Ends=p.Bad.Ends
variable {c d:Aa} {q:CasD} {a:Nat} {w:Bool} {P:Ad->Prop} {p p0:Pair}
theorem Cst.fq {s:Ad} (hc:CasP c q) (h:Cst c q s):Fit c s/\Qt c s:=by
 rcases h with ⟨k,mv,t,st,h⟩ | h
 ·exact ⟨h.at_.b.fit,h.at_.qt hc⟩
 ·have hb:Bs c q s _ _ _ _ _:=At_.b h;exact ⟨hb.fit,At_.qt hc h⟩
theorem Okc.okp (S:Srt c d q a w P) (h:Okc c d q P p):Okp c d p:=⟨(h.cs.fq S.cp).1,(h.cs.fq S.cp).2,h.bf,h.bq⟩
theorem nx_ok (S:Srt c d q a w P) (h:Okc c d q P p) {x:Af} (hx:x∈tld true p.Good) :
  m22 FF ⟨c,d⟩ p x=some (nxp c d p x,(aft d p.Bad x).2 == 0,0)/\(dfr c d p x=some true\/(dfr c d p x=some false/\Okc c d q P (nxp c d p x))):=by
 have hk:=h.okp S;obtain ⟨g0,g1⟩:=h.cs.clo S.cp S.sp S.tp x hx;obtain ⟨l1,e1⟩:=Vf (x:=x) S.rc hk.gf hk.gq;obtain ⟨l2,e2⟩:=Vf (x:=x) S.rd hk.bf hk.bq;refine ⟨?_,?_⟩
 ·unfold m22;dsimp only;rw [e1,ob_];dsimp only;rw [g0,zf_,cf_,e2];rfl
 ·unfold dfr;by_cases h0:(aft d p.Bad x).2=0
  ·obtain ⟨f1,f2⟩:=EK hk.bf h0;obtain ⟨f3,f4⟩:=EK hk.gf g0;obtain ⟨b,hb,hbe⟩:=D7 S.rc S.rd (p:=nxp c d p x) ⟨f3,f4,f1,f2⟩;rw [show ((aft d p.Bad x).2 == 0)=true by simpa using h0,GX,cf_,hb,ob_];cases b with
   | true=>exact .inl rfl
   | false=>exact .inr ⟨rfl,g1,f1,f2,aft_inv S.iv.r S.iv.k S.iv.ac hk.bf h0 h.pb,hbe rfl⟩
  ·rw [show ((aft d p.Bad x).2 == 0)=false by simpa using h0];exact .inl rfl
inductive Pth (c d:Aa) (p0:Pair):List Af->Pair->Prop
 | nil:Pth c d p0 [] p0
 | snoc {l:List Af} {p:Pair} {x:Af}:Pth c d p0 l p->x∈tld true p.Good->dfr c d p x=some false->Pth c d p0 (l ++ [x]) (nxp c d p x)
theorem Pth.ok (S:Srt c d q a w P) (h0:Okc c d q P p0) {l:List Af} (h:Pth c d p0 l p):Okc c d q P p:=by
 induction h with
 | nil=>exact h0
 | snoc _ hx hd ih=>
  rcases (nx_ok S ih hx).2 with h | h
  ·rw [hd] at h;cases h
  ·exact h.2
theorem Un (S:Srt c d q a w P) (h:Okc c d q P p) {v:List Af} {x:Af} {i n:Nat} {u0:Int} {b0:Bool} (hv:v[i]?=some x) (hi:i < 100000) (hx:x∈tld true p.Good) :
  Dw FF v (⟨c,d⟩,0) (n + 1) (u0,b0,(i:Int),p)=(dfr c d p x).bind λr13=>bif r13 then some (.ret (((i + 1:Nat):Int),true,0)) else Dw FF v (⟨c,d⟩,0) n (0,(aft d p.Bad x).2 == 0,((i + 1:Nat):Int),nxp c d p x):=by
 have hl:=(EY.1 hv).1;rw [Dw];dsimp only;rw [Al,dt_ hl,ct_,Ak,hv,ob_,(nx_ok S h hx).1,ob_];dsimp only;rw [zf_,cf_,Ao om_];rfl
theorem rep_run (S:Srt c d q a w P) (h0:Okc c d q P p0) {l:List Af} (h:Pth c d p0 l p):∀ (rest:List Af) (n:Nat) (u0:Int) (b0:Bool),(l ++ rest).length<=10000->l.length<=n ->
  ∃ u1 b1,Dw FF (l ++ rest) (⟨c,d⟩,0) n (u0,b0,0,p0)=Dw FF (l ++ rest) (⟨c,d⟩,0) (n - l.length) (u1,b1,(l.length:Int),p):=by
 induction h with
 | nil=>intro rest n u0 b0 _ _;exact ⟨u0,b0,rfl⟩
 | @snoc l p x hp hx hd ih=>
  intro rest n u0 b0 hl hn;rw [ET,HB] at hn;rw [FM] at hl ⊢;obtain ⟨u1,b1,e⟩:=ih ([x] ++ rest) n u0 b0 hl om_;rw [e];obtain ⟨m,hm⟩:∃ m,n - l.length=m + 1:=⟨n - l.length - 1,by omega⟩;rw [hm,Un S (hp.ok S h0) (x:=x) (by rw [EV (FH _),HR];rfl) (by rw [ET] at hl;omega) hx,hd,ob_,cf_,ET,HB,show n - (l.length + 1)=m by omega];exact ⟨_,_,rfl⟩
theorem BZ (S:Srt c d q a w P) (h0:Okc c d q P p0) {l:List Af} (h:Pth c d p0 l p) {x:Af} (hx:x∈tld true p.Good) (hd:dfr c d p x=some true) (hl:l.length<=1000) {u0:Int} {b0:Bool} :
  Dw FF (l ++ [x]) (⟨c,d⟩,0) FF (u0,b0,0,p0)=some (.ret (((l ++ [x]).length:Int),true,0)):=by
 obtain ⟨u1,b1,e⟩:=rep_run S h0 h [x] FF u0 b0 (by rw [ET,HB];omega) uF;rw [e];obtain ⟨m,hm⟩:∃ m,FF - l.length=m + 1:=⟨FF - l.length - 1,by unfold FF;omega⟩;rw [hm,Un S (h.ok S h0) (x:=x) (by rw [EV (FH _),HR];rfl) om_ hx,hd,ET,HB];rfl
end Go.Pn
namespace Go.Pn
open Go
variable {c d:Aa} {q:CasD} {a:Nat} {w:Bool} {P:Ad->Prop} {p p0:Pair}
structure Sch (c d:Aa) (p0:Pair) (L:List Pair) (R:List (List Af)):Prop where
 len:L.length=R.length
 le:L.length<=300
 h0:p0∈L
 at_:∀ (j:Nat) (p:Pair) (r:List Af),L[j]?=some p->R[j]?=some r->Pth c d p0 r p/\r.length<=j
def Clk (c d:Aa) (L:List Pair) (i:Nat):Prop:=∀ (k:Nat) (p:Pair),k < i->L[k]?=some p->∀ x∈tld true p.Good,nxp c d p x∈L
def Stp (c d:Aa) (p0:Pair) (f:Ai) (e:Int):Prop:=(f=⟨[],[],false⟩/\e=12)\/∃ l p x,f=⟨[],l ++ [x],true⟩/\e=0/\Pth c d p0 l p/\x∈tld true p.Good/\dfr c d p x=some true/\l.length<=300
theorem Sch.mem {L:List Pair} {R:List (List Af)} (h:Sch c d p0 L R) {y:Pair} (hy:y∈L):∃ r,Pth c d p0 r y:=by
 obtain ⟨j,hj,rfl⟩:=JD.1 hy;have hj2:j < R.length:=by rw [← h.len];exact hj
 exact ⟨_,(h.at_ j _ _ (gE_ hj) (gE_ hj2)).1⟩
theorem Sch.push {L:List Pair} {R:List (List Af)} (h:Sch c d p0 L R) (hl:L.length < 300) {i:Nat} {r:List Af} {x:Af} (hi:L[i]?=some p) (hr:R[i]?=some r) (hx:x∈tld true p.Good) (hd:dfr c d p x=some false):Sch c d p0 (L ++ [nxp c d p x]) (R ++ [r ++ [x]]) where
 len:=by rw [ET,ET,h.len];rfl
 le:=by rw [ET,HB];omega
 h0:=FJ _ h.h0
 at_ j y t hy ht:=by
  have hil:=(EY.1 hi).1;obtain ⟨g1,g2⟩:=h.at_ i p r hi hr;rcases HS j L.length with hj | hj | hj
  ·rw [E5 hj] at hy;rw [E5 (by rw [← h.len];exact hj)] at ht;exact h.at_ j y t hy ht
  ·subst hj;rw [EV (FH _),HR] at hy;rw [h.len,EV (FH _),HR] at ht;obtain rfl:=Option.some.inj hy;obtain rfl:=Option.some.inj ht;refine ⟨g1.snoc hx hd,?_⟩;rw [ET,HB];omega
  ·rw [GC (by rw [ET,HB];omega)] at hy;cases hy
theorem Clk.push {L:List Pair} {i:Nat} (h:Clk c d L i) (hi:i<=L.length) {y:Pair}:Clk c d (L ++ [y]) i:=λk p hk hp x hx=>by
 rw [E5 om_] at hp;exact FJ _ (h k p hk hp x hx)
def Inn (c d:Aa) (p0:Pair) (i:Nat) (p:Pair) (r:List Af) (rem:List Af) (z:(Ai×Int×(List Pair)×(List (List Af)))×Nat):Prop:=
 z.2=0/\Sch c d p0 z.1.2.2.1 z.1.2.2.2/\z.1.2.2.1[i]?=some p/\z.1.2.2.2[i]?=some r/\Clk c d z.1.2.2.1 i/\∀ x∈tld true p.Good,x ∉ rem->nxp c d p x∈z.1.2.2.1
theorem DA (S:Srt c d q a w P) (h0:Okc c d q P p0) {z12:Ai×Int×(List Pair)×(List (List Af))×Int} {i:Nat} {r:List Af} (hz:z12.2.2.2.2=(i:Int)) {x:Af} {xs:List Af} {z:(Ai×Int×(List Pair)×(List (List Af)))×Nat} (hx:x∈tld true p.Good) (h:Inn c d p0 i p r (x :: xs) z) :
  ∃ t,Gi FF ⟨c,d⟩ 300 z12 x z=some t/\(t.1=true->Inn c d p0 i p r xs t.2)/\(t.1=false->t.2.2=1/\Stp c d p0 t.2.1.1 t.2.1.2.1):=by
 obtain ⟨⟨fd,e,L,R⟩,k⟩:=z;obtain ⟨hk,h1,h2,h3,h4,h5⟩:=h;dsimp only at hk h1 h2 h3 h4 h5;subst hk;obtain ⟨g1,g2⟩:=h1.at_ i p r h2 h3;have hil:=(EY.1 h2).1;have hle:=h1.le;have hok:=g1.ok S h0;obtain ⟨n1,n2⟩:=nx_ok S hok hx;have hmem:∀ {L':List Pair},(∀ y∈L,y∈L')->nxp c d p x∈L'->∀ y∈tld true p.Good,y ∉ xs->nxp c d p y∈L':=λhs hm y hy hny=>by
  by_cases hyx:y=x
  ·subst hyx;exact hm
  ·exact hs _ (h5 y hy (by rw [FG];exact λh=>h.elim hyx hny))
 unfold Gi;dsimp only;rw [hz,Ak,Ak,h2,h3,ob_,n1,ob_,ob_];dsimp only;rw [zf_,cf_];have hcl:m40 FF r=some r:=by
  unfold m40;rw [Aw so_];rfl
 rw [hcl,ob_,Aw so_,ob_];rw [show (bif (!((aft d p.Bad x).2 == 0)) then some true else (m21 FF ⟨c,d⟩ (nxp c d p x)).bind λx29=>some x29)=dfr c d p x from rfl];rcases n2 with n2 | ⟨n2,n3⟩
 ·rw [n2,ob_,ct_];refine ⟨_,rfl,λh=>(by cases h),λ_=>⟨rfl,.inr ⟨r,p,x,rfl,rfl,g1,hx,n2,by omega⟩⟩⟩
 ·rw [n2,ob_,cf_];obtain ⟨m,hm,hmm⟩:=m41_ok (L:=L) S.rc S.rd (n3.okp S) om_;rw [hm,ob_];by_cases hm0:0<=m
  ·rw [show decide (m>=0)=true by simpa using hm0,ct_];exact ⟨_,rfl,λ_=>⟨rfl,h1,h2,h3,h4,hmem (λ_ h=>h) (hmm hm0)⟩,λh=>(by cases h)⟩
  ·rw [show decide (m>=0)=false by simpa using hm0,cf_];by_cases hL:L.length=300
   ·rw [show ((L.length:Int) == 300)=true by rw [hL];rfl,ct_];exact ⟨_,rfl,λh=>(by cases h),λ_=>⟨rfl,.inl ⟨rfl,rfl⟩⟩⟩
   ·rw [show ((L.length:Int) == 300)=false by rw [beq_eq_false_iff_ne];omega,cf_,Aw so_,ob_,Aw (by have:=h1.len;simp;omega),ob_];refine ⟨_,rfl,λ_=>⟨rfl,h1.push om_ h2 h3 hx n2,?_,?_,h4.push om_,hmem (λ_ h=>FJ _ h) (FK _ (List.mem_singleton_self _))⟩,λh=>(by cases h)⟩
    ·show (L ++ [nxp c d p x])[i]?=_;rw [E5 hil];exact h2
    ·show (R ++ [r ++ [x]])[i]?=_;rw [E5 (by rw [← h1.len];exact hil)];exact h3
theorem Xj (S:Srt c d q a w P) (h0:Okc c d q P p0):∀ (n i:Nat) (fd:Ai) (e:Int) (L:List Pair) (R:List (List Af)),300 - i < n->i<=L.length->Sch c d p0 L R->Clk c d L i ->
  ∃ o,Rf FF ⟨c,d⟩ 300 n (fd,e,L,R,(i:Int))=some o/\((∃ fd' e' L' R' y,o=.brk (fd',e',L',R',y)/\Sch c d p0 L' R'/\Clk c d L' L'.length)\/∃ fd' e',o=.ret (fd',e')/\Stp c d p0 fd' e')
 | 0,i,_,_,_,_,h,_,_,_=>by omega
 | n + 1,i,fd,e,L,R,hn,hi,hS,hC=>by
  have hle:=hS.le;rw [Rf];dsimp only;by_cases hlt:i < L.length
  ·have hltR:i < R.length:=by rw [← hS.len];exact hlt
   have hp:=gE_ hlt;have hr:=gE_ hltR;have hok:=(hS.at_ i _ _ hp hr).1.ok S h0;have hkp:=hok.okp S;rw [Al,dt_ hlt,ct_,Ak,hp,ob_];show ∃ o,(m80 (Gi FF ⟨c,d⟩ 300 (fd,e,L,R,(i:Int))) FF ⟨c,d⟩ L[i] ((fd,e,L,R),0)).bind _=some o/\_;obtain ⟨t,ht,hI⟩:=CG (d:=d) (gy:=Gi FF ⟨c,d⟩ 300 (fd,e,L,R,(i:Int))) S.rc hkp.gf hkp.gq (I:=Inn c d p0 i L[i] R[i]) (O:=λz=>z.2=1/\Stp c d p0 z.1.1 z.1.2.1) (λx xs z hx hI=>DA S h0 rfl hx hI) (z:=((fd,e,L,R),0)) ⟨rfl,hS,hp,hr,hC,λx hx hn=>absurd hx hn⟩;rw [ht,ob_];rcases hI with ⟨k0,k1,k2,k3,k4,k5⟩ | ⟨k0,k1⟩
   ·rw [k0,show ((0:Nat) == 0)=true from rfl,ct_,Ao om_];have hil:=(EY.1 k2).1;refine Xj S h0 n (i + 1) _ _ _ _ om_ om_ k1 λk y hk hy x hx=>?_;by_cases hki:k < i
    ·exact k4 k y hki hy x hx
    ·obtain rfl:k=i:=by omega
     rw [k2] at hy;obtain rfl:=Option.some.inj hy;exact k5 x hx As
   ·rw [k0,show ((1:Nat) == 0)=false from rfl,cf_,show ((1:Nat) == 1)=true from rfl,ct_];exact ⟨_,rfl,.inr ⟨_,_,rfl,k1⟩⟩
  ·rw [Al,df_ hlt,cf_];obtain rfl:i=L.length:=by omega
   exact ⟨_,rfl,.inl ⟨_,_,_,_,_,rfl,hS,hC⟩⟩
end Go.Pn
namespace Go.Pn
open Go
section
variable {c d:Aa} {q:CasD} {a:Nat} {w:Bool} {P:Ad->Prop}
theorem str_ok (S:Srt c d q a w P) {u:Ad} {l:List Int} (h1:m42 FF c=some (u,0,l)) (hu:Ln c q u) :
  ∃ t b,m20 FF ⟨c,d⟩=some (⟨u,t⟩,b,0)/\((b=true/\∃ y,m21 FF ⟨c,d⟩ ⟨u,t⟩=some y/\(y=false->Okc c d q P ⟨u,t⟩))\/b=false):=by
 have h2:=Vj S.rd;unfold m20;dsimp only;rw [h1,ob_];dsimp only;rw [zf_,cf_];cases hr:rst d 65 (gates d (ini d)) with
 | none=>
  rw [hr] at h2;dsimp only at h2;rw [h2];exact ⟨_,_,rfl,.inr rfl⟩
 | some t=>
  rw [hr] at h2;obtain ⟨l2,h2,_⟩:=h2;rw [h2];have hf:=Dz (Pv S.rd.rt);obtain ⟨f1,_,f2⟩:=Xl hf hr;have hcs:Cst c q u:=.inr hu;obtain ⟨g1,g2⟩:=hcs.fq S.cp;obtain ⟨y,hy,hye⟩:=D7 S.rc S.rd (p:=⟨u,t⟩) ⟨g1,g2,f1,f2⟩;exact ⟨_,_,rfl,.inl ⟨rfl,y,hy,λh=>⟨hcs,f1,f2,Tc S.iv.r S.iv.k hf hr S.iv.i,hye h⟩⟩⟩
theorem seen_ok (S:Srt c d q a w P) (hA:q.A<=2) {u:Ad} {l:List Int} (h1:m42 FF c=some (u,0,l)) (hu:Ln c q u) {k:Nat} (hk:k < q.n) (ha:(a,w)∈q.S k) {v:Fault} (h18:m18 FF c v=some (⟨c,d⟩,0)) :
  (∃ r b,m9 FF c v 300=some (r,b,12))\/∃ r,m9 FF c v 300=some (r,true,0)/\m10 FF c v r=some ((r.length:Int),true,0):=by
 obtain ⟨t,b,h20,hb⟩:=str_ok S h1 hu;unfold m9;rw [h18,ob_];dsimp only;rw [zf_,cf_];have e10:∀ r:List Af,r.length<=1000->m10 FF c v r=((bif (!b) then some true else (m21 FF ⟨c,d⟩ ⟨u,t⟩).bind λx5=>some x5).bind λr6=>(bif r6 then some ((0:Int),true,(0:Int)) else ((Dw FF r (⟨c,d⟩,0) FF (0,b,(0:Int),⟨u,t⟩)).bind λo8=>match o8 with | .brk o8s=>some ((r.length:Int),false,(0:Int)) | .ret r=>some r))):=λr hr=>by
  unfold m10;rw [h18,ob_];dsimp only;rw [zf_,cf_,h20,ob_];dsimp only;rw [zf_,cf_,df_ om_,cf_];rfl
 unfold m19;rw [show (decide ((300:Int) < 1) || decide ((300:Int) > 16384))=false from rfl,cf_,h20,ob_];dsimp only;rw [zf_,cf_];have now:(bif (!b) then some true else (m21 FF ⟨c,d⟩ ⟨u,t⟩).bind λx5=>some x5)=some true->((bif (!b) then some true else (m21 FF ⟨c,d⟩ ⟨u,t⟩).bind λx5=>some x5).bind λr6=>(bif r6 then some ((0:Int),true,(0:Int)) else ((Dw FF [] (⟨c,d⟩,0) FF (0,b,(0:Int),⟨u,t⟩)).bind λo8=>match o8 with | .brk o8s=>some ((([]:List Af).length:Int),false,(0:Int)) | .ret r=>some r)))=some (0,true,0):=λh=>by
  rw [h];rfl
 rcases hb with ⟨rfl,y,hy,hyo⟩ | rfl
 ·cases y with
  | true=>
   have hn:(bif (!true) then some true else (m21 FF ⟨c,d⟩ ⟨u,t⟩).bind λx5=>some x5)=some true:=by rw [hy];rfl
   rw [hn];exact .inr ⟨[],rfl,(e10 [] As).trans (now hn)⟩
  | false=>
   have hn:(bif (!true) then some true else (m21 FF ⟨c,d⟩ ⟨u,t⟩).bind λx5=>some x5)=some false:=by rw [hy];rfl
   have h0:=hyo rfl;rw [hn,ob_,cf_];obtain ⟨o,ho,hh⟩:=Xj S h0 FF 0 ⟨[],[],false⟩ 0 [⟨u,t⟩] [[]] uF As ⟨rfl,by simp,List.mem_singleton_self _,λj p r hp hr=>by
    cases j with
    | zero=>
     obtain rfl:=Option.some.inj hp;obtain rfl:=Option.some.inj hr;exact ⟨.nil,by simp⟩
    | succ j=>cases hp⟩ (λk p hk=>by omega)
   rw [n0] at ho;rw [ho,ob_];rcases hh with ⟨_,_,L,R,_,rfl,hS,hC⟩ | ⟨fd,e,rfl,hS⟩
   ·exfalso;refine Ye S.cp S.sp S.tp hA (L.map λp=>(p.Good,p.Bad)) (λp hp=>?_) (λp hp x hx=>?_) S.iv (λp hp=>?_) hu (t0:=t) (FE.2 ⟨_,hS.h0,rfl⟩) hk ha
    ·obtain ⟨y,hy,rfl⟩:=FE.1 hp;obtain ⟨_,hr⟩:=hS.mem hy;exact (hr.ok S h0).e
    ·obtain ⟨y,hy,rfl⟩:=FE.1 hp;obtain ⟨j,hj,rfl⟩:=JD.1 hy;exact ⟨_,FE.2 ⟨_,hC j _ hj (gE_ hj) x hx,rfl⟩⟩
    ·obtain ⟨y,hy,rfl⟩:=FE.1 hp;obtain ⟨_,hr⟩:=hS.mem hy;exact (hr.ok S h0).pb
   ·rcases hS with ⟨rfl,rfl⟩ | ⟨l,p,x,rfl,rfl,g1,g2,g3,g4⟩
    ·exact .inl ⟨_,_,rfl⟩
    ·refine .inr ⟨l ++ [x],rfl,(e10 _ so_).trans ?_⟩;rw [hn,ob_,cf_,BZ S h0 g1 g2 g3 om_];rfl
 ·have hn:(bif (!false) then some true else (m21 FF ⟨c,d⟩ ⟨u,t⟩).bind λx5=>some x5)=some true:=rfl;exact .inr ⟨[],rfl,(e10 [] As).trans (now hn)⟩
end
open Csc
variable {s:Ah}
theorem few9 (s:Ah):∃ b,m11 FF s=some b:=by
 unfold m11;by_cases h:s.Steps.length > 128
 ·rw [dt_ (by omega:(s.Steps.length:Int) > 128),ct_];exact ⟨_,rfl⟩
 ·rw [df_ (by omega:¬ (s.Steps.length:Int) > 128),cf_];have h1:=Eh (L:=Nq s) (N:=s.Steps.length) (Q:=λi=>match s.Steps[i]? with | some x=>decide ((x.Strokes.length:Int) > 40) | none=>false) (r:=λ_=>false) (λn i hi=>by
   rw [Nq,Al,dt_ hi,ct_,Ak,gE_ hi,ob_,Ao om_]) (λn=>by
   rw [Nq,Al,df_ om_,cf_]) FF 0 om_ uF
  rw [n0] at h1;rcases h1 with ⟨_,_,_,_,h1⟩ | ⟨h1,_⟩ <;> rw [h1] <;> exact ⟨_,rfl⟩
theorem sq5_9 (h:Sq4 s) (hn:n s<=10) (hA:A s<=4):Sq5 s:=⟨h,by
 have h1:=h.G64;have h2:=Ob (s:=s) (k:=n s);rw [Et];omega⟩
theorem short9 (s:Ah):∃ b,m4 FF s 3=some b/\(b=true->Sq4 s/\n s<=3/\s.Actuators<=3):=by
 obtain ⟨b,hb⟩:=few9 s;obtain ⟨e,he,hst⟩:=C8 s;unfold m4;rw [hb,ob_];by_cases h:(s.Steps.length:Int)<=3/\s.Actuators<=3
 ·rw [dt_ h.1,dt_ h.2,GN,GN];cases b with
  | false=>exact ⟨false,rfl,λh=>by cases h⟩
  | true=>
   rw [ct_,he];refine ⟨_,rfl,λh0=>?_⟩;have h0:e=0:=by simpa using h0
   obtain ⟨h1,h2,h3⟩:=hst h0;exact ⟨⟨h1,h2,h3⟩,by have:=h.1;show s.Steps.length<=3;omega,h.2⟩
 ·have:(decide ((s.Steps.length:Int)<=3) && decide (s.Actuators<=3))=false:=by
   rw [← Bool.not_eq_true,E3,decide_eq_true_iff,decide_eq_true_iff];exact h
  rw [Bool.and_assoc,this,HD];exact ⟨false,rfl,λh=>by cases h⟩
theorem beg9 (h:Sq5 s):∃ u,m42 FF (cbl s)=some (u,0,[])/\Ln (cbl s) (dat s) u:=by
 have hc':=Xr h;have hc:=h.q.cas (N:=nmS) (i:=⟨#[115,116,97,114,116]⟩);have hs:=h.q.sq;have hb:=(h.q.ini (N:=nmS) (i:=⟨#[115,116,97,114,116]⟩) (Pv hc'.rt)).gates hc;have hR:=Ok hc hs;have hchf:(dat s).ch=false:=rfl;rw [ij_f hchf,Ti_f hchf] at hR;obtain ⟨u,g1,g2,g3⟩:=idle_ hc hs hb (by rw [ij_f hchf,Ti_f hchf];exact .fix hR.fM hR.fT hR.fn) om_;have h8:=Vj hc';rw [show rst (cbl s) 65 (gates (cbl s) (ini (cbl s)))=some u from g1] at h8;obtain ⟨l,h8,_,hl⟩:=h8;obtain rfl:=hl.eq (Cs.nil g3);exact ⟨u,h8,g2⟩
theorem Dq:m6 FF=some true:=by kernel_rfl
theorem Tx (s:Ah) (v:Fault):m3 FF s v=some true:=by
 obtain ⟨b,h4,hsh⟩:=short9 s;unfold m3;rw [h4,ob_];by_cases hb:b=true/\s.Actuators<=2
 case neg=>
  have:((!b) || decide (s.Actuators > 2))=true:=by
   cases b with
   | false=>rfl
   | true=>
    rw [GX,G7,decide_eq_true_iff];have:=hb;simp at this;omega
  rw [this,ct_,ob_,ct_,Dq];rfl
 obtain ⟨rfl,hA⟩:=hb;obtain ⟨hq,hn,_⟩:=hsh rfl;rw [show ((!true) || decide (s.Actuators > 2))=false by simp;omega,cf_];have h5:m5 FF v.Kind=some ((v.Kind == 2) || (v.Kind == 3)):=rfl;rw [h5,ob_,ob_];by_cases hk:v.Kind=2\/v.Kind=3
 ·rw [show ((v.Kind == 2) || (v.Kind == 3))=true by simpa using hk,ct_,Dq];rfl
 rw [show ((v.Kind == 2) || (v.Kind == 3))=false by simpa using hk,cf_];have hA2:A s<=2:=by have:=hq.Ac;omega
 have h:Sq5 s:=sq5_9 hq om_ om_;have hc:=Xr h;have hac:(cbl s).Actuators=s.Actuators:=rfl;rw [m7_spec h,ob_];dsimp only;rw [zf_,cf_];have h8:m8 FF (cbl s) v=m17 FF (cbl s) v:=by
  unfold m8;rw [hc.ck',ob_,zf_,cf_];cases m17 FF (cbl s) v <;> rfl
 rw [h8];unfold m17;by_cases g1:v.Kind < 0\/6<=v.Kind
 ·rw [show (decide (v.Kind < 0) || decide (v.Kind>=6))=true by simpa using g1,ct_,ob_,show ((1:Int) != 0)=true from rfl,ct_,Dq];rfl
 rw [show (decide (v.Kind < 0) || decide (v.Kind>=6))=false by simp;omega,cf_];by_cases g2:v.Index < 0
 ·rw [dt_ g2,ct_,ob_,ct_,ob_,show ((2:Int) != 0)=true from rfl,ct_,Dq];rfl
 rw [df_ g2,cf_];have h37:m37 FF (cbl s) v.Kind=some s.Actuators:=by
  unfold m37;rw [h5,ob_,show ((v.Kind == 2) || (v.Kind == 3))=false by simpa using hk,cf_,hac]
 rw [h37,ob_];by_cases g3:s.Actuators<=v.Index
 ·rw [show decide (v.Index>=s.Actuators)=true by simpa using g3,ob_,ct_,ob_,show ((2:Int) != 0)=true from rfl,ct_,Dq];rfl
 rw [show decide (v.Index>=s.Actuators)=false by simp;omega,ob_,cf_,ob_,zf_,cf_];obtain ⟨k,a,hK,ha,rfl⟩:∃ k a:Nat,Kst k/\a < A s/\v=⟨(k:Int),(a:Int)⟩:=by
  obtain ⟨kd,ix⟩:=v;dsimp only at hk g1 g2 g3;have:=hq.Ac;exact ⟨kd.toNat,ix.toNat,by unfold Kst; omega,by omega,by congr 1 <;> omega⟩
 rcases inj_ok h hK ha with ⟨z,h38⟩ | ⟨d,w,P,h38,hd,_,hI⟩
 ·have h9:m9 FF (cbl s) ⟨(k:Int),(a:Int)⟩ 300=some ([],false,12):=by
   unfold m9 m18;rw [h38];rfl
  rw [h9,ob_,show ((12:Int) == 12)=true from rfl,ct_,Dq];rfl
 ·have h18:m18 FF (cbl s) ⟨(k:Int),(a:Int)⟩=some (⟨cbl s,d⟩,0):=by
   unfold m18;rw [h38];rfl
  have S:Srt (cbl s) d (dat s) a w P:=⟨hc,hd,h.q.cas (N:=nmS) (i:=⟨#[115,116,97,114,116]⟩),h.q.sq,Sqc.tmp,hI⟩;obtain ⟨u,hu1,hu2⟩:=beg9 h;obtain ⟨j,hj,haj⟩:∃ j,j < (dat s).n/\(a,w)∈(dat s).S j:=by
   obtain ⟨j,hj⟩:=JN _ (at_ne h.q ha w);unfold CasD.at_ at hj;obtain ⟨h1,h2⟩:=G2.1 hj;exact ⟨j,E4.1 h1,of_decide_eq_true h2⟩
  rcases seen_ok S hA2 hu1 hu2 hj haj h18 with ⟨r,b,h9⟩ | ⟨r,h9,h10⟩
  ·rw [h9,ob_,show ((12:Int) == 12)=true from rfl,ct_,Dq];rfl
  ·rw [h9,ob_];dsimp only;rw [show ((0:Int) == 12)=false from rfl,cf_,h10,ob_];dsimp only;rw [show ((0:Int) == 0)=true from rfl,show ((r.length:Int) == (r.length:Int))=true by simp,GN,GN,GN,GN,ct_,Dq];rfl
end Go.Pn

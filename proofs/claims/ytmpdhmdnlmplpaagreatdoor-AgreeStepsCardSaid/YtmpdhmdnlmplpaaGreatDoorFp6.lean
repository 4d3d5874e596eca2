import Derived.Test.YtmpdhmdnlmplpaaGreatDoorFp5
set_option synthInstance.checkSynthOrder false
set_option synthInstance.maxSize 10000
set_option synthInstance.maxHeartbeats 400000
set_option maxRecDepth 100000
set_option maxHeartbeats 4000000
set_option linter.unusedVariables false
set_option linter.unusedSimpArgs false
set_option linter.defProp false
namespace Go.Pn
open Go
theorem AS {α β:Type} {L:Nat->Int->Option (Lo Int β)} {xs:List α} {p:Int->α->Option Bool} {q:α->Bool} {r:Int->β}
  (h:∀ n z,L (n + 1) z=(bif decide (z < (xs.length:Int)) then (idx xs z).bind λx=>(p z x).bind λb=>bif b then some (.ret (r z)) else L n (wr (z + 1)) else some (.brk z)))
  (hl:xs.length < 4611686018427387904) (hq:∀ (i:Nat) x,xs[i]?=some x->p i x=some (q x)) :
  ∀ (n i:Nat),i<=xs.length->xs.length - i < n->L n i=match (xs.drop i).findIdx? q with
   | some j=>some (.ret (r ((i + j:Nat):Int)))
   | none=>some (.brk (xs.length:Int))
 | 0,i,_,h=>by omega
 | n + 1,i,h1,h2=>by
  rw [h];by_cases hi:i < xs.length
  ·have hx:xs[i]?=some xs[i]:=gE_ hi;rw [Aj,dt_ hi,ct_,Ai,hx,ob_,hq i _ hx,ob_,GG hi,Wk];cases q xs[i] with
   | true=>rfl
   | false=>
    rw [cf_,Am om_,AS h hl hq n (i + 1) om_ om_,if_neg smp_];cases (xs.drop (i + 1)).findIdx? q with
    | none=>rfl
    | some j=>
     show some (Lo.ret (r ((i + 1 + j:Nat):Int)))=some (Lo.ret (r ((i + (j + 1):Nat):Int)));rw [show i + 1 + j=i + (j + 1) by omega]
  ·rw [Aj,df_ hi,cf_,GT om_];have:i=xs.length:=by omega
   subst this;rfl
theorem eqls {α:Type} [BEq α] [LawfulBEq α] {L:Nat->Int->Option (Lo Int Bool)} {xs ys:List α}
  (h:∀ n z,L (n + 1) z=(bif decide (z < (xs.length:Int)) then (idx xs z).bind λx=>(idx ys z).bind λy=>bif x != y then some (.ret false) else L n (wr (z + 1)) else some (.brk z)))
  (hl:xs.length < 4611686018427387904) (he:xs.length=ys.length) :
  ∀ (n i:Nat),i<=xs.length->xs.length - i < n->L n i=if xs.drop i == ys.drop i then some (.brk (xs.length:Int)) else some (.ret false)
 | 0,i,_,h=>by omega
 | n + 1,i,h1,h2=>by
  rw [h];by_cases hi:i < xs.length
  ·have hi2:i < ys.length:=by omega
   rw [Aj,dt_ hi,ct_,Ai,gE_ hi,ob_,Ai,gE_ hi2,ob_,GG hi,GG hi2];by_cases hx:xs[i]=ys[i]
   ·rw [show (xs[i] != ys[i])=false by simp [hx],cf_,Am om_,eqls h hl he n (i + 1) om_ om_];rw [List.cons_beq_cons,show (xs[i] == ys[i])=true by simpa using hx,HY]
   ·rw [show (xs[i] != ys[i])=true by simp [hx],ct_];simp [hx]
  ·rw [Aj,df_ hi,cf_,GT om_,GT om_];have:i=xs.length:=by omega
   subst this;simp
theorem DD {α:Type} [BEq α] [LawfulBEq α] {L:Nat->Int->Option (Lo Int Bool)} {xs ys:List α} {f:Nat}
  (h:∀ n z,L (n + 1) z=(bif decide (z < (xs.length:Int)) then (idx xs z).bind λx=>(idx ys z).bind λy=>bif x != y then some (.ret false) else L n (wr (z + 1)) else some (.brk z)))
  (hl:xs.length < 4611686018427387904) (hf:xs.length < f) :
  (bif ((xs.length:Int) != (ys.length:Int)) then some false else ((L f (0:Int)).bind λo2=>match o2 with | .brk o2s=>some true | .ret r=>some r))=some (xs == ys):=by
 by_cases he:xs.length=ys.length
 ·rw [show ((xs.length:Int) != (ys.length:Int))=false by simp [he],cf_];have:=eqls h hl he f 0 om_ om_;have h0:((0:Nat):Int)=0:=rfl;rw [h0,GL,GL] at this;rw [this];cases xs == ys <;> rfl
 ·rw [show ((xs.length:Int) != (ys.length:Int))=true by simp;omega,ct_];have:xs≠ys:=λe=>he (by rw [e]);rw [show (xs == ys)=false by simpa using this]
theorem Yt {f:Nat} {xs ys:L6} (hl:xs.length < 4611686018427387904) (hf:xs.length < f):m24 f xs ys=some (xs == ys):=by
 unfold m24;exact DD (L:=Yu xs ys) (λ_ _=>rfl) hl hf
theorem Oi {f:Nat} {xs ys:L7} (hl:xs.length < 4611686018427387904) (hf:xs.length < f):QD f xs ys=some (xs == ys):=by
 unfold QD;exact DD (L:=Ta xs ys) (λ_ _=>rfl) hl hf
theorem Vy {f:Nat} {xs ys:L6} (hl:xs.length < 4611686018427387904) (hf:xs.length < f):MJ f xs ys=some (xs == ys):=by
 unfold MJ;exact DD (L:=Tc xs ys) (λ_ _=>rfl) hl hf
theorem Ou {f:Nat} {xs ys:L7} (hl:xs.length < 4611686018427387904) (hf:xs.length < f):ML f xs ys=some (xs == ys):=by
 unfold ML;exact DD (L:=Tb xs ys) (λ_ _=>rfl) hl hf
def sst (a b:Ac):Bool:=(a.Ends == b.Ends) && (a.Valves == b.Valves) && (a.Inputs == b.Inputs) && (a.Values == b.Values) && (a.Timers == b.Timers)
theorem Gw {a b:Ac}:sst a b=true↔a=b:=by
 cases a;cases b
 simp [sst,and_assoc]
theorem Sa {a b:Ac}:sst a b=sst b a:=by
 rw [HU,Gw,Gw];exact eq_comm
theorem Xn (a:Ac):sst a a=true:=Gw.2 rfl
structure Smst (s:Ac) (n:Nat):Prop where
 e:s.Ends.length<=n
 v:s.Valves.length<=n
 i:s.Inputs.length<=n
 x:s.Values.length<=n
 t:s.Timers.length<=n
theorem Ok {f n:Nat} {a b:Ac} (h:Smst a n) (hn:n < f) (hn2:n < 4611686018427387904):QE f a b=some (sst a b):=by
 obtain ⟨h1,h2,h3,h4,h5⟩:=h;unfold QE sst;rw [Yt om_ om_,Oi om_ om_,Oi om_ om_,Oi om_ om_,Yt om_ om_];cases a.Ends == b.Ends <;> cases a.Valves == b.Valves <;> cases a.Inputs == b.Inputs <;> cases a.Values == b.Values <;> cases a.Timers == b.Timers <;> rfl
theorem Pi {f n:Nat} {a b:Ac} (h:Smst a n) (hn:n < f) (hn2:n < 4611686018427387904):MM f a b=some (sst a b):=by
 obtain ⟨h1,h2,h3,h4,h5⟩:=h;unfold MM sst;rw [Vy om_ om_,Ou om_ om_,Ou om_ om_,Ou om_ om_,Vy om_ om_];cases a.Ends == b.Ends <;> cases a.Valves == b.Valves <;> cases a.Inputs == b.Inputs <;> cases a.Values == b.Values <;> cases a.Timers == b.Timers <;> rfl
def plc (l:List Ac) (s:Ac):Int:=match l.findIdx? (λx=>sst s x) with | some j=>(j:Int) | none=>-1
theorem EN {f n:Nat} {l:List Ac} {s:Ac} (h:∀ x∈l,Smst x n) (hn:n < f) (hn2:n < 4611686018427387904) (hl:l.length < f) (hl2:l.length < 4611686018427387904):m67 f l s=some (plc l s):=by
 unfold m67 plc;have h1:=AS (L:=Yj f l s) (xs:=l) (p:=λ_ x=>MM f x s) (q:=λx=>sst s x) (r:=λz=>z) (λ_ _=>rfl) om_ (λi x hx=>by
  rw [Pi (h x (GM hx)) hn hn2,Sa]) f 0 om_ om_
 have h0:((0:Nat):Int)=0:=rfl;rw [h0,GL] at h1;rw [h1];cases l.findIdx? (λx=>sst s x) with
 | none=>rfl
 | some j=>show some (((0 + j:Nat)):Int)=_;rw [JA]
theorem Qu:∀ {a b:L6},a.Pairwise (· < ·)->b.Pairwise (· < ·)->(∀ k,k∈a↔k∈b)->a=b
 | [],[],_,_,_=>rfl
 | [],y :: b,_,_,h=>absurd ((h y).2 smp_) smp_
 | x :: a,[],_,_,h=>absurd ((h x).1 smp_) smp_
 | x :: a,y :: b,ha,hb,h=>by
  obtain ⟨ha1,ha2⟩:=HM.1 ha;obtain ⟨hb1,hb2⟩:=HM.1 hb;have hxy:x=y:=by
   rcases GK.1 ((h x).1 smp_) with e | e
   ·exact e
   ·rcases GK.1 ((h y).2 smp_) with e2 | e2
    ·exact e2.symm
    ·have:=hb1 x e;have:=ha1 y e2;omega
  subst hxy;rw [Qu ha2 hb2 λk=>⟨λhk=>?_,λhk=>?_⟩]
  ·rcases GK.1 ((h k).1 (by simp [hk])) with e | e
   ·subst e;have:=ha1 k hk;omega
   ·exact e
  ·rcases GK.1 ((h k).2 (by simp [hk])) with e | e
   ·subst e;have:=hb1 k hk;omega
   ·exact e
end Go.Pn
namespace Go.Pn
open Go
theorem cs_ {α:Type} {c:Bool} {a b:α}:(bif c then some a else some b)=some (bif c then a else b):=by cases c <;> rfl
theorem n0:((0:Nat):Int)=0:=rfl
def szd:Nat->Expr->Nat
 | 0,_=>0
 | d + 1,x=>1 + (x.Args.map (szd d)).sum
def Szb (x:Expr) (n:Nat):Prop:=∀ d,szd d x<=n
def dp:Nat->Expr->Prop
 | 0,_=>False
 | d + 1,x=>x.Args.length<=256/\∀ y∈x.Args,dp d y
theorem FL:∀ {l:L8} {n:Nat},n∈l->n<=l.sum
 | a :: l,n,h=>by
  rw [List.sum_cons];rcases GK.1 h with rfl | h
  ·omega
  ·have:=FL h;omega
theorem Szb.arg {x y:Expr} {n:Nat} (h:Szb x n) (hy:y∈x.Args):Szb y n:=λd=>by
 have h1:=h (d + 1);have h2:=FL (H2.2 ⟨y,hy,rfl⟩:szd d y∈x.Args.map (szd d));unfold szd at h1;omega
theorem Xm:∀ {l:List Expr},l.length<=(l.map (szd 1)).sum
 | []=>by simp
 | x :: l=>by
  have:=Xm (l:=l);have h1:1<=szd 1 x:=by unfold szd;omega
  simp only [GQ,List.sum_cons,JM];omega
theorem D0 {d:Nat} {x:Expr}:szd (d + 1) x=1 + (x.Args.map (szd d)).sum:=rfl
theorem Szb.len {x:Expr} {n:Nat} (h:Szb x n):x.Args.length < n:=by
 have h1:=h 2;rw [D0] at h1;have:=Xm (l:=x.Args);omega
theorem Xl {l:L8} {i:Nat} (h:i < l.length):(l.take (i + 1)).sum=(l.take i).sum + l[i]:=by
 rw [JY,gE_ h,List.sum_append];simp
theorem CQ:∀ (k f:Nat) (x:Expr),k<=256->k + 300<=f->∃ r:Nat,NS f x k=some (r:Int)/\1<=r/\r<=k + 1/\(r<=k->Szb x r):=by
 intro k
 induction k using Nat.strongRecOn with
 | ind k ih=>
  intro f x hk hf;obtain ⟨f,rfl⟩:∃ f',f=f' + 1:=⟨f - 1,by omega⟩;have loop:∀ (n i z:Nat),i<=x.Args.length->i + 1<=z->z<=k + 1->k + 1 - z < n->(z<=k->∀ d,1 + ((x.Args.map (szd d)).take i).sum<=z) ->
    ∃ r e:Nat,Ox (NS f) x k n ((z:Int),(i:Int))=some ((r:Int),(e:Int))/\1<=r/\r<=k + 1/\(r<=k->Szb x r):=by
   intro n
   induction n with
   | zero=>intro i z _ _ _ h;omega
   | succ n ihn=>
    intro i z hi hz1 hz2 hn hs;unfold Ox;dsimp only;rw [Aj];have hle:decide ((z:Int)<=(k:Int))=decide (z<=k):=by simp
    rw [hle];by_cases h1:i < x.Args.length
    ·by_cases h2:z<=k
     ·rw [dt_ h1,dt_ h2,LD,ct_,Ai,gE_ h1,ob_,As om_ om_];obtain ⟨r,hr,hr1,hr2,hr3⟩:=ih (k - z) om_ f x.Args[i] om_ om_;rw [show (k:Int) - (z:Int)=((k - z:Nat):Int) by omega,hr,ob_,As om_ om_,show wr ((i:Int) + 1)=((i + 1:Nat):Int) from Am om_];rw [show (z:Int) + (r:Int)=((z + r:Nat):Int) by omega];refine ihn (i + 1) (z + r) om_ om_ om_ om_ λhle d=>?_;rw [Xl (by simpa using h1)];have h5:=hs h2 d;have h6:=hr3 om_ d;simp only [List.getElem_map];omega
     ·rw [df_ h2,K8,cf_];exact ⟨z,i,rfl,by omega,hz2,λh=>absurd h h2⟩
    ·rw [df_ h1,JC,cf_];refine ⟨z,i,rfl,by omega,hz2,λh d=>?_⟩;cases d with
     | zero=>unfold szd;omega
     | succ d=>
      have:=hs h d;rw [HG so_] at this;unfold szd;omega
  unfold NS;obtain ⟨r,e,h1,h2⟩:=loop f 0 1 om_ om_ om_ om_ (λ_ d=>by simp);have e1:((1:Nat):Int)=1:=rfl;rw [n0,e1] at h1;rw [h1];exact ⟨r,rfl,h2⟩
theorem Wa:∀ (k f:Nat) (x:Expr),Szb x 256->k<=256->k + 300<=f->∃ b,NT f x k=some b/\(b=true->dp k x)
 | 0,f,x,_,_,hf=>by
  obtain ⟨f,rfl⟩:∃ f',f=f' + 1:=⟨f - 1,by omega⟩;exact ⟨false,rfl,by simp⟩
 | k + 1,f,x,hs,hk,hf=>by
  obtain ⟨f,rfl⟩:∃ f',f=f' + 1:=⟨f - 1,by omega⟩;have hl:=hs.len;unfold NT;rw [show decide (((k + 1:Nat):Int) < 1)=false by simp;omega,cf_];by_cases h1:k=0
  ·subst h1;rw [show ((((0 + 1:Nat):Int)) == 1)=true by simp,ct_];refine ⟨_,rfl,λh=>⟨by omega,λy hy=>?_⟩⟩;have:x.Args.length=0:=by simpa using h
   rw [HX this] at hy;simp at hy
  ·rw [show ((((k + 1:Nat):Int)) == 1)=false by simp;omega,cf_];have loop:∀ (n i:Nat),i<=x.Args.length->x.Args.length - i < n ->
     Kv (NT f) x ((k + 1:Nat):Int) n (i:Int)=some (.ret false)\/((∃ e,Kv (NT f) x ((k + 1:Nat):Int) n (i:Int)=some (.brk e))/\∀ y∈x.Args.drop i,dp k y):=by
    intro n
    induction n with
    | zero=>intro i _ h;omega
    | succ n ihn=>
     intro i hi hn;unfold Kv;by_cases h2:i < x.Args.length
     ·rw [Aj,dt_ h2,ct_,Ai,gE_ h2,ob_,As om_ om_,show ((k + 1:Nat):Int) - 1=(k:Int) by omega];obtain ⟨b,hb,hb2⟩:=Wa k f x.Args[i] (hs.arg (GF h2)) om_ om_;rw [hb,ob_];cases b with
      | false=>exact .inl rfl
      | true=>
       rw [nt_,cf_,Am om_];rcases ihn (i + 1) om_ om_ with h | ⟨h,h3⟩
       ·exact .inl h
       ·refine .inr ⟨h,?_⟩;rw [GG h2];exact λy hy=>(GK.1 hy).elim (λe=>e ▸ hb2 rfl) (h3 y)
     ·rw [Aj,df_ h2,cf_];refine .inr ⟨⟨_,rfl⟩,?_⟩;rw [GT om_];simp
   have h0:((0:Nat):Int)=0:=rfl;rcases loop f 0 om_ om_ with h | ⟨⟨e,h⟩,h3⟩
   ·rw [h0] at h;rw [h];exact ⟨false,rfl,by simp⟩
   ·rw [h0] at h;rw [h];exact ⟨true,rfl,λ_=>⟨by omega,by simpa using h3⟩⟩
structure Lt_ (x:Expr):Prop where
 sz:Szb x 256
 dp:dp 16 x
theorem Jj {f:Nat} (hf:600<=f) (x:Expr):∃ b,NU f x=some b/\(b=true->Lt_ x):=by
 unfold NU;obtain ⟨r,hr,hr1,hr2,hr3⟩:=CQ 256 f x om_ om_;rw [show (256:Int)=((256:Nat):Int) from rfl,hr,ob_];by_cases h:r<=256
 ·rw [show decide ((r:Int)<=((256:Nat):Int))=true by simpa using (by omega:(r:Int)<=256),ct_];have hs:Szb x 256:=λd=>G3 (hr3 h d) h;obtain ⟨b,hb,hb2⟩:=Wa 16 f x hs om_ om_;rw [show (16:Int)=((16:Nat):Int) from rfl,hb];exact ⟨b,rfl,λh=>⟨hs,hb2 h⟩⟩
 ·rw [show decide ((r:Int)<=((256:Nat):Int))=false by simpa using (by omega:¬ (r:Int)<=256),cf_];exact ⟨false,rfl,by simp⟩
def nod (n:Int) (v0:Expr):Int:=bif ((decide ((v0).Op < 0)) || (decide ((v0).Op>=(5:Int)))) then (1:Int) else (bif ((((decide ((v0).Op<=(1:Int))) && ((((v0).Args).length:Int) != 0)) || (((v0).Op == 2) && ((((v0).Args).length:Int) != 1))) || ((decide ((v0).Op>=(3:Int))) && (decide ((((v0).Args).length:Int) < 2)))) then (3:Int) else (bif ((decide ((v0).Index < 0)) || (decide ((v0).Index>=(bif ((v0).Op == 1) then n else bif ((v0).Op == 0) then (2:Int) else (1:Int))))) then (2:Int) else (0:Int)))
theorem BU (f:Nat) (x:Expr) (n:Int):NQ f x n=some (nod n x):=by
 unfold NQ nod;simp only [cs_,ob_]
theorem Hy {n:Int} {x:Expr} (h:nod n x=0):0<=x.Op/\x.Op < 5/\(x.Op<=1->x.Args=[])/\(x.Op=2->x.Args.length=1)/\(3<=x.Op->2<=x.Args.length)/\0<=x.Index/\(x.Op=1->x.Index < n):=by
 unfold nod at h;cases h1:((decide ((x).Op < 0)) || (decide ((x).Op>=(5:Int)))) with
 | true=>rw [h1] at h;cases h
 | false=>
  rw [h1,cf_] at h;cases h2:((((decide ((x).Op<=(1:Int))) && ((((x).Args).length:Int) != 0)) || (((x).Op == 2) && ((((x).Args).length:Int) != 1))) || ((decide ((x).Op>=(3:Int))) && (decide ((((x).Args).length:Int) < 2)))) with
  | true=>rw [h2] at h;cases h
  | false=>
   rw [h2,cf_] at h;cases h3:((decide ((x).Index < 0)) || (decide ((x).Index>=(bif ((x).Op == 1) then n else bif ((x).Op == 0) then (2:Int) else (1:Int))))) with
   | true=>rw [h3] at h;cases h
   | false=>
    simp only [JZ,J9,decide_eq_false_iff_not,bne_eq_false_iff_eq,beq_eq_false_iff_ne,ne_eq] at h1 h2 h3;obtain ⟨h1a,h1b⟩:=h1;obtain ⟨⟨h2a,h2b⟩,h2c⟩:=h2;obtain ⟨h3a,h3b⟩:=h3;refine ⟨by omega,by omega,λh=>?_,λh=>?_,λh=>?_,by omega,λh=>?_⟩
    ·refine HX ?_;rcases h2a with h4 | h4 <;> omega
    ·rcases h2b with h4 | h4 <;> omega
    ·rcases h2c with h4 | h4 <;> omega
    ·rw [h] at h3b;simp at h3b;omega
def fnz:L6->Int
 | []=>0
 | a :: l=>if a=0 then fnz l else a
theorem Zj:∀ {l:L6},fnz l=0->∀ a∈l,a=0
 | a :: l,h,b,hb=>by
  unfold fnz at h;split at h
  ·rename_i h0;rcases GK.1 hb with rfl | hb
   ·exact h0
   ·exact Zj h b hb
  ·contradiction
def chE:Nat->Int->Expr->Int
 | 0,_,_=>0
 | d + 1,n,x=>if nod n x=0 then fnz (x.Args.map (chE d n)) else nod n x
def okE:Nat->Int->Expr->Prop
 | 0,_,_=>False
 | d + 1,n,x=>nod n x=0/\x.Args.length<=256/\∀ y∈x.Args,okE d n y
theorem okE.of:∀ {d:Nat} {n:Int} {x:Expr},dp d x->chE d n x=0->okE d n x
 | 0,_,_,h,_=>h
 | d + 1,n,x,h,hc=>by
  unfold chE at hc;split at hc
  ·rename_i h0;refine ⟨h0,h.1,λy hy=>okE.of (h.2 y hy) (Zj hc _ (H2.2 ⟨y,hy,rfl⟩))⟩
  ·contradiction
theorem fnzl {α:Type} {L:Nat->Int->Option (Lo Int Int)} {xs:List α} {p:Int->α->Option Int} {q:α->Int}
  (h:∀ n z,L (n + 1) z=(bif decide (z < (xs.length:Int)) then (idx xs z).bind λx=>(p z x).bind λb=>bif b != 0 then some (.ret b) else L n (wr (z + 1)) else some (.brk z)))
  (hl:xs.length < 4611686018427387904) (hq:∀ (i:Nat) x,xs[i]?=some x->p i x=some (q x)) :
  ∀ (n i:Nat),i<=xs.length->xs.length - i < n->L n i=if fnz ((xs.drop i).map q)=0 then some (.brk (xs.length:Int)) else some (.ret (fnz ((xs.drop i).map q)))
 | 0,i,_,h=>by omega
 | n + 1,i,h1,h2=>by
  rw [h];by_cases hi:i < xs.length
  ·have hx:xs[i]?=some xs[i]:=gE_ hi;rw [Aj,dt_ hi,ct_,Ai,hx,ob_,hq i _ hx,ob_,GG hi,GQ];unfold fnz;by_cases h0:q xs[i]=0
   ·rw [h0,if_pos rfl,zf_,cf_,Am om_,fnzl h hl hq n (i + 1) om_ om_]
   ·rw [if_neg h0,show (q xs[i] != 0)=true by simpa using h0,ct_,if_neg h0]
  ·rw [Aj,df_ hi,cf_,GT om_];have:i=xs.length:=by omega
   subst this;rfl
theorem fnzl0 {α:Type} {L:Nat->Int->Option (Lo Int Int)} {xs:List α} {p:Int->α->Option Int} {q:α->Int} {f:Nat}
  (h:∀ n z,L (n + 1) z=(bif decide (z < (xs.length:Int)) then (idx xs z).bind λx=>(p z x).bind λb=>bif b != 0 then some (.ret b) else L n (wr (z + 1)) else some (.brk z)))
  (hl:xs.length < 4611686018427387904) (hf:xs.length < f) (hq:∀ (i:Nat) x,xs[i]?=some x->p i x=some (q x)) :
  L f (0:Int)=if fnz (xs.map q)=0 then some (.brk (xs.length:Int)) else some (.ret (fnz (xs.map q))):=by
 have:=fnzl h hl hq f 0 om_ om_;rw [n0,GL] at this;exact this
theorem Vg:∀ (d f:Nat) (n:Int) (x:Expr),dp d x->d + 300<=f->NR f x n=some (chE d n x)
 | 0,_,_,_,h,_=>h.elim
 | d + 1,f,n,x,h,hf=>by
  obtain ⟨f,rfl⟩:∃ f',f=f' + 1:=⟨f - 1,by omega⟩;unfold NR chE;rw [BU,ob_];by_cases h0:nod n x=0
  ·rw [h0,if_pos rfl,zf_,cf_];have hl:=h.1;rw [fnzl0 (L:=Sz (NR f) x n) (xs:=x.Args) (p:=λ_ y=>NR f y n) (q:=chE d n) (λ_ _=>rfl) om_ om_ (λi y hy=>Vg d f n y (h.2 y (GM hy)) om_)];split
   ·rename_i h1;rw [h1];rfl
   ·rfl
  ·rw [if_neg h0,show (nod n x != 0)=true by simpa using h0,ct_]
theorem Vk {f:Nat} {n:Int} {x:Expr} (hx:Lt_ x) (hm:NU f x=some true) (hn:0<=n) (hn2:n<=256) (hf:600<=f):NW f x n=some (chE 16 n x):=by
 unfold NW;rw [df_ om_,df_ om_,J6,cf_,hm,ob_,nt_,cf_,Vg 16 f n x hx.dp om_,ob_]
theorem BW {f:Nat} {n:Int} {x:Expr} (hn:0<=n) (hn2:n<=256) (hl:x.Args.length<=256):OW f x n=some (nod n x):=by
 unfold OW nod;by_cases h1:x.Op < 0\/5<=x.Op
 ·have:((decide ((x).Op < 0)) || (decide ((x).Op>=(5:Int))))=true:=by simpa using h1
  rw [this];rfl
 ·have:((decide ((x).Op < 0)) || (decide ((x).Op>=(5:Int))))=false:=by simp;omega
  rw [this,cf_,cf_];unfold OU OS;simp only [ob_,cs_];rw [As om_ om_];have hl1:∀ b:Bool,(bif decide (0 < x.Args.length) then (3:Int) else bif b then 2 else 0)=(bif (x.Args.length:Int) != 0 then 3 else bif b then 2 else 0):=λb=>by
   have:decide (0 < x.Args.length)=((x.Args.length:Int) != 0):=by
    rcases KN x.Args.length with h | h
    ·rw [h];rfl
    ·rw [dt_ h];symm;rw [bne_iff_ne];omega
   rw [this]
  have key:(x.Index > n - 1)↔(x.Index>=n):=by omega
  have k1:(x.Index > 1)↔(x.Index>=2):=by omega
  have k0:(x.Index > 0)↔(x.Index>=1):=by omega
  have hop:x.Op=0\/x.Op=1\/x.Op=2\/x.Op=3\/x.Op=4:=by omega
  have e0:decide ((x.Args.length:Int) < 0)=false:=by simp
  have e1:decide ((x.Args.length:Int) > 256)=false:=by simp;omega
  have e3:(decide ((x.Args.length:Int) < 1) || decide ((x.Args.length:Int) > 1))=((x.Args.length:Int) != 1):=by
   rw [HU];simp;omega
  rcases hop with h | h | h | h | h <;> rw [h]
  ·simp only [show idx (List.range 5) 0=some 0 by rfl,ob_];simp [e0,k1];exact hl1 _
  ·simp only [show idx (List.range 5) 1=some 1 by rfl,ob_];simp [e0,key];exact hl1 _
  ·simp only [show idx (List.range 5) 2=some 2 by rfl,ob_];simp [e3,k0]
  ·simp only [show idx (List.range 5) 3=some 3 by rfl,ob_];simp [e1,k0]
  ·simp only [show idx (List.range 5) 4=some 4 by rfl,ob_];simp [e1,k0]
theorem Rm:∀ (d f:Nat) (x:Expr) (k:Int) (cnt:Nat) (mx:Int),dp d x->1<=k->k + d<=17->cnt + szd d x<=256->d + 300<=f ->
  ∃ mx',OL Ec f x k (((cnt:Int),mx),0)=some (true,((((cnt + szd d x:Nat):Int),mx'),0))
 | 0,_,_,_,_,_,h,_,_,_,_=>h.elim
 | d + 1,f,x,k,cnt,mx,h,hk,hkd,hc,hf=>by
  obtain ⟨f,rfl⟩:∃ f',f=f' + 1:=⟨f - 1,by omega⟩;have hl:=h.1;have hsz:szd (d + 1) x=1 + (x.Args.map (szd d)).sum:=by rw [szd]
  have hr1:Ec (k,x) (((cnt:Int),mx),0)=some (true,((((cnt + 1:Nat):Int),(if k > mx then k else mx)),0)):=by
   unfold Ec;dsimp only;rw [Am om_,show (decide (((cnt + 1:Nat):Int) > 256) || decide (k > 16))=false by simp;omega,cf_]
  unfold OL;rw [hr1,ob_];dsimp only;rw [nt_,cf_];have loop:∀ (n i:Nat) (mx:Int),i<=x.Args.length->x.Args.length - i < n ->
    ∃ e mx',Ev (OL Ec f) x k n ((i:Int),(((cnt + 1 + ((x.Args.map (szd d)).take i).sum:Nat):Int),mx),0)=some (.brk (e,((((cnt + szd (d + 1) x:Nat):Int),mx'),0))):=by
   intro n
   induction n with
   | zero=>intro i _ _ h;omega
   | succ n ihn=>
    intro i mx hi hn;unfold Ev;dsimp only;by_cases h2:i < x.Args.length
    ·rw [Aj,dt_ h2,ct_,Ai,gE_ h2,ob_,show decide (k<=16)=true by simp;omega,ct_,As om_ om_];have hst:=Xl (l:=x.Args.map (szd d)) (i:=i) (by simpa using h2);have hle:((x.Args.map (szd d)).take (i + 1)).sum<=(x.Args.map (szd d)).sum:=by
      conv=>rhs;rw [← LP (i + 1) (x.Args.map (szd d))]
      rw [List.sum_append];omega
     simp only [List.getElem_map] at hst;obtain ⟨mx',h3⟩:=Rm d f x.Args[i] (k + 1) (cnt + 1 + ((x.Args.map (szd d)).take i).sum) mx (h.2 _ (GF h2)) om_ om_ om_ om_;rw [h3,ob_,ct_];dsimp only;rw [nt_,cf_,Am om_,show cnt + 1 + ((x.Args.map (szd d)).take i).sum + szd d x.Args[i]=cnt + 1 + ((x.Args.map (szd d)).take (i + 1)).sum by omega];exact ihn (i + 1) mx' om_ om_
    ·rw [Aj,df_ h2,cf_];rw [HG so_];exact ⟨_,mx,by rw [show cnt + 1 + (x.Args.map (szd d)).sum=cnt + szd (d + 1) x by omega]⟩
  obtain ⟨e,mx',h3⟩:=loop f 0 (if k > mx then k else mx) om_ om_
  rw [n0,KP,List.sum_nil,J0] at h3;rw [h3];exact ⟨mx',rfl⟩
theorem BX {f:Nat} {x:Expr} (hx:Lt_ x) (hf:600<=f):∃ a b,OP f x=some (a,b,true):=by
 unfold OP OJ ON;have h1:=hx.sz 16;obtain ⟨mx,h⟩:=Rm 16 f x 1 0 0 hx.dp om_ om_ om_ om_;rw [n0] at h;rw [ob_,h];exact ⟨_,_,rfl⟩
theorem Rl {F:Nat} {m:Int} (hm:0<=m) (hm2:m<=256):∀ (d f:Nat) (x:Expr) (k z:Int),dp d x->1<=k->k + d<=17->d + 300<=f ->
  OL (Ee F m) f x k (z,0)=some (if chE d m x=0 then (true,(z,0)) else (false,(chE d m x,1)))
 | 0,_,_,_,_,h,_,_,_=>h.elim
 | d + 1,f,x,k,z,h,hk,hkd,hf=>by
  obtain ⟨f,rfl⟩:∃ f',f=f' + 1:=⟨f - 1,by omega⟩;have hl:=h.1;have hr1:Ee F m (k,x) (z,0)=some (if nod m x=0 then (true,(z,0)) else (false,(nod m x,1))):=by
   unfold Ee;dsimp only;rw [BW hm hm2 hl,ob_];by_cases h0:nod m x=0
   ·rw [h0,if_pos rfl];rfl
   ·rw [if_neg h0,show (nod m x != 0)=true by simpa using h0,ct_]
  unfold OL chE;rw [hr1,ob_];by_cases h0:nod m x=0
  ·rw [if_pos h0,if_pos h0];dsimp only;rw [nt_,cf_];have loop:∀ (n i:Nat),i<=x.Args.length->x.Args.length - i < n ->
     Ev (OL (Ee F m) f) x k n ((i:Int),(z,0))=if fnz ((x.Args.drop i).map (chE d m))=0 then some (.brk ((x.Args.length:Int),(z,0))) else some (.ret (false,(fnz ((x.Args.drop i).map (chE d m)),1))):=by
    intro n
    induction n with
    | zero=>intro i _ h;omega
    | succ n ihn=>
     intro i hi hn;unfold Ev;dsimp only;by_cases h2:i < x.Args.length
     ·rw [Aj,dt_ h2,ct_,Ai,gE_ h2,ob_,show decide (k<=16)=true by simp;omega,ct_,As om_ om_,Rl hm hm2 d f x.Args[i] (k + 1) z (h.2 _ (GF h2)) om_ om_ om_,ob_,ct_,GG h2,GQ];unfold fnz;by_cases h3:chE d m x.Args[i]=0
      ·rw [if_pos h3,if_pos h3];dsimp only;rw [nt_,cf_,Am om_];exact ihn (i + 1) om_ om_
      ·rw [if_neg h3,if_neg h3,if_neg h3];rfl
     ·rw [Aj,df_ h2,cf_,GT om_];have:i=x.Args.length:=by omega
      subst this;rfl
   have h3:=loop f 0 om_ om_;rw [n0,GL] at h3;rw [h3];split <;> rfl
  ·rw [if_neg h0,if_neg h0,if_neg h0];rfl
theorem Oj {f:Nat} {n:Int} {x:Expr} (hx:Lt_ x) (hn:0<=n) (hn2:n<=256) (hf:600<=f):OX f x n=some (chE 16 n x):=by
 unfold OX;obtain ⟨a,b,h⟩:=BX hx hf;rw [df_ om_,df_ om_,J6,cf_,h,ob_];unfold OJ ON;dsimp only;rw [nt_,cf_,ob_,Rl hn hn2 16 f x 1 0 hx.dp om_ om_ om_];by_cases h0:chE 16 n x=0
 ·rw [if_pos h0,h0];rfl
 ·rw [if_neg h0];rfl
def ev:Nat->L7->Expr->Bool
 | 0,_,_=>false
 | d + 1,ls,x=>if x.Op=0 then x.Index == 1 else if x.Op=1 then (idx ls x.Index).getD false else if x.Op=2 then !(x.Args.any (ev d ls)) else if x.Op=3 then x.Args.all (ev d ls) else x.Args.any (ev d ls)
theorem Jd:∀ (d f:Nat) (ls:L7) (x:Expr),okE d ls.length x->d + 300<=f->MT f x ls=some (ev d ls x)
 | 0,_,_,_,h,_=>h.elim
 | d + 1,f,ls,x,h,hf=>by
  obtain ⟨f,rfl⟩:∃ f',f=f' + 1:=⟨f - 1,by omega⟩;obtain ⟨hn,hl,ha⟩:=h;obtain ⟨o1,o2,o3,o4,o5,i1,i2⟩:=Hy hn;have hev:∀ y∈x.Args,MT f y ls=some (ev d ls y):=λy hy=>Jd d f ls y (ha y hy) om_;unfold MT ev;by_cases h0:x.Op=0
  ·rw [if_pos h0,show (x.Op == 0)=true by simpa using h0,ct_]
  ·rw [if_neg h0,show (x.Op == 0)=false by simpa using h0,cf_];by_cases h1:x.Op=1
   ·rw [if_pos h1,show (x.Op == 1)=true by simpa using h1,ct_];obtain ⟨b,hb,_⟩:=Cu i1 (i2 h1);rw [hb];rfl
   ·rw [if_neg h1,show (x.Op == 1)=false by simpa using h1,cf_];by_cases h2:x.Op=2
    ·rw [if_pos h2,show (x.Op == 2)=true by simpa using h2,ct_];obtain ⟨y,hy⟩:=List.length_eq_one_iff.1 (o4 h2);rw [hy,show idx [y] 0=some y by rfl,ob_,hev y (by rw [hy];simp)];simp
    ·rw [if_neg h2,show (x.Op == 2)=false by simpa using h2,cf_];have loop:∀ (n i:Nat) (a b:Bool),i<=x.Args.length->x.Args.length - i < n ->
       Oh (MT f) x ls n (a,b,(i:Int))=some (a && (x.Args.drop i).all (ev d ls),b || (x.Args.drop i).any (ev d ls),(x.Args.length:Int)):=by
      intro n
      induction n with
      | zero=>intro i _ _ _ h;omega
      | succ n ihn=>
       intro i a b hi hnn;unfold Oh;dsimp only;by_cases h3:i < x.Args.length
       ·rw [Aj,dt_ h3,ct_,Ai,gE_ h3,ob_,hev _ (GF h3),ob_,Am om_,ihn (i + 1) _ _ om_ om_,GG h3,List.all_cons,LC,Bool.and_assoc,Bool.or_assoc]
       ·rw [Aj,df_ h3,cf_,GT om_];have:i=x.Args.length:=by omega
        subst this;simp
     have h3:=loop f 0 true false om_ om_;rw [n0,GL] at h3;rw [h3,ob_];by_cases h4:x.Op=3
     ·simp [h4]
     ·have h5:x.Op=4:=by omega
      simp [h5]
theorem Jc:∀ (d f:Nat) (ls:L7) (x:Expr),okE d ls.length x->d + 300<=f->P7 f x ls=some (ev d ls x)
 | 0,_,_,_,h,_=>h.elim
 | d + 1,f,ls,x,h,hf=>by
  obtain ⟨f,rfl⟩:∃ f',f=f' + 1:=⟨f - 1,by omega⟩;obtain ⟨hn,hl,ha⟩:=h;obtain ⟨o1,o2,o3,o4,o5,i1,i2⟩:=Hy hn;have hev:∀ y∈x.Args,P7 f y ls=some (ev d ls y):=λy hy=>Jc d f ls y (ha y hy) om_;unfold P7 ev;by_cases h0:x.Op=0
  ·rw [if_pos h0,show (x.Op == 0)=true by simpa using h0,ct_]
  ·rw [if_neg h0,show (x.Op == 0)=false by simpa using h0,cf_];by_cases h1:x.Op=1
   ·rw [if_pos h1,show (x.Op == 1)=true by simpa using h1,ct_];obtain ⟨b,hb,_⟩:=Cu i1 (i2 h1);rw [hb];rfl
   ·rw [if_neg h1,show (x.Op == 1)=false by simpa using h1,cf_];by_cases h2:x.Op=2
    ·rw [if_pos h2,show (x.Op == 2)=true by simpa using h2,ct_];obtain ⟨y,hy⟩:=List.length_eq_one_iff.1 (o4 h2);rw [hy,show idx [y] 0=some y by rfl,ob_,hev y (by rw [hy];simp)];simp
    ·rw [if_neg h2,show (x.Op == 2)=false by simpa using h2,cf_];by_cases h3:x.Op=3
     ·rw [if_pos h3,show (x.Op == 3)=true by simpa using h3,ct_];unfold P5 P4;have h5:=AS (L:=Sx (P7 f) f x.Args ls) (xs:=x.Args) (p:=λ_ y=>P3 f (P7 f) y ls) (q:=λy=>!ev d ls y) (r:=λz=>z) (λ_ _=>rfl) om_ (λi y hy=>by
       unfold P3;rw [hev y (GM hy)];rfl) f 0 om_ om_
      rw [n0,GL] at h5;rw [h5];cases h6:x.Args.findIdx? (λy=>!ev d ls y) with
      | none=>
       rw [HK] at h6;have:x.Args.all (ev d ls)=true:=GJ.2 λy hy=>by simpa using h6 y hy
       rw [this];rfl
      | some j=>
       obtain ⟨hj,hj2,_⟩:=G7.1 h6;have:x.Args.all (ev d ls)=false:=List.all_eq_false.2 ⟨_,GF hj,by simpa using hj2⟩;rw [this];simp
     ·rw [if_neg h3,show (x.Op == 3)=false by simpa using h3,cf_];unfold Ys Yr;have h5:=AS (L:=Jb (P7 f) f x.Args ls) (xs:=x.Args) (p:=λ_ y=>P6 f (P7 f) y ls) (q:=λy=>ev d ls y) (r:=λz=>z) (λ_ _=>rfl) om_ (λi y hy=>by
       unfold P6;rw [hev y (GM hy)];rfl) f 0 om_ om_
      rw [n0,GL] at h5;rw [h5];cases h6:x.Args.findIdx? (λy=>ev d ls y) with
      | none=>
       rw [HK] at h6;have:x.Args.any (ev d ls)=false:=HQ.2 λy hy=>by simpa using h6 y hy
       rw [this];rfl
      | some j=>
       obtain ⟨hj,hj2,_⟩:=G7.1 h6;have:x.Args.any (ev d ls)=true:=G8.2 ⟨_,GF hj,by simpa using hj2⟩;rw [this];simp
theorem Nw {d f:Nat} {ls:L7} {x:Expr} {g:Expr->L7->Option Bool} (v:Bool) (hl:x.Args.length<=256) (hf:300<=f) (hev:∀ y∈x.Args,g y ls=some (ev d ls y)) :
  PL f g v x ls=some (x.Args.all λy=>ev d ls y == v):=by
 unfold PL PK;have loop:∀ (n i:Nat),i<=x.Args.length->x.Args.length - i < n ->
   Oa g (He g v) x ls n ((i:Int),((),0))=if (x.Args.drop i).all (λy=>ev d ls y == v) then some (.brk ((x.Args.length:Int),((),0))) else some (.ret ((),1)):=by
  intro n
  induction n with
  | zero=>intro i _ h;omega
  | succ n ihn=>
   intro i hi hn;unfold Oa He;dsimp only;by_cases h2:i < x.Args.length
   ·rw [Aj,dt_ h2,ct_,Ai,gE_ h2,ob_,hev _ (GF h2),ob_,GG h2,List.all_cons];cases h3:(ev d ls x.Args[i] == v) with
    | true=>
     rw [show (ev d ls x.Args[i] != v)=false by (show (!(ev d ls x.Args[i] == v))=false);rw [h3];rfl,cf_,ob_];dsimp only;rw [nt_,cf_,Am om_,HY];exact ihn (i + 1) om_ om_
    | false=>
     rw [show (ev d ls x.Args[i] != v)=true by (show (!(ev d ls x.Args[i] == v))=true);rw [h3];rfl,ct_,ob_];rfl
   ·rw [Aj,df_ h2,cf_,GT om_];have:i=x.Args.length:=by omega
    subst this;rfl
 have h3:=loop f 0 om_ om_;rw [n0,GL] at h3;rw [h3];cases x.Args.all (λy=>ev d ls y == v) <;> rfl
theorem Vh:∀ (d f:Nat) (ls:L7) (x:Expr),okE d ls.length x->d + 300<=f->PO f x ls=some (ev d ls x)
 | 0,_,_,_,h,_=>h.elim
 | d + 1,f,ls,x,h,hf=>by
  obtain ⟨f,rfl⟩:∃ f',f=f' + 1:=⟨f - 1,by omega⟩;obtain ⟨hn,hl,ha⟩:=h;obtain ⟨o1,o2,o3,o4,o5,i1,i2⟩:=Hy hn;have hev:∀ y∈x.Args,PO f y ls=some (ev d ls y):=λy hy=>Vh d f ls y (ha y hy) om_;unfold PO ev;by_cases h0:x.Op=0
  ·rw [if_pos h0,show (x.Op == 0)=true by simpa using h0,ct_]
  ·rw [if_neg h0,show (x.Op == 0)=false by simpa using h0,cf_];by_cases h1:x.Op=1
   ·rw [if_pos h1,show (x.Op == 1)=true by simpa using h1,ct_];obtain ⟨b,hb,_⟩:=Cu i1 (i2 h1);rw [hb];rfl
   ·rw [if_neg h1,show (x.Op == 1)=false by simpa using h1,cf_];unfold OU OS;simp only [ob_];have hop:x.Op=2\/x.Op=3\/x.Op=4:=by omega
    rcases hop with h | h | h <;> rw [h]
    ·rw [show idx (List.range 5) 2=some 2 by rfl,ob_,show ((2:Nat) == 2)=true by rfl,ct_,Nw false hl om_ hev,ob_,if_pos rfl];congr 1;rw [HU];simp
    ·rw [show idx (List.range 5) 3=some 3 by rfl,ob_,show ((3:Nat) == 2)=false by rfl,cf_,show ((3:Nat) == 3)=true by rfl,ct_,Nw true hl om_ hev,ob_,if_neg om_,if_pos rfl];congr 1;rw [HU];simp
    ·rw [show idx (List.range 5) 4=some 4 by rfl,ob_,show ((4:Nat) == 2)=false by rfl,cf_,show ((4:Nat) == 3)=false by rfl,cf_,show ((4:Nat) == 4)=true by rfl,ct_];unfold PN OS;rw [ob_,Nw false hl om_ hev,ob_,ob_,if_neg om_,if_neg om_];congr 1;rw [HU];simp
def occ:Nat->Int->Expr->Bool
 | 0,_,_=>false
 | d + 1,k,x=>if x.Op=1 then x.Index == k else x.Args.any (occ d k)
theorem Ve:∀ (d f:Nat) (k:Int) (x:Expr),dp d x->d + 300<=f->NX f x k=some (occ d k x)
 | 0,_,_,_,h,_=>h.elim
 | d + 1,f,k,x,h,hf=>by
  obtain ⟨f,rfl⟩:∃ f',f=f' + 1:=⟨f - 1,by omega⟩;have hl:=h.1;unfold NX occ;by_cases h1:x.Op=1
  ·rw [if_pos h1,show (x.Op == 1)=true by simpa using h1,ct_]
  ·rw [if_neg h1,show (x.Op == 1)=false by simpa using h1,cf_];have h5:=AS (L:=Sy (NX f) x k) (xs:=x.Args) (p:=λ_ y=>NX f y k) (q:=λy=>occ d k y) (r:=λ_=>true) (λ_ _=>rfl) om_ (λi y hy=>Ve d f k y (h.2 y (GM hy)) om_) f 0 om_ om_;rw [n0,GL] at h5;rw [h5];cases h6:x.Args.findIdx? (λy=>occ d k y) with
   | none=>
    rw [HK] at h6;have:x.Args.any (occ d k)=false:=HQ.2 λy hy=>by simpa using h6 y hy
    rw [this];rfl
   | some j=>
    obtain ⟨hj,hj2,_⟩:=G7.1 h6;have:x.Args.any (occ d k)=true:=G8.2 ⟨_,GF hj,by simpa using hj2⟩;rw [this];rfl
def F5:Nat->(Int->Bool)->Expr->Bool
 | 0,_,_=>false
 | d + 1,p,x=>if x.Op=1 then p x.Index else x.Args.any (F5 d p)
theorem Ts:∀ {d:Nat} {p:Int->Bool} {x:Expr},F5 d p x=true↔∃ k,p k=true/\occ d k x=true
 | 0,p,x=>by simp [F5,occ]
 | d + 1,p,x=>by
  unfold F5 occ;by_cases h1:x.Op=1
  ·simp only [if_pos h1,beq_iff_eq];exact ⟨λh=>⟨_,h,rfl⟩,λ⟨k,h,e⟩=>e ▸ h⟩
  ·simp only [if_neg h1,G8];constructor
   ·rintro ⟨y,hy,h⟩;obtain ⟨k,hk,ho⟩:=Ts.1 h;exact ⟨k,hk,y,hy,ho⟩
   ·rintro ⟨k,hk,y,hy,ho⟩;exact ⟨y,hy,Ts.2 ⟨k,hk,ho⟩⟩
theorem FE:∀ {d:Nat} {n k:Int} {x:Expr},okE d n x->occ d k x=true->0<=k/\k < n
 | 0,_,_,_,h,_=>h.elim
 | d + 1,n,k,x,h,ho=>by
  obtain ⟨hn,hl,ha⟩:=h;obtain ⟨o1,o2,o3,o4,o5,i1,i2⟩:=Hy hn;unfold occ at ho;split at ho
  ·rename_i h1;have:x.Index=k:=by simpa using ho
   have:=i2 h1;omega
  ·obtain ⟨y,hy,h⟩:=G8.1 ho;exact FE (ha y hy) h
end Go.Pn
namespace Go.Pn
open Go
theorem Zw {β:Type} {L:Nat->Int->Option (Lo Int β)} {N:Nat} {Q:Nat->Bool} {r:Int->β}
  (h:∀ (n i:Nat),i < N->L (n + 1) (i:Int)=bif Q i then some (.ret (r (i:Int))) else L n ((i + 1:Nat):Int)) (h':∀ (n:Nat),L (n + 1) (N:Int)=some (.brk (N:Int))) :
  ∀ (n i:Nat),i<=N->N - i < n->(∃ k,i<=k/\k < N/\Q k=true/\L n (i:Int)=some (.ret (r (k:Int))))\/(L n (i:Int)=some (.brk (N:Int))/\∀ k,i<=k->k < N->Q k=false)
 | 0,i,_,h=>by omega
 | n + 1,i,h1,h2=>by
  by_cases hi:i < N
  ·rw [h n i hi];cases hq:Q i with
   | true=>exact .inl ⟨i,GS _,hi,hq,rfl⟩
   | false=>
    rw [cf_];rcases Zw h h' n (i + 1) om_ om_ with ⟨k,h3,h4,h5,h6⟩ | ⟨h3,h4⟩
    ·exact .inl ⟨k,by omega,h4,h5,h6⟩
    ·refine .inr ⟨h3,λk hk hk2=>?_⟩;rcases KO hk with rfl | h5
     ·exact hq
     ·exact h4 k h5 hk2
  ·obtain rfl:i=N:=by omega
   exact .inr ⟨h' n,λk hk hk2=>by omega⟩
def Tz (b:UInt8):Bool:=decide (97<=b.toNat) && decide (b.toNat<=122)
def EX (b:UInt8):Bool:=decide (65<=b.toNat) && decide (b.toNat<=90)
def E5 (b:UInt8):Bool:=decide (48<=b.toNat) && decide (b.toNat<=57)
def Dg (b:UInt8):Bool:=Tz b || EX b || E5 b || (b.toNat == 95)
def wd (s:MA):Bool:=match s.data.toList with
 | []=>false
 | b :: l=>Tz b && (b :: l).all Dg
theorem Bb (s:MA):s.size=s.data.toList.length:=rfl
theorem Xp {s:MA} {i:Nat} (h:i < s.data.toList.length):Wp s (i:Int)=some s.data.toList[i]:=by
 unfold Wp;rw [if_pos om_,G1];have h1:i < s.size:=by rw [Bb];exact h
 rw [getElem?_pos s i h1];congr 1
theorem FU {s:MA} {i:Nat} (h:i < s.data.toList.length):(s.data.toList[i].toNat < 128->Utf8.decode s i=(s.data.toList[i].toNat,1))/\(128<=s.data.toList[i].toNat->128<=(Utf8.decode s i).1):=by
 have hg:s.get! (i + 0)=s.data.toList[i]:=by
  have h1:i < s.data.size:=by simpa using h
  show s.data[i + 0]! = _;rw [J0,getElem!_pos s.data i h1];simp
 constructor
 ·intro hb;unfold Utf8.decode;simp only [hg];rw [if_pos om_]
 ·intro hb;unfold Utf8.decode;simp only [hg];rw [if_neg om_];split
  ·split
   ·rename_i hx;exact hx
   ·decide
  ·split
   ·split
    ·rename_i hx;simp only [GH,decide_eq_true_eq] at hx;exact G3 (by decide) hx.1
    ·decide
   ·split
    ·split
     ·rename_i hx;simp only [GH,decide_eq_true_eq] at hx;exact G3 (by decide) hx.1
     ·decide
    ·decide
theorem u8n {n:Nat} (hn:n < 256):(UInt8.ofNat n).toNat=n:=by
 rw [UInt8.toNat_ofNat'];omega
theorem CA (f:Nat) (b:UInt8):OE f b=some (Dg b):=by
 unfold OE Dg Tz EX E5;simp only [u8n (show 97 < 256 by omega),u8n (show 122 < 256 by omega),u8n (show 65 < 256 by omega),u8n (show 90 < 256 by omega),u8n (show 48 < 256 by omega),u8n (show 57 < 256 by omega),u8n (show 95 < 256 by omega)];congr 1;rw [HU];simp;omega
theorem Sg {b:UInt8} (h:Dg b=true):b.toNat<=122:=by
 unfold Dg Tz EX E5 at h;simp at h;omega
theorem CB {f:Nat} {s:MA} {i:Nat} (h:i < s.data.toList.length):OF f (srn s (i:Int))=some (!Dg s.data.toList[i]):=by
 obtain ⟨h1,h2⟩:=FU h;unfold OF srn;rw [G1];simp only [Ik.toI];by_cases hb:s.data.toList[i].toNat < 128
 ·rw [h1 hb];dsimp only;by_cases hc:((s.data.toList[i].toNat:Nat):Int) > 122
  ·rw [dt_ hc,ct_];have:Dg s.data.toList[i]=false:=by
    cases hp:Dg s.data.toList[i] with
    | false=>rfl
    | true=>have:=Sg hp;omega
   rw [this];rfl
  ·rw [df_ hc,cf_];have:(Ik.ofI ((s.data.toList[i].toNat:Nat):Int):UInt8)=s.data.toList[i]:=by
    show wr8 _=_;unfold wr8;refine UInt8.toNat_inj.1 ?_;rw [UInt8.toNat_ofNat'];omega
   rw [this,CA];rfl
 ·have h3:=h2 om_;rw [dt_ so_,ct_];have:Dg s.data.toList[i]=false:=by
   cases hp:Dg s.data.toList[i] with
   | false=>rfl
   | true=>have:=Sg hp;omega
  rw [this];rfl
theorem Rv {α:Type} {l:List α} {p:α->Bool}:l.any p=true↔∃ i,∃ h:i < l.length,p l[i]=true:=by
 rw [G8];constructor
 ·rintro ⟨x,hx,h⟩;obtain ⟨i,hi,rfl⟩:=List.getElem_of_mem hx;exact ⟨i,hi,h⟩
 ·rintro ⟨i,hi,h⟩;exact ⟨_,GF hi,h⟩
theorem CC {f:Nat} {s:MA} (hs:s.size < f) (hs2:s.size < 1000000):O3 f s=some (s.data.toList.any λb=>!Dg b):=by
 rw [Bb] at hs hs2;unfold O3 O2 O1;have hl:=Zw (L:=Kl f s true) (N:=s.data.toList.length) (Q:=λi=>if h:i < s.data.toList.length then !Dg s.data.toList[i] else false) (r:=λz=>z) (λn i hi=>by
  rw [Kl,Bb,Aj,dt_ hi,ct_,CB hi,ob_,dif_pos hi];cases hp:Dg s.data.toList[i] with
  | true=>
   rw [show ((!true) == true)=false by rfl,cf_];have:snx s (i:Int)=((i + 1:Nat):Int):=by
    unfold snx;rw [if_pos (by rw [Bb];omega),G1,(FU hi).1 (by have:=Sg hp;omega)];rfl
   rw [this];rfl
  | false=>rfl) (λn=>by
  rw [Kl,Bb,Aj,df_ om_,cf_];unfold snx;rw [if_neg (by rw [Bb];omega)]) f 0 om_ om_
 rw [n0] at hl;rcases hl with ⟨k,_,hk,hq,h⟩ | ⟨h,hn⟩
 ·rw [h];rw [dif_pos hk] at hq;rw [Rv.2 ⟨k,hk,hq⟩];simp only [ob_];rw [dt_ om_]
 ·rw [h];have:(s.data.toList.any λb=>!Dg b)=false:=by
   rw [L5];intro ha;obtain ⟨i,hi,h2⟩:=Rv.1 ha;have:=hn i om_ hi;rw [dif_pos hi,h2] at this;cases this
  rw [this];rfl
theorem B5 {f:Nat} {s:MA} (hs:s.size < f) (hs2:s.size < 1000000):NN f s=some (wd s):=by
 rw [Bb] at hs hs2;unfold NN;have hl:=Zw (L:=Ko s) (N:=s.data.toList.length) (Q:=λi=>if h:i < s.data.toList.length then (i == 0 && !Tz s.data.toList[i]) || !Dg s.data.toList[i] else false) (r:=λ_=>false) (λn i hi=>by
  rw [Ko,Bb,Aj,dt_ hi,ct_];simp only [Xp hi,ob_,cs_,u8n (show 97 < 256 by omega),u8n (show 122 < 256 by omega),u8n (show 65 < 256 by omega),u8n (show 90 < 256 by omega),u8n (show 48 < 256 by omega),u8n (show 57 < 256 by omega),u8n (show 95 < 256 by omega)];rw [dif_pos hi,Am om_];congr 1;rw [HU];unfold Dg Tz EX E5;simp;generalize s.data.toList[i].toNat=b;omega) (λn=>by
  rw [Ko,Bb,Aj,df_ om_,cf_]) f 0 om_ om_
 rw [n0] at hl;have hemp:(s.toList == (⟨#[]⟩:MA).toList)=(s.data.toList == []):=by
  rw [ByteArray.toList_eq,ByteArray.toList_eq]
 rcases hl with ⟨k,_,hk,hq,h⟩ | ⟨h,hn⟩
 ·rw [h,ob_];rw [dif_pos hk] at hq;dsimp only;congr 1
  symm
  unfold wd;cases hd:s.data.toList with
  | nil=>rfl
  | cons b l=>
   have hk':k < (b :: l).length:=by rw [← hd];exact hk
   have hg:s.data.toList[k]=(b :: l)[k]:=by simp [hd]
   rw [hg] at hq;dsimp only;rw [J9];rcases Bool.or_eq_true_iff.1 hq with h1 | h1
   ·left;obtain ⟨h2,h3⟩:=Bool.and_eq_true_iff.1 h1;obtain rfl:k=0:=by simpa using h2
    simpa using h3
   ·right;exact List.all_eq_false.2 ⟨_,GF hk',by simpa using h1⟩
 ·rw [h,ob_,hemp];dsimp only;congr 1;unfold wd;cases hd:s.data.toList with
  | nil=>rfl
  | cons b l=>
   have hb:∀ (k:Nat) (hk:k < (b :: l).length),((k == 0 && !Tz (b :: l)[k]) || !Dg (b :: l)[k])=false:=by
    intro k hk;have hk':k < s.data.toList.length:=by rw [hd];exact hk
    have:=hn k om_ hk';rw [dif_pos hk'] at this;have hg:s.data.toList[k]=(b :: l)[k]:=by simp [hd]
    rw [hg] at this;exact this
   have h1:=hb 0 smp_;simp at h1;dsimp only;rw [h1.1,HY];have:(b :: l).all Dg=true:=by
    rw [GJ];intro x hx;obtain ⟨i,hi,rfl⟩:=List.getElem_of_mem hx;have:=hb i hi;rw [JZ] at this;simpa using this.2
   rw [this];rfl
def fx (i:Nat):MA:=⟨#[UInt8.ofNat (97 + i / 2),UInt8.ofNat (48 + i % 2)]⟩
def cA (c:Aa):Nat:=c.Actuators.toNat
def cS (c:Aa):Nat:=2 * cA c + c.Inputs.length
def cL (c:Aa):Nat:=cS c + c.Signals.length
def nmF (c:Aa) (i:Nat):MA:=if i < 2 * cA c then fx i else if i < cS c then c.Inputs.getD (i - 2 * cA c) ⟨#[]⟩ else ((c.Signals[i - cS c]?).map (·.Name)).getD ⟨#[]⟩
structure Bd_ (c:Aa):Prop where
 a1:1<=c.Actuators
 a6:c.Actuators<=6
 i:c.Inputs.length<=16
 s:c.Signals.length<=16
theorem Bd_.a {c:Aa} (h:Bd_ c):c.Actuators=(cA c:Int):=by
 have:=h.a1;unfold cA;omega
theorem Bd_.a' {c:Aa} (h:Bd_ c):1<=cA c/\cA c<=6:=by
 have:=h.a1;have:=h.a6;unfold cA;omega
theorem Bd_.wa {c:Aa} (h:Bd_ c):wr ((2:Int) * c.Actuators)=((2 * cA c:Nat):Int):=by
 have:=h.a;have:=h.a';rw [As om_ om_];omega
theorem Ex {f:Nat} {c:Aa} (h:Bd_ c):M3 f c=some (cS c:Int):=by
 have:=h.a';have:=h.i;unfold M3;rw [h.wa,As om_ om_];unfold cS;congr 1
theorem Je {f:Nat} {c:Aa} (h:Bd_ c):OB f c=some (cS c:Int):=Ex (f:=f) h
theorem Ew {f:Nat} {c:Aa} (h:Bd_ c):MO f c=some (cL c:Int):=by
 have:=h.a';have:=h.i;have:=h.s;unfold MO;have e:wr (((2 * cA c:Nat):Int) + (c.Inputs.length:Int))=((2 * cA c:Nat):Int) + (c.Inputs.length:Int):=As om_ om_;rw [h.wa,e,As om_ om_];unfold cL cS;congr 1
theorem Ol {f:Nat} {c:Aa} (h:Bd_ c):OG f c=some (cL c:Int):=by
 have:=h.a';have:=h.i;have:=h.s;unfold OG;rw [Je h,ob_,As (by unfold cS;omega) (by unfold cS;omega)];unfold cL;congr 1
theorem AA:((List.range 12).all λi=>decide (((ssl (⟨#[97,98,99,100,101,102]⟩:MA) (wr ((i:Int).tdiv (2:Int))) (wr ((wr ((i:Int).tdiv (2:Int))) + 1))).bind λx1=>(ssl (⟨#[48,49]⟩:MA) ((i:Int).tmod (2:Int)) (wr (((i:Int).tmod (2:Int)) + 1))).bind λx2=>(cat x1 x2).bind λx3=>some x3)=some (fx i)))=true:=by kernel_rfl
theorem ref_fx:∀ i:Nat,i < 12->((ssl (⟨#[97,98,99,100,101,102]⟩:MA) (wr ((i:Int).tdiv (2:Int))) (wr ((wr ((i:Int).tdiv (2:Int))) + 1))).bind λx1=>(ssl (⟨#[48,49]⟩:MA) ((i:Int).tmod (2:Int)) (wr (((i:Int).tmod (2:Int)) + 1))).bind λx2=>(cat x1 x2).bind λx3=>some x3)=some (fx i):=λi h=>of_decide_eq_true (GJ.1 AA i (GX.2 h))
theorem AB:((List.range 12).all λi=>decide (((cat (Dv (Ik.toI (Ik.ofI (Ik.toI (wr ((97:Int) + (wr ((i:Int).tdiv (2:Int)))))):Kd .i32))) (Dv (Ik.toI (Ik.ofI (Ik.toI (wr ((48:Int) + ((i:Int).tmod (2:Int))))):Kd .i32)))).bind λx2=>some x2)=some (fx i)))=true:=by kernel_rfl
theorem pro_fx:∀ i:Nat,i < 12->((cat (Dv (Ik.toI (Ik.ofI (Ik.toI (wr ((97:Int) + (wr ((i:Int).tdiv (2:Int)))))):Kd .i32))) (Dv (Ik.toI (Ik.ofI (Ik.toI (wr ((48:Int) + ((i:Int).tmod (2:Int))))):Kd .i32)))).bind λx2=>some x2)=some (fx i):=λi h=>of_decide_eq_true (GJ.1 AB i (GX.2 h))
theorem Vl {f:Nat} {c:Aa} (h:Bd_ c) {i:Nat} (hi:i < cL c):NL f c (i:Int)=some (nmF c i):=by
 have h1:=h.a';have h2:=h.i;have h3:=h.s;have hS:cS c=2 * cA c + c.Inputs.length:=rfl;have hL:cL c=cS c + c.Signals.length:=rfl;unfold NL nmF;rw [h.wa,Aj];by_cases h4:i < 2 * cA c
 ·rw [dt_ h4,ct_,if_pos h4];exact ref_fx i om_
 ·rw [df_ h4,cf_,if_neg h4,Ex h,ob_,Aj];by_cases h5:i < cS c
  ·rw [dt_ h5,ct_,if_pos h5,As om_ om_,show (i:Int) - ((2 * cA c:Nat):Int)=((i - 2 * cA c:Nat):Int) by omega,Ai,gE_ om_];simp [gE_ (show i - 2 * cA c < c.Inputs.length by omega)]
  ·rw [df_ h5,cf_,if_neg h5,ob_,As om_ om_,show (i:Int) - (cS c:Int)=((i - cS c:Nat):Int) by omega,Ai,gE_ om_];rfl
theorem CO {f:Nat} {c:Aa} (h:Bd_ c) {i:Nat} (hi:i < cL c):OD f c (i:Int)=some (nmF c i):=by
 have h1:=h.a';have h2:=h.i;have h3:=h.s;have hS:cS c=2 * cA c + c.Inputs.length:=rfl;have hL:cL c=cS c + c.Signals.length:=rfl;unfold OD nmF;rw [Je h,ob_,h.wa,Aj];by_cases h4:i < 2 * cA c
 ·rw [dt_ h4,ct_,if_pos h4];exact pro_fx i om_
 ·rw [df_ h4,cf_,if_neg h4,Aj];by_cases h5:i < cS c
  ·rw [dt_ h5,ct_,if_pos h5,As om_ om_,show (i:Int) - ((2 * cA c:Nat):Int)=((i - 2 * cA c:Nat):Int) by omega,Ai,gE_ om_];simp [gE_ (show i - 2 * cA c < c.Inputs.length by omega)]
  ·rw [df_ h5,cf_,if_neg h5,As om_ om_,show (i:Int) - (cS c:Int)=((i - cS c:Nat):Int) by omega,Ai,gE_ om_];rfl
def nme (c:Aa) (i:Nat):Int:=if wd (nmF c i) then (if (nmF c i).size > 24 then 17 else if (List.range i).any (λj=>(nmF c j).data.toList == (nmF c i).data.toList) then 7 else 0) else 3
theorem Vs {f:Nat} {c:Aa} (h:Bd_ c) {i:Nat} (hi:i < cL c) (hn:(nmF c i).size<=200) (hf:600<=f):NO f c (i:Int)=some (nme c i):=by
 have h1:=h.a';have h2:=h.i;have h3:=h.s;have hS:cS c=2 * cA c + c.Inputs.length:=rfl;have hL:cL c=cS c + c.Signals.length:=rfl;unfold NO nme;rw [Vl h hi,ob_,B5 om_ om_,ob_];cases hw:wd (nmF c i) with
 | false=>rfl
 | true=>
  rw [nt_,cf_,if_pos rfl];by_cases h24:(nmF c i).size > 24
  ·rw [dt_ om_,ct_,if_pos h24]
  ·rw [df_ om_,cf_,if_neg h24];have hl:=Zw (L:=Ks f c (i:Int) (nmF c i)) (N:=i) (Q:=λj=>(nmF c j).data.toList == (nmF c i).data.toList) (r:=λ_=>7) (λn j hj=>by
    rw [Ks,Aj,dt_ hj,ct_,Vl h om_,ob_,ByteArray.toList_eq,ByteArray.toList_eq,Am om_]) (λn=>by
    rw [Ks,Aj,df_ om_,cf_]) f 0 om_ om_
   rw [n0] at hl;rcases hl with ⟨k,_,hk,hq,h⟩ | ⟨h,hn⟩
   ·rw [h,if_pos (G8.2 ⟨k,GX.2 hk,hq⟩)];rfl
   ·rw [h,if_neg ?_]
    ·rfl
    ·intro ha;obtain ⟨k,hk,h4⟩:=G8.1 ha;have:=hn k om_ (GX.1 hk);rw [this] at h4;cases h4
def Zu (c:Aa) (i:Nat) (m:List (MA×Int)):Prop:=∀ s:MA,(mat Tv m s).isSome=(List.range i).any λj=>(nmF c j).data.toList == s.data.toList
theorem Cd {a b:MA}:Tv a b=true↔a=b:=by
 unfold Tv;obtain ⟨⟨x⟩⟩:=a;obtain ⟨⟨y⟩⟩:=b;simp
theorem D9 {m:List (MA×Int)} {k j:MA} {y:Int}:mat Tv (Ep Tv m k y) j=if j=k then some y else mat Tv m j:=by
 induction m with
 | nil=>
  show mat Tv [(k,y)] j=_;rw [Bm];by_cases h:j=k
  ·rw [if_pos (Cd.2 h),if_pos h]
  ·rw [if_neg (λe=>h (Cd.1 e)),if_neg h]
 | cons p m ih=>
  obtain ⟨k',z⟩:=p;rw [Mz,Bm];by_cases h:k=k'
  ·subst h;rw [if_pos (Cd.2 rfl),Bm];by_cases h2:j=k
   ·rw [if_pos (Cd.2 h2),if_pos h2]
   ·rw [if_neg (λe=>h2 (Cd.1 e)),if_neg h2,if_neg (λe=>h2 (Cd.1 e))]
  ·rw [if_neg (λe=>h (Cd.1 e)),Bm,ih];by_cases h2:j=k'
   ·subst h2;rw [if_pos (Cd.2 rfl),if_neg (λe=>h e.symm),if_pos (Cd.2 rfl)]
   ·rw [if_neg (λe=>h2 (Cd.1 e)),if_neg (λe=>h2 (Cd.1 e))]
theorem Zu.zero (c:Aa):Zu c 0 []:=λs=>rfl
theorem Zu.put {c:Aa} {i:Nat} {m:List (MA×Int)} (h:Zu c i m) (y:Int):Zu c (i + 1) (Ep Tv m (nmF c i) y):=by
 intro s;rw [D9,List.range_succ,List.any_append];by_cases e:s=nmF c i
 ·rw [if_pos e,e];simp
 ·rw [if_neg e,h s];have:((nmF c i).data.toList == s.data.toList)=false:=by
   cases hb:((nmF c i).data.toList == s.data.toList) with
   | false=>rfl
   | true=>exact absurd (Cd.1 hb).symm e
  rw [LC,List.any_nil,J6,this,J6]
theorem Vv {f:Nat} {c:Aa} (h:Bd_ c) {i:Nat} (hn:(nmF c i).size<=200) (hf:600<=f) {m:List (MA×Int)} (hm:Zu c i m) (a b c' d e) :
  ∃ m',O4 f (nmF c i) a b c' d e m=some (nme c i,m')/\(nme c i=0->Zu c (i + 1) m'):=by
 unfold O4 nme;have hemp:((nmF c i).toList == (⟨#[]⟩:MA).toList)=((nmF c i).data.toList == []):=by
  rw [ByteArray.toList_eq,ByteArray.toList_eq]
 rw [hemp,CC om_ om_];have hwd:∀ (k:Bool->Option (Int×List (MA×Int))),((bif ((nmF c i).data.toList == []) then some true else (Wp (nmF c i) (0:Int)).bind λx1=>some (decide ((x1.toNat:Int) < (UInt8.ofNat 97).toNat))).bind λr2=>(bif r2 then some true else (Wp (nmF c i) (0:Int)).bind λx3=>some (decide ((x3.toNat:Int) > (UInt8.ofNat 122).toNat))).bind λr4=>(bif r4 then some true else (some ((nmF c i).data.toList.any λb=>!Dg b)).bind λx5=>some x5).bind k)=k (!wd (nmF c i)):=by
  intro k;cases hd:(nmF c i).data.toList with
  | nil=>unfold wd;rw [hd];rfl
  | cons b l=>
   have h0:Wp (nmF c i) (0:Int)=some b:=by
    have:=Xp (s:=nmF c i) (i:=0) (by rw [hd];simp);rw [n0] at this;rw [this];simp [hd]
   unfold wd;rw [h0,hd];simp only [ob_,cs_,u8n (show 97 < 256 by omega),u8n (show 122 < 256 by omega)];congr 1;rw [HU];unfold Tz;simp only [List.all_eq_not_any_not];cases (b :: l).any (λb=>!Dg b) <;> simp <;> omega
 rw [hwd];cases hw:wd (nmF c i) with
 | false=>exact ⟨m,rfl,λh=>by simp at h⟩
 | true=>
  rw [nt_,cf_,if_pos rfl];by_cases h24:(nmF c i).size > 24
  ·rw [dt_ om_,ct_,if_pos h24];exact ⟨m,rfl,λh=>by simp at h⟩
  ·rw [df_ om_,cf_,if_neg h24,hm (nmF c i)];cases hx:(List.range i).any (λj=>(nmF c j).data.toList == (nmF c i).data.toList) with
   | true=>exact ⟨m,rfl,λh=>by simp at h⟩
   | false=>exact ⟨_,rfl,λ_=>hm.put _⟩
end Go.Pn
namespace Go.Pn
open Go
def DW (E:Nat->Int):Nat->Nat->Int
 | 0,_=>0
 | k + 1,i=>if E i=0 then DW E k (i + 1) else E i
theorem Wj {E:Nat->Int}:∀ {k i:Nat},DW E k i=0->∀ j,i<=j->j < i + k->E j=0
 | 0,_,_,j,h1,h2=>by omega
 | k + 1,i,h,j,h1,h2=>by
  unfold DW at h;split at h
  ·rcases KO h1 with rfl | h3
   ·assumption
   ·exact Wj h j h3 om_
  ·contradiction
theorem fnzI {S σ β:Type} {L:Nat->S->Option (Lo S β)} {mk:Nat->σ->S} {N:Nat} {E:Nat->Int} {r:Int->β} {I:Nat->σ->Prop}
  (h:∀ (n i:Nat) s,i < N->I i s->(E i=0->∃ s',I (i + 1) s'/\L (n + 1) (mk i s)=L n (mk (i + 1) s'))/\(E i≠0->L (n + 1) (mk i s)=some (.ret (r (E i)))))
  (h':∀ (n:Nat) s,I N s->L (n + 1) (mk N s)=some (.brk (mk N s))) :
  ∀ (k n i:Nat) s,i + k=N->k < n->I i s->(DW E k i=0/\∃ s',I N s'/\L n (mk i s)=some (.brk (mk N s')))\/(DW E k i≠0/\L n (mk i s)=some (.ret (r (DW E k i))))
 | 0,0,i,s,_,h2,_=>by omega
 | 0,n + 1,i,s,h1,h2,hI=>by
  obtain rfl:i=N:=by omega
  exact .inl ⟨rfl,s,hI,h' n s hI⟩
 | k + 1,0,i,s,_,h2,_=>by omega
 | k + 1,n + 1,i,s,h1,h2,hI=>by
  obtain ⟨a,b⟩:=h n i s om_ hI;unfold DW;by_cases e:E i=0
  ·obtain ⟨s',hs,hl⟩:=a e;rw [if_pos e,hl];exact fnzI h h' k n (i + 1) s' om_ om_ hs
  ·rw [if_neg e];exact .inr ⟨e,b e⟩
def zrx (x:Expr):Bool:=((x.Op == 0) && (x.Index == 0)) && (((x.Args).length:Int) == 0)
theorem Vj {f:Nat} {x:Expr}:NZ f x=some (zrx x):=rfl
theorem Vn {f:Nat} {x:Expr}:N9 f x=some (zrx x):=rfl
structure Fw (c:Aa):Prop where
 i:∀ s∈c.Inputs,s.size<=200
 n:∀ x∈c.Signals,x.Name.size<=200
 on:∀ x∈c.Signals,Lt_ x.On/\NU FF x.On=some true
 off:∀ x∈c.Signals,Lt_ x.Off/\NU FF x.Off=some true
theorem Fw.nm {c:Aa} (h:Fw c) (i:Nat):(nmF c i).size<=200:=by
 unfold nmF;split
 ·show 2<=200;omega
 ·split
  ·rw [GU];cases hx:c.Inputs[i - 2 * cA c]? with
   | none=>show 0<=200;omega
   | some s=>exact h.i s (GM hx)
  ·cases hx:c.Signals[i - cS c]? with
   | none=>show 0<=200;omega
   | some x=>exact h.n x (GM hx)
def gate (c:Aa) (k:Nat):Bool:=match c.Signals[k]? with | some y=>y.Kind == 0 | none=>false
def late (c:Aa) (i:Nat) (x:Ad):Bool:=(List.range c.Signals.length).any λk=>decide (i<=k) && (gate c k && occ 16 ((cS c + k:Nat):Int) x.On)
def sge (c:Aa) (i:Nat) (x:Ad):Int:=
 if nme c (cS c + i)≠0 then nme c (cS c + i) else if x.Kind < 0\/3<=x.Kind then 1 else if chE 16 (cL c) x.On≠0 then chE 16 (cL c) x.On else
 if x.Kind=1 then (if chE 16 (cL c) x.Off≠0 then chE 16 (cL c) x.Off else if x.Delay≠0 then 3 else 0)
 else if x.Kind=0 then (if late c i x=true then 9 else if (!zrx x.Off || x.Init || x.Delay != 0)=true then 3 else 0)
 else (if x.Delay < 1\/x.Delay > 1000000 then 2 else if (!zrx x.Off || x.Init)=true then 3 else 0)
theorem B4 {c:Aa} (h:Bd_ c) {i:Nat} {x:Ad} (hx:c.Signals[i]?=some x) (hd:dp 16 x.On):NY FF c (i:Int)=some (late c i x):=by
 have h1:=h.a';have h2:=h.i;have h3:=h.s;have hS:cS c=2 * cA c + c.Inputs.length:=rfl;have hi:=(GE.1 hx).1;unfold NY;have hl:=Zw (L:=Km FF c (i:Int)) (N:=c.Signals.length) (Q:=λk=>gate c k && occ 16 ((cS c + k:Nat):Int) x.On) (r:=λ_=>true) (λn k hk=>by
  rw [Km,Aj,dt_ hk,ct_,Ai,gE_ hk,ob_,Am om_];unfold gate;rw [gE_ hk];dsimp only;cases hg:(c.Signals[k].Kind == 0) with
  | false=>rfl
  | true=>
   rw [ct_,Ai,hx,ob_,Ex h,ob_,As om_ om_,show (cS c:Int) + (k:Int)=((cS c + k:Nat):Int) by omega,Ve 16 FF _ _ hd uF];simp only [ob_,HY]) (λn=>by
  rw [Km,Aj,df_ om_,cf_]) FF i om_ uF
 unfold late;rcases hl with ⟨k,hk1,hk,hq,h⟩ | ⟨h,hn⟩
 ·rw [h,G8.2 ⟨k,GX.2 hk,by rw [hq,dt_ hk1];rfl⟩];rfl
 ·rw [h];have:((List.range c.Signals.length).any λk=>decide (i<=k) && (gate c k && occ 16 ((cS c + k:Nat):Int) x.On))=false:=by
   rw [HQ];intro k hk;have hk:=GX.1 hk;by_cases hik:i<=k
   ·rw [hn k hik hk];simp
   ·rw [df_ hik];simp
  rw [this];rfl
theorem CG {c:Aa} (h:Bd_ c) (hw:Fw c) {i:Nat} {x:Ad} (hx:c.Signals[i]?=some x):N0 FF c (i:Int)=some (sge c i x):=by
 have h1:=h.a';have h2:=h.i;have h3:=h.s;have hS:cS c=2 * cA c + c.Inputs.length:=rfl;have hL:cL c=cS c + c.Signals.length:=rfl;have hi:=(GE.1 hx).1;have hxm:=GM hx;obtain ⟨on1,on2⟩:=hw.on x hxm;obtain ⟨of1,of2⟩:=hw.off x hxm;have hF:600<=FF:=by unfold FF;omega
 unfold N0 sge;rw [Ai,hx,ob_,Ex h,ob_,As om_ om_,show (cS c:Int) + (i:Int)=((cS c + i:Nat):Int) by omega,Vs h om_ (hw.nm _) hF,ob_];by_cases e1:nme c (cS c + i)=0
 ·rw [e1,if_neg smp_,zf_,cf_];by_cases e2:x.Kind < 0\/3<=x.Kind
  ·rw [if_pos e2,show (decide (x.Kind < 0) || decide (x.Kind>=(3:Int)))=true by simpa using e2,ct_]
  ·rw [if_neg e2,show (decide (x.Kind < 0) || decide (x.Kind>=(3:Int)))=false by simp;omega,cf_,Ew h,ob_,Vk on1 on2 om_ om_ hF,ob_];by_cases e3:chE 16 (cL c) x.On=0
   ·rw [e3,if_neg smp_,zf_,cf_];have hk:x.Kind=0\/x.Kind=1\/x.Kind=2:=by omega
    rcases hk with k | k | k <;> rw [k]
    ·simp only [show ((0:Int) == 1)=false by rfl,show ((0:Int) == 0)=true by rfl,show ((0:Int) == 2)=false by rfl,cf_,ct_,JC,JB,HY];rw [B4 h hx on1.dp,ob_,ob_,Vj,ob_,ob_];simp only [show ¬ ((0:Int)=1) by omega,if_false,if_true];cases late c i x with
     | true=>rfl
     | false=>
      simp only [cf_];cases zrx x.Off <;> cases x.Init <;> cases (x.Delay != 0) <;> rfl
    ·simp only [show ((1:Int) == 1)=true by rfl,show ((1:Int) == 0)=false by rfl,show ((1:Int) == 2)=false by rfl,cf_,ct_,JC,JB,HY,HS,HJ,if_true];rw [ob_,Vk of1 of2 om_ om_ hF,ob_];by_cases e4:chE 16 (cL c) x.Off=0
     ·rw [e4,zf_,cf_,if_neg smp_,ob_,cf_,ob_,HJ];by_cases e5:x.Delay=0
      ·rw [if_neg (by simpa using e5),e5];rfl
      ·rw [if_pos e5,show (x.Delay != 0)=true by simpa using e5];rfl
     ·rw [if_pos e4,show (chE 16 (cL c) x.Off != 0)=true by simpa using e4,ct_]
    ·simp only [show ((2:Int) == 1)=false by rfl,show ((2:Int) == 0)=false by rfl,show ((2:Int) == 2)=true by rfl,cf_,ct_,JC,JB,HY,HS,J6,if_true,show ¬ ((2:Int)=1) by omega,show ¬ ((2:Int)=0) by omega,if_false,ob_];rw [Vj,ob_];by_cases e5:x.Delay < 1\/x.Delay > 1000000
     ·rw [if_pos e5,show (decide (x.Delay < 1) || decide (x.Delay > 1000000))=true by simpa using e5,ct_]
     ·rw [if_neg e5,show (decide (x.Delay < 1) || decide (x.Delay > 1000000))=false by simp;omega,cf_,ob_];cases zrx x.Off <;> cases x.Init <;> rfl
   ·rw [if_pos e3,show (chE 16 (cL c) x.On != 0)=true by simpa using e3,ct_]
 ·rw [if_pos e1,show (nme c (cS c + i) != 0)=true by simpa using e1,ct_]
def pr (c:Aa) (i:Nat) (k:Int):Bool:=decide (k - (cS c:Int)>=(i:Int)) && gate c (k - (cS c:Int)).toNat
theorem CD {f:Nat} {c:Aa} (h:Bd_ c) {i:Nat} {k:Int} (hk0:0<=k) (hk:k < cL c) (m:List (MA×Int)) (b:Bool) :
  O6 f k (i:Int) c.Actuators c.Inputs c.Signals c.Plus c.Minus m b=some (b || pr c i k):=by
 have h1:=h.a';have h2:=h.i;have h3:=h.s;have hS:cS c=2 * cA c + c.Inputs.length:=rfl;have hL:cL c=cS c + c.Signals.length:=rfl;unfold O6 pr;have e:(⟨c.Actuators,c.Inputs,c.Signals,c.Plus,c.Minus⟩:Aa)=c:=rfl;rw [e,Je h,ob_,As om_ om_];cases b with
 | true=>rfl
 | false=>
  rw [cf_,HJ];by_cases hg:k - (cS c:Int)>=(i:Int)
  ·obtain ⟨j,hj⟩:=LH (show 0<=k - (cS c:Int) by omega);rw [dt_ hg,ct_,hj,Ai,gE_ om_,ob_,ob_,ob_];unfold gate;rw [show ((j:Int)).toNat=j by simp,gE_ om_];rfl
  ·rw [df_ hg];rfl
theorem Vi {c:Aa} (h:Bd_ c) {i:Nat} (m:List (MA×Int)):∀ (d f:Nat) (x:Expr) (b:Bool),okE d (cL c) x->d + 300<=f ->
  O7 f x c.Actuators c.Inputs c.Signals c.Plus c.Minus m b (i:Int)=some (b || F5 d (pr c i) x)
 | 0,_,_,_,h,_=>h.elim
 | d + 1,f,x,b,ho,hf=>by
  obtain ⟨f,rfl⟩:∃ f',f=f' + 1:=⟨f - 1,by omega⟩;obtain ⟨hn,hl,ha⟩:=ho;obtain ⟨o1,o2,o3,o4,o5,i1,i2⟩:=Hy hn;unfold O7 F5;have loop:∀ (n j:Nat) (b:Bool),j<=x.Args.length->x.Args.length - j < n ->
    Ob (O7 f) x c.Actuators c.Inputs c.Signals c.Plus c.Minus m (i:Int) n ((j:Int),b)=some ((x.Args.length:Int),b || (x.Args.drop j).any (F5 d (pr c i))):=by
   intro n
   induction n with
   | zero=>intro j _ _ h;omega
   | succ n ihn=>
    intro j b hj hnn;unfold Ob;dsimp only;by_cases h3:j < x.Args.length
    ·rw [Aj,dt_ h3,ct_,Ai,gE_ h3,ob_,Vi h m d f _ b (ha _ (GF h3)) om_,ob_,Am om_,ihn (j + 1) _ om_ om_,GG h3,LC,Bool.or_assoc]
    ·rw [Aj,df_ h3,cf_,GT om_];have:j=x.Args.length:=by omega
     subst this;simp
  by_cases h1:x.Op=1
  ·rw [if_pos h1,show (x.Op == 1)=true by simpa using h1,ct_,CD h i1 (i2 h1),ob_,ob_];have h3:=loop f 0 (b || pr c i x.Index) om_ om_;rw [n0,GL] at h3;rw [h3,o3 om_];simp
  ·rw [if_neg h1,show (x.Op == 1)=false by simpa using h1,cf_,ob_];have h3:=loop f 0 b om_ om_;rw [n0,GL] at h3;rw [h3];rfl
theorem late_eq {c:Aa} {i:Nat} {x:Ad} (ho:okE 16 (cL c) x.On):F5 16 (pr c i) x.On=late c i x:=by
 have hL:cL c=cS c + c.Signals.length:=rfl;rw [HU,Ts];unfold late;rw [G8];constructor
 ·rintro ⟨k,hp,hk⟩;have hl:=FE ho hk;unfold pr at hp;rw [GH] at hp;obtain ⟨hp1,hp2⟩:=hp;have hp1:k - (cS c:Int)>=(i:Int):=by simpa using hp1
  refine ⟨(k - (cS c:Int)).toNat,GX.2 om_,?_⟩;rw [dt_ om_,hp2,show ((cS c + (k - (cS c:Int)).toNat:Nat):Int)=k by omega,hk];rfl
 ·rintro ⟨j,hj,hq⟩;rw [GH,GH] at hq;obtain ⟨h1,h2,h3⟩:=hq;have h1:i<=j:=by simpa using h1
  refine ⟨_,?_,h3⟩;unfold pr;rw [show ((cS c + j:Nat):Int) - (cS c:Int)=(j:Int) by omega,show ((j:Int)).toNat=j by simp,h2,dt_ om_];rfl
theorem CN {c:Aa} (h:Bd_ c) (hw:Fw c) {i:Nat} {x:Ad} (hx:c.Signals[i]?=some x) {m:List (MA×Int)} (hm:Zu c (cS c + i) m) :
  ∃ m',PC FF (i:Int) c.Actuators c.Inputs c.Signals c.Plus c.Minus m=some (sge c i x,m')/\(sge c i x=0->Zu c (cS c + (i + 1)) m'):=by
 have h1:=h.a';have h2:=h.i;have h3:=h.s;have hS:cS c=2 * cA c + c.Inputs.length:=rfl;have hL:cL c=cS c + c.Signals.length:=rfl;have hi:=(GE.1 hx).1;have hxm:=GM hx;obtain ⟨on1,on2⟩:=hw.on x hxm;obtain ⟨of1,of2⟩:=hw.off x hxm;have hF:600<=FF:=by unfold FF;omega
 have hnm:nmF c (cS c + i)=x.Name:=by
  unfold nmF;rw [if_neg om_,if_neg om_,show cS c + i - cS c=i by omega,hx];rfl
 have e:(⟨c.Actuators,c.Inputs,c.Signals,c.Plus,c.Minus⟩:Aa)=c:=rfl;unfold PC sge;obtain ⟨m',hm',hk'⟩:=Vv h (hw.nm (cS c + i)) hF hm c.Actuators c.Inputs c.Signals c.Plus c.Minus;rw [hnm] at hm';rw [Ai,hx,ob_,hm',ob_];dsimp only;refine ⟨m',?_,λh0=>?_⟩
 ·by_cases e1:nme c (cS c + i)=0
  ·rw [e1,if_neg smp_,zf_,cf_];by_cases e2:x.Kind < 0\/3<=x.Kind
   ·rw [if_pos e2,show (decide (x.Kind < 0) || decide (x.Kind>=(3:Int)))=true by simpa using e2,ct_]
   ·rw [if_neg e2,show (decide (x.Kind < 0) || decide (x.Kind>=(3:Int)))=false by simp;omega,cf_,e,Ol h,ob_,Oj on1 om_ om_ hF,ob_];by_cases e3:chE 16 (cL c) x.On=0
    ·rw [e3,if_neg smp_,zf_,cf_];have hok:=okE.of on1.dp e3;have hk:x.Kind=0\/x.Kind=1\/x.Kind=2:=by omega
     rcases hk with k | k | k <;> rw [k]
     ·rw [show idx (List.range 3) (0:Int)=some 0 by rfl,ob_,show ((0:Nat) == 0)=true by rfl,ct_,if_neg om_,if_pos rfl];unfold O9 O8;rw [Ai,hx,ob_,Vi h m' 16 FF x.On false hok uF,ob_,ob_,HJ,late_eq hok,Vn];cases late c i x with
      | true=>rfl
      | false=>cases zrx x.Off <;> cases x.Init <;> cases (x.Delay != 0) <;> rfl
     ·rw [show idx (List.range 3) (1:Int)=some 1 by rfl,ob_,show ((1:Nat) == 0)=false by rfl,cf_,show ((1:Nat) == 1)=true by rfl,ct_,if_pos rfl];unfold PA;rw [e,Ol h,Ai,hx,ob_,ob_,Oj of1 om_ om_ hF,ob_];by_cases e4:chE 16 (cL c) x.Off=0
      ·rw [e4,zf_,cf_,if_neg smp_,ob_];by_cases e5:x.Delay=0
       ·rw [if_neg (by simpa using e5),e5];rfl
       ·rw [if_pos e5,show (x.Delay != 0)=true by simpa using e5];rfl
      ·rw [if_pos e4,show (chE 16 (cL c) x.Off != 0)=true by simpa using e4,ct_];rfl
     ·rw [show idx (List.range 3) (2:Int)=some 2 by rfl,ob_,show ((2:Nat) == 0)=false by rfl,cf_,show ((2:Nat) == 1)=false by rfl,cf_,show ((2:Nat) == 2)=true by rfl,ct_,if_neg om_,if_neg om_];unfold PB;rw [Ai,hx,ob_,Vn];by_cases e5:x.Delay < 1\/x.Delay > 1000000
      ·rw [if_pos e5,show (decide (x.Delay < 1) || decide (x.Delay > 1000000))=true by simpa using e5];rfl
      ·rw [if_neg e5,show (decide (x.Delay < 1) || decide (x.Delay > 1000000))=false by simp;omega];cases zrx x.Off <;> cases x.Init <;> rfl
    ·rw [if_pos e3,show (chE 16 (cL c) x.On != 0)=true by simpa using e3,ct_]
  ·rw [if_pos e1,show (nme c (cS c + i) != 0)=true by simpa using e1,ct_]
 ·refine hk' ?_;by_cases e1:nme c (cS c + i)=0
  ·exact e1
  ·rw [if_pos e1] at h0;exact h0
theorem CM {f:Nat} {c:Aa} (h:Bd_ c) {k:Int}:PD f k c=some (bad (cL c) k):=by
 unfold PD bad;rw [Ol h];cases decide (k < 0) <;> rfl
theorem Xc {c:Aa} (h:Bd_ c) {xs:L6} (hl:xs.length < 1000):Wf FF xs c=some (xs.any (bad (cL c))):=by
 unfold Wf Yx;have h5:=AS (L:=Jh FF xs c) (xs:=xs) (p:=λ_ y=>PD FF y c) (q:=bad (cL c)) (r:=λz=>z) (λ_ _=>rfl) om_ (λi y hy=>CM h) FF 0 om_ uF;rw [n0,GL] at h5;rw [h5];cases h6:xs.findIdx? (bad (cL c)) with
 | none=>
  rw [HK] at h6;have:xs.any (bad (cL c))=false:=HQ.2 λy hy=>by simpa using h6 y hy
  rw [this];rfl
 | some j=>
  obtain ⟨hj,hj2,_⟩:=G7.1 h6;have:xs.any (bad (cL c))=true:=G8.2 ⟨_,GF hj,by simpa using hj2⟩;rw [this];simp
theorem Ph {p q:L6} (hp:p.length<=400000000) (hq:q.length<=400000000):OZ FF [p,q]=some (p ++ q):=by
 unfold OZ;have h1:Fp [p,q] FF ((0:Int),(0:Int))=some (((p.length + q.length:Nat):Int),2):=by
  show Fp [p,q] (99997 + 1 + 1 + 1) _=_;unfold Fp;rw [show decide ((0:Int) < (([p,q]:List L6).length:Int))=true by rfl,ct_,show idx [p,q] 0=some p by rfl,ob_];dsimp only;rw [As om_ om_,As om_ om_,df_ om_,cf_];unfold Fp;rw [show decide ((0:Int) + 1 < (([p,q]:List L6).length:Int))=true by rfl,ct_,show idx [p,q] (0 + 1)=some q by rfl,ob_];dsimp only;rw [As om_ om_,As om_ om_,df_ om_,cf_];unfold Fp;rw [show decide ((0:Int) + 1 + 1 < (([p,q]:List L6).length:Int))=false by rfl,cf_];congr 1;refine Prod.ext ?_ rfl;dsimp only;omega
 have h2:Fn [p,q] FF ((0:Int),[])=some ((2:Int),p ++ q):=by
  show Fn [p,q] (99997 + 1 + 1 + 1) _=_;unfold Fn app;rw [show decide ((0:Int) < (([p,q]:List L6).length:Int))=true by rfl,ct_,show idx [p,q] 0=some p by rfl,ob_,if_pos so_,ob_];dsimp only;rw [As om_ om_];unfold Fn app;rw [show decide ((0:Int) + 1 < (([p,q]:List L6).length:Int))=true by rfl,ct_,show idx [p,q] (0 + 1)=some q by rfl,ob_,if_pos so_,ob_];dsimp only;rw [As om_ om_];unfold Fn;rw [show decide ((0:Int) + 1 + 1 < (([p,q]:List L6).length:Int))=false by rfl,cf_];rfl
 rw [h1,ob_];unfold m138;rw [if_pos (by dsimp only;omega),ob_,h2];rfl
theorem Lw {c:Aa} (h:Bd_ c) {xs:L6} (hl:xs.length < 1000):Kr FF c xs FF (0:Int)=if xs.any (bad (cL c)) then some (.ret 6) else some (.brk (xs.length:Int)):=by
 have h5:=AS (L:=Kr FF c xs) (xs:=xs) (p:=λ_ y=>some (bad (cL c) y)) (q:=bad (cL c)) (r:=λ_=>6) (λn z=>by
  rw [Kr];congr 1;cases hx:idx xs z with
  | none=>rfl
  | some y=>
   rw [ob_,ob_,ob_,Ew h,ob_];unfold bad;cases decide (y < 0) <;> rfl) om_ (λi y hy=>rfl) FF 0 om_ (by unfold FF; omega)
 rw [n0,GL] at h5;rw [h5];cases h6:xs.findIdx? (bad (cL c)) with
 | none=>
  rw [HK] at h6;have:xs.any (bad (cL c))=false:=HQ.2 λy hy=>by simpa using h6 y hy
  rw [this];rfl
 | some j=>
  obtain ⟨hj,hj2,_⟩:=G7.1 h6;have:xs.any (bad (cL c))=true:=G8.2 ⟨_,GF hj,by simpa using hj2⟩;rw [this];rfl
def plE (c:Aa):Int:=if (c.Plus.length:Int)≠c.Actuators\/(c.Minus.length:Int)≠c.Actuators then 8 else if (c.Plus ++ c.Minus).any (bad (cL c)) then 6 else 0
theorem CF {c:Aa} (h:Bd_ c):N1 FF c=some (plE c):=by
 have h6:=h.a6;unfold N1 plE;by_cases h1:(c.Plus.length:Int)≠c.Actuators\/(c.Minus.length:Int)≠c.Actuators
 ·rw [if_pos h1,show (((c.Plus.length:Int) != c.Actuators) || ((c.Minus.length:Int) != c.Actuators))=true by simpa using h1,ct_]
 ·rw [if_neg h1,show (((c.Plus.length:Int) != c.Actuators) || ((c.Minus.length:Int) != c.Actuators))=false by simp;omega,cf_];have:Fe FF c FF (0:Int)=if (c.Plus ++ c.Minus).any (bad (cL c)) then some (.ret 6) else some (.brk 2):=by
   show Fe FF c (99997 + 1 + 1 + 1) _=_;unfold Fe;rw [show decide ((0:Int) < (([c.Plus,c.Minus]:List L6).length:Int))=true by rfl,ct_,show idx [c.Plus,c.Minus] 0=some c.Plus by rfl,ob_,Lw h om_,List.any_append];cases c.Plus.any (bad (cL c)) with
   | true=>rfl
   | false=>
    rw [if_neg smp_,ob_];dsimp only;rw [As om_ om_];unfold Fe;rw [show decide ((0:Int) + 1 < (([c.Plus,c.Minus]:List L6).length:Int))=true by rfl,ct_,show idx [c.Plus,c.Minus] (0 + 1)=some c.Minus by rfl,ob_,Lw h om_,HJ];cases c.Minus.any (bad (cL c)) with
    | true=>rfl
    | false=>
     rw [if_neg smp_,ob_];dsimp only;rw [As om_ om_];unfold Fe;rw [show decide ((0:Int) + 1 + 1 < (([c.Plus,c.Minus]:List L6).length:Int))=false by rfl,cf_];rfl
  rw [this];cases (c.Plus ++ c.Minus).any (bad (cL c)) <;> rfl
structure Rt (c:Aa):Prop where
 bd:Bd_ c
 sig:∀ x∈c.Signals,0<=x.Kind/\x.Kind < 3/\okE 16 (cL c) x.On/\(x.Kind=1->okE 16 (cL c) x.Off)
 plus:c.Plus.length=cA c
 minus:c.Minus.length=cA c
 lines:∀ l∈c.Plus ++ c.Minus,0<=l/\l < cL c
 ini:∀ x∈c.Signals,x.Kind=2->x.Init=false
theorem D1 {c:Aa} (hw:Fw c) {i:Nat} {x:Ad} (hx:c.Signals[i]?=some x) (h:sge c i x=0):(0<=x.Kind/\x.Kind < 3/\okE 16 (cL c) x.On/\(x.Kind=1->okE 16 (cL c) x.Off))/\(x.Kind=2->x.Init=false):=by
 have hxm:=GM hx;unfold sge at h;split at h
 ·contradiction
 ·split at h
  ·omega
  ·split at h
   ·contradiction
   ·rename_i h2 h3;refine ⟨⟨by omega,by omega,okE.of (hw.on x hxm).1.dp om_,λhk=>?_⟩,λhk=>?_⟩
    ·rw [if_pos hk] at h;split at h
     ·contradiction
     ·rename_i h4;exact okE.of (hw.off x hxm).1.dp om_
    ·rw [if_neg om_,if_neg om_] at h;split at h
     ·contradiction
     ·split at h
      ·contradiction
      ·rename_i h5;cases hi:x.Init with
       | false=>rfl
       | true=>rw [hi] at h5;simp at h5
def sgE (c:Aa) (i:Nat):Int:=match c.Signals[i]? with | some x=>sge c i x | none=>0
theorem Mb {c:Aa} (h:Bd_ c):∀ (n i:Nat) (m:List (MA×Int)),i<=2 * cA c->2 * cA c - i < n->Zu c i m->∃ z m',Oy FF c n ((i:Int),m)=some (z,m')/\Zu c (2 * cA c) m'
 | 0,i,_,_,h,_=>by omega
 | n + 1,i,m,h1,h2,hm=>by
  have ha:=h.a';have hL:cL c=2 * cA c + c.Inputs.length + c.Signals.length:=rfl;unfold Oy;dsimp only;rw [h.wa,Aj];by_cases hi:i < 2 * cA c
  ·rw [dt_ hi,ct_,CO h om_,ob_,Am om_];exact Mb h n (i + 1) _ om_ om_ (hm.put _)
  ·rw [df_ hi,cf_];obtain rfl:i=2 * cA c:=by omega
   exact ⟨_,m,rfl,hm⟩
theorem E6 {c:Aa} (hw:Fw c) (hs:c.Signals.length<=16\/64 < c.Signals.length):∃ e,m89 FF c=some e/\N2 FF c=some e/\(e=0->Rt c):=by
 unfold m89 PE N2;by_cases hA:c.Actuators < 1\/c.Actuators > 6
 ·have:(decide (c.Actuators < 1) || decide (c.Actuators > 6))=true:=by simpa using hA
  rw [this];exact ⟨2,rfl,rfl,by simp⟩
 have:(decide (c.Actuators < 1) || decide (c.Actuators > 6))=false:=by simp;omega
 rw [this,cf_,cf_];by_cases hI:c.Inputs.length > 16\/c.Signals.length > 64
 ·have:(decide ((c.Inputs.length:Int) > 16) || decide ((c.Signals.length:Int) > 64))=true:=by simp;omega
  rw [this];exact ⟨5,rfl,rfl,by simp⟩
 have:(decide ((c.Inputs.length:Int) > 16) || decide ((c.Signals.length:Int) > 64))=false:=by simp;omega
 rw [this,cf_,cf_];have h:Bd_ c:=⟨by omega,by omega,by omega,by omega⟩;have ha:=h.a';have h2:=h.i;have h3:=h.s;have hS:cS c=2 * cA c + c.Inputs.length:=rfl;have hL:cL c=cS c + c.Signals.length:=rfl;have hF:600<=FF:=by unfold FF;omega
 obtain ⟨z,m1,e1,k1⟩:=Mb h FF 0 [] om_ uF (Zu.zero c);rw [n0] at e1;rw [e1,ob_];dsimp only;have A1:=fnzI (L:=Kz FF c) (mk:=λi m=>((i:Int),m)) (N:=c.Inputs.length) (E:=λi=>nme c (2 * cA c + i)) (r:=λe=>Sum.inl e) (I:=λi m=>Zu c (2 * cA c + i) m) (λn i m hi hm=>by
  have hnm:nmF c (2 * cA c + i)=c.Inputs[i]:=by
   unfold nmF;rw [if_neg om_,if_pos om_,show 2 * cA c + i - 2 * cA c=i by omega];simp [gE_ hi]
  obtain ⟨m',hm',hk'⟩:=Vv h (hw.nm (2 * cA c + i)) hF hm c.Actuators c.Inputs c.Signals c.Plus c.Minus;rw [hnm] at hm';rw [Kz];dsimp only;rw [Aj,dt_ hi,ct_,Ai,gE_ hi,ob_,hm',ob_];dsimp only;refine ⟨λh0=>⟨m',hk' h0,?_⟩,λh0=>?_⟩
  ·rw [h0,zf_,cf_,Am om_]
  ·rw [show (nme c (2 * cA c + i) != 0)=true by simpa using h0,ct_]) (λn m _=>by
  rw [Kz];dsimp only;rw [Aj,df_ om_,cf_]) c.Inputs.length FF 0 m1 om_ uF k1
 have B1:=fnzI (L:=Ku FF c) (mk:=λi (_:Unit)=>(i:Int)) (N:=c.Inputs.length) (E:=λi=>nme c (2 * cA c + i)) (r:=λe=>e) (I:=λ_ _=>True) (λn i _ hi _=>by
  rw [Ku,Aj,dt_ hi,ct_,h.wa,As om_ om_,show ((2 * cA c:Nat):Int) + (i:Int)=((2 * cA c + i:Nat):Int) by omega,Vs h om_ (hw.nm _) hF,ob_];refine ⟨λh0=>⟨(),trivial,?_⟩,λh0=>?_⟩
  ·rw [h0,zf_,cf_,Am om_]
  ·rw [show (nme c (2 * cA c + i) != 0)=true by simpa using h0,ct_]) (λn _ _=>by
  rw [Ku,Aj,df_ om_,cf_]) c.Inputs.length FF 0 () om_ uF trivial
 try dsimp only at A1 B1
 rw [n0] at A1 B1;generalize DW (λi=>nme c (2 * cA c + i)) c.Inputs.length 0=E1 at A1 B1;rcases A1 with ⟨z1,m2,k2,A1⟩ | ⟨z1,A1⟩
 case inr=>
  rcases B1 with ⟨z2,_⟩ | ⟨_,B1⟩
  ·exact absurd z2 z1
  rw [A1,B1];exact ⟨E1,rfl,rfl,λh=>absurd h z1⟩
 rcases B1 with ⟨_,_,_,B1⟩ | ⟨z2,_⟩
 case inr=>exact absurd z1 z2
 rw [A1,B1,ob_,ob_];dsimp only;have hget:∀ i,i < c.Signals.length->∃ x,c.Signals[i]?=some x/\sgE c i=sge c i x:=λi hi=>⟨c.Signals[i],gE_ hi,by unfold sgE;rw [gE_ hi]⟩;have A2:=fnzI (L:=Ky FF c) (mk:=λi m=>((i:Int),m)) (N:=c.Signals.length) (E:=sgE c) (r:=λe=>Sum.inl e) (I:=λi m=>Zu c (cS c + i) m) (λn i m hi hm=>by
  obtain ⟨x,hx,hsg⟩:=hget i hi;obtain ⟨m',hm',hk'⟩:=CN h hw hx hm;rw [Ky,hsg];dsimp only;rw [Aj,dt_ hi,ct_,hm',ob_];dsimp only;refine ⟨λh0=>⟨m',hk' h0,?_⟩,λh0=>?_⟩
  ·rw [h0,zf_,cf_,Am om_]
  ·rw [show (sge c i x != 0)=true by simpa using h0,ct_]) (λn m _=>by
  rw [Ky];dsimp only;rw [Aj,df_ om_,cf_]) c.Signals.length FF 0 m2 om_ uF k2
 have B2:=fnzI (L:=Kt FF c) (mk:=λi (_:Unit)=>(i:Int)) (N:=c.Signals.length) (E:=sgE c) (r:=λe=>e) (I:=λ_ _=>True) (λn i _ hi _=>by
  obtain ⟨x,hx,hsg⟩:=hget i hi;rw [Kt,Aj,dt_ hi,ct_,CG h hw hx,ob_,hsg];refine ⟨λh0=>⟨(),trivial,?_⟩,λh0=>?_⟩
  ·rw [h0,zf_,cf_,Am om_]
  ·rw [show (sge c i x != 0)=true by simpa using h0,ct_]) (λn _ _=>by
  rw [Kt,Aj,df_ om_,cf_]) c.Signals.length FF 0 () om_ uF trivial
 try dsimp only at A2 B2
 rw [n0] at A2 B2;have hz:DW (sgE c) c.Signals.length 0=0->∀ j,j < c.Signals.length->sgE c j=0:=λh j hj=>Wj h j om_ om_;generalize DW (sgE c) c.Signals.length 0=E2 at A2 B2 hz;rcases A2 with ⟨z1,m3,k3,A2⟩ | ⟨z1,A2⟩
 case inr=>
  rcases B2 with ⟨z2,_⟩ | ⟨_,B2⟩
  ·exact absurd z2 z1
  rw [A2,B2];exact ⟨E2,rfl,rfl,λh=>absurd h z1⟩
 rcases B2 with ⟨_,_,_,B2⟩ | ⟨z2,_⟩
 case inr=>exact absurd z1 z2
 rw [A2,B2,ob_,ob_];dsimp only;rw [CF h];refine ⟨plE c,?_,rfl,λh0=>?_⟩
 ·unfold plE;by_cases h1:(c.Plus.length:Int)≠c.Actuators\/(c.Minus.length:Int)≠c.Actuators
  ·rw [if_pos h1,show (((c.Plus.length:Int) != c.Actuators) || ((c.Minus.length:Int) != c.Actuators))=true by simpa using h1,ct_];rfl
  ·rw [if_neg h1,show (((c.Plus.length:Int) != c.Actuators) || ((c.Minus.length:Int) != c.Actuators))=false by simp;omega,cf_];have h6:=h.a6;rw [Ph om_ om_,ob_,Xc h so_,ob_];cases (c.Plus ++ c.Minus).any (bad (cL c)) <;> rfl
 ·unfold plE at h0;split at h0
  ·contradiction
  ·split at h0
   ·contradiction
   ·rename_i h1 h2;have h6:=h.a;have hsz:∀ x∈c.Signals,(0<=x.Kind/\x.Kind < 3/\okE 16 (cL c) x.On/\(x.Kind=1->okE 16 (cL c) x.Off))/\(x.Kind=2->x.Init=false):=λx hx=>by
     obtain ⟨i,hi⟩:=KE hx;have h5:=hz z1 i (GE.1 hi).1;have:sge c i x=0:=by
      unfold sgE at h5;rw [hi] at h5;exact h5
     exact D1 hw hi this
    refine ⟨h,λx hx=>(hsz x hx).1,by omega,by omega,λl hl=>?_,λx hx=>(hsz x hx).2⟩
    ·have h5:(c.Plus ++ c.Minus).any (bad (cL c))=false:=by simpa using h2
     have:=HQ.1 h5 l hl;unfold bad at this;simp at this;omega
theorem EO (c:Aa):∃ b,m63 FF c=some b/\(b=true->Fw c/\(c.Signals.length<=16\/64 < c.Signals.length)):=by
 unfold m63;by_cases h1:c.Inputs.length > 32\/(c.Signals.length > 16/\c.Signals.length<=64)\/c.Signals.length > 128\/c.Plus.length > 40\/c.Minus.length > 40
 ·have:(((((decide ((c.Inputs.length:Int) > 32)) || ((decide ((c.Signals.length:Int) > 16)) && (decide ((c.Signals.length:Int)<=(64:Int))))) || (decide ((c.Signals.length:Int) > 128))) || (decide ((c.Plus.length:Int) > 40))) || (decide ((c.Minus.length:Int) > 40)))=true:=by
   simp;omega
  rw [this];exact ⟨false,rfl,by simp⟩
 ·have:(((((decide ((c.Inputs.length:Int) > 32)) || ((decide ((c.Signals.length:Int) > 16)) && (decide ((c.Signals.length:Int)<=(64:Int))))) || (decide ((c.Signals.length:Int) > 128))) || (decide ((c.Plus.length:Int) > 40))) || (decide ((c.Minus.length:Int) > 40)))=false:=by
   simp;omega
  rw [this,cf_];have h2:=AS (L:=Ym c) (xs:=c.Inputs) (p:=λ_ x=>some (decide ((x.size:Int) > 200))) (q:=λx=>decide ((x.size:Int) > 200)) (r:=λ_=>false) (λ_ _=>rfl) om_ (λ_ _ _=>rfl) FF 0 om_ uF;rw [n0,GL] at h2;cases hc:c.Inputs.findIdx? (λx=>decide ((x.size:Int) > 200)) with
  | some j=>rw [hc] at h2;rw [h2];exact ⟨false,rfl,by simp⟩
  | none=>
   rw [hc] at h2;rw [h2,ob_];dsimp only;rw [HK] at hc;have hF:600<=FF:=by unfold FF;omega
   let q:Ad->Bool:=λx=>decide ((x.Name.size:Int) > 200) || !((NU FF x.On).getD false) || !((NU FF x.Off).getD false)
   have h3:=AS (L:=Uq FF c) (xs:=c.Signals) (p:=λ_ x=>some (q x)) (q:=q) (r:=λ_=>false) (λn z=>by
    rw [Uq];congr 1;cases hx:idx c.Signals z with
    | none=>rfl
    | some x=>
     rw [ob_,ob_,ob_];obtain ⟨b1,e1,_⟩:=Jj hF x.On;obtain ⟨b2,e2,_⟩:=Jj hF x.Off;show _=bif q x then _ else _;simp only [q];rw [e1,e2];cases decide ((x.Name.size:Int) > 200) <;> cases b1 <;> cases b2 <;> rfl) om_ (λ_ _ _=>rfl) FF 0 om_ (by unfold FF; omega)
   rw [n0,GL] at h3;cases hd:c.Signals.findIdx? q with
   | some j=>rw [hd] at h3;rw [h3];exact ⟨false,rfl,by simp⟩
   | none=>
    rw [hd] at h3;rw [h3];rw [HK] at hd;refine ⟨true,rfl,λ_=>⟨⟨λs hs=>?_,λx hx=>?_,λx hx=>?_,λx hx=>?_⟩,by omega⟩⟩
    ·have:=hc s hs;simp at this;omega
    ·have:=hd x hx;simp only [q,JZ,decide_eq_false_iff_not] at this;omega
    ·have:=hd x hx;simp only [q,JZ,decide_eq_false_iff_not] at this;obtain ⟨b,e,hb⟩:=Jj hF x.On;have h5:=this.1.2;rw [e] at h5;have h5:b=true:=by simpa using h5
     exact ⟨hb h5,by rw [e,h5]⟩
    ·have:=hd x hx;simp only [q,JZ,decide_eq_false_iff_not] at this;obtain ⟨b,e,hb⟩:=Jj hF x.Off;have h5:=this.2;rw [e] at h5;have h5:b=true:=by simpa using h5
     exact ⟨hb h5,by rw [e,h5]⟩
end Go.Pn
namespace Go.Pn
open Go
theorem Qr {S σ:Type} {L:Nat->S->Option S} {mk:Nat->σ->S} {N:Nat} {I:Nat->σ->Prop}
  (h:∀ (n i:Nat) s,i < N->I i s->∃ s',I (i + 1) s'/\L (n + 1) (mk i s)=L n (mk (i + 1) s')) (h':∀ (n:Nat) s,I N s->L (n + 1) (mk N s)=some (mk N s)) :
  ∀ (n i:Nat) s,i<=N->N - i < n->I i s->∃ s',I N s'/\L n (mk i s)=some (mk N s')
 | 0,i,_,_,h,_=>by omega
 | n + 1,i,s,h1,h2,hI=>by
  by_cases hi:i < N
  ·obtain ⟨s',h3,h4⟩:=h n i s hi hI;rw [h4];exact Qr h h' n (i + 1) s' om_ om_ h3
  ·obtain rfl:i=N:=by omega
   exact ⟨s,hI,h' n s hI⟩
def upd {α:Type} (f:Nat->α) (l:List α) (i:Nat):List α:=(List.range i).map f ++ l.drop i
theorem Ce {α:Type} {f:Nat->α} {l:List α}:upd f l 0=l:=by simp [upd]
theorem Du {α:Type} {f:Nat->α} {l:List α}:upd f l l.length=(List.range l.length).map f:=by simp [upd]
theorem Jz {α:Type} {f:Nat->α} {l:List α} {i:Nat} (h:i<=l.length):(upd f l i).length=l.length:=by simp [upd];omega
theorem Cf {α:Type} {f:Nat->α} {l:List α} {i j:Nat} (h:i<=j):(upd f l i)[j]?=l[j]?:=by
 unfold upd;rw [G0 so_,JV];congr 1;simp;omega
theorem Dt {α:Type} {f:Nat->α} {l:List α} {i:Nat} {y:α} (h:i < l.length) (hy:y=f i):(upd f l i).set i y=upd f l (i + 1):=by
 subst hy;refine HV λj=>?_;by_cases e:j=i
 ·subst e;rw [HH (by rw [Jz om_];exact h)];unfold upd;rw [GP smp_];simp
 ·rw [HT om_];by_cases h2:j < i
  ·unfold upd;rw [GP so_,GP so_];simp [h2,show j < i + 1 by omega]
  ·rw [Cf om_,Cf om_]
structure Rc (c:Aa):Prop where
 rt:Rt c
 fw:Fw c
 ck:m89 FF c=some 0
 ck':N2 FF c=some 0
structure Fit (c:Aa) (s:Ac):Prop where
 e:s.Ends.length=cA c
 v:s.Valves.length=cA c
 i:s.Inputs.length=c.Inputs.length
 x:s.Values.length=c.Signals.length
 t:s.Timers.length=c.Signals.length
 ee:∀ a∈s.Ends,0<=a/\a < 4
 tt:∀ a∈s.Timers,0<=a/\a < 3
 k:∀ (i:Nat) x t v,c.Signals[i]?=some x->s.Timers[i]?=some t->s.Values[i]?=some v->(x.Kind≠2->t=0)/\(x.Kind=2->v=(t == 2))
def DE (s:Ac):L7:=s.Ends.flatMap λe=>[e == 0,e == 2]
def pre (s:Ac):L7:=DE s ++ s.Inputs
def vals (s:Ac):L7:=pre s ++ s.Values
theorem Qb {l:L6}:(l.flatMap λe=>[e == 0,e == 2]).length=2 * l.length:=by
 induction l with
 | nil=>rfl
 | cons a l ih=>rw [KQ,GC,ih];simp;omega
theorem FQ:∀ {l:L6} {j:Nat},(l.flatMap λe=>[e == 0,e == 2])[j]?=(l[j / 2]?).map λe=>if j % 2=0 then e == 0 else e == 2
 | [],j=>by simp
 | a :: l,0=>by simp
 | a :: l,1=>by simp
 | a :: l,j + 2=>by
  rw [KQ];show (List.flatMap (λe=>[e == 0,e == 2]) l)[j]?=_;rw [FQ,show (j + 2) / 2=j / 2 + 1 by omega,show (j + 2) % 2=j % 2 by omega];rfl
theorem Fit.pl {c:Aa} {s:Ac} (h:Fit c s):(pre s).length=cS c:=by
 unfold pre DE;rw [GC,Qb,h.e,h.i];rfl
theorem Fit.vl {c:Aa} {s:Ac} (h:Fit c s):(vals s).length=cL c:=by
 unfold vals;rw [GC,h.pl,h.x];rfl
theorem A3 {l:L6} {i:Nat} (h:i < l.length):(l.take (i + 1)).flatMap (λe=>[e == 0,e == 2])=(l.take i).flatMap (λe=>[e == 0,e == 2]) ++ [l[i] == 0,l[i] == 2]:=by
 rw [JY,gE_ h,List.flatMap_append];simp
theorem Of {c:Aa} {s:Ac} (hb:Bd_ c) (h1:s.Ends.length=cA c) (h2:s.Inputs.length<=1000) (h3:s.Values.length<=1000):MQ FF c s=some (vals s):=by
 have ha:=hb.a';unfold MQ;obtain ⟨acc,he,hl⟩:=Qr (L:=Da c s) (mk:=λi acc=>((i:Int),acc)) (N:=cA c) (I:=λi acc=>acc=(s.Ends.take i).flatMap λe=>[e == 0,e == 2]) (λn i acc hi hI=>by
  subst hI;refine ⟨_,rfl,?_⟩;rw [Da];dsimp only;have hlen:((s.Ends.take i).flatMap λe=>[e == 0,e == 2]).length<=1000:=by rw [Qb,H6];omega
  unfold app;rw [hb.a,Aj,dt_ hi,ct_,Ai,gE_ om_,ob_,ob_,if_pos (by simp only [JM,LO];omega),ob_,Am om_,A3 om_]) (λn acc _=>by
  rw [Da];dsimp only;rw [hb.a,Aj,df_ om_,cf_]) FF 0 [] om_ uF rfl
 subst he;try dsimp only at hl
 rw [n0] at hl;rw [hl,ob_];dsimp only;rw [HG om_];have h4:(s.Ends.flatMap λe=>[e == 0,e == 2]).length<=1000:=by rw [Qb];omega
 unfold app;rw [if_pos om_,ob_,if_pos (by rw [GC];omega),ob_];rfl
theorem BY:∀ {c:Aa} {s:Ac} {n z},Ch c s n z=Da c s n z:=by
 intro c s n
 induction n with
 | zero=>intro z;rfl
 | succ n ih=>intro z;rw [Ch,Da];simp only [ih]
theorem Og {c:Aa} {s:Ac} (hb:Bd_ c) (h1:s.Ends.length=cA c) (h2:s.Inputs.length<=1000) (h3:s.Values.length<=1000):Ro FF c s=some (vals s):=by
 rw [← Of hb h1 h2 h3];unfold Ro MQ;simp only [BY]
theorem Lv {s:Ac} (h1:s.Ends.length<=1000):Ed s FF ((0:Int),[])=some ((s.Ends.length:Int),DE s):=by
 obtain ⟨acc,he,hl⟩:=Qr (L:=Ed s) (mk:=λi acc=>((i:Int),acc)) (N:=s.Ends.length) (I:=λi acc=>acc=(s.Ends.take i).flatMap λe=>[e == 0,e == 2]) (λn i acc hi hI=>by
  subst hI;refine ⟨_,rfl,?_⟩;rw [Ed];dsimp only;have hlen:((s.Ends.take i).flatMap λe=>[e == 0,e == 2]).length<=10000:=by rw [Qb,H6];omega
  unfold app;rw [Aj,dt_ hi,ct_,Ai,gE_ om_,ob_,if_pos (by simp only [JM,LO];omega),ob_,Am om_,A3 om_]) (λn acc _=>by
  rw [Ed];dsimp only;rw [Aj,df_ om_,cf_]) FF 0 [] om_ uF rfl
 subst he;try dsimp only at hl
 rw [n0] at hl;rw [hl,HG om_];rfl
theorem B9 {s:Ac} (h1:s.Ends.length<=1000) (h2:s.Inputs.length<=1000) (h3:s.Values.length<=1000):PJ FF s=some (vals s):=by
 unfold PJ;rw [Lv h1,ob_];dsimp only;have h4:(DE s).length<=10000:=by unfold DE;rw [Qb];omega
 unfold app;rw [if_pos om_,ob_,if_pos (by rw [GC];omega),ob_];rfl
theorem BQ {p q r:L7} (hp:p.length<=1000000) (hq:q.length<=1000000) (hr:r.length<=1000000):P2 FF [p,q,r]=some (p ++ q ++ r):=by
 unfold P2;have h1:Eb [p,q,r] FF ((0:Int),(0:Int))=some (((p.length + q.length + r.length:Nat):Int),3):=by
  show Eb [p,q,r] (99996 + 1 + 1 + 1 + 1) _=_;unfold Eb;rw [show decide ((0:Int) < (([p,q,r]:List L7).length:Int))=true by rfl,ct_,show idx [p,q,r] 0=some p by rfl,ob_];dsimp only;rw [As om_ om_,As om_ om_,df_ om_,cf_];unfold Eb;rw [show decide ((0:Int) + 1 < (([p,q,r]:List L7).length:Int))=true by rfl,ct_,show idx [p,q,r] (0 + 1)=some q by rfl,ob_];dsimp only;rw [As om_ om_,As om_ om_,df_ om_,cf_];unfold Eb;rw [show decide ((0:Int) + 1 + 1 < (([p,q,r]:List L7).length:Int))=true by rfl,ct_,show idx [p,q,r] (0 + 1 + 1)=some r by rfl,ob_];dsimp only;rw [As om_ om_,As om_ om_,df_ om_,cf_];unfold Eb;rw [show decide ((0:Int) + 1 + 1 + 1 < (([p,q,r]:List L7).length:Int))=false by rfl,cf_];congr 1;refine Prod.ext ?_ rfl;dsimp only;omega
 have h2:Dz [p,q,r] FF ((0:Int),[])=some ((3:Int),p ++ q ++ r):=by
  show Dz [p,q,r] (99996 + 1 + 1 + 1 + 1) _=_;unfold Dz app;rw [show decide ((0:Int) < (([p,q,r]:List L7).length:Int))=true by rfl,ct_,show idx [p,q,r] 0=some p by rfl,ob_,if_pos so_,ob_];dsimp only;rw [As om_ om_];unfold Dz app;rw [show decide ((0:Int) + 1 < (([p,q,r]:List L7).length:Int))=true by rfl,ct_,show idx [p,q,r] (0 + 1)=some q by rfl,ob_,if_pos so_,ob_];dsimp only;rw [As om_ om_];unfold Dz app;rw [show decide ((0:Int) + 1 + 1 < (([p,q,r]:List L7).length:Int))=true by rfl,ct_,show idx [p,q,r] (0 + 1 + 1)=some r by rfl,ob_,if_pos so_,ob_];dsimp only;rw [As om_ om_];unfold Dz;rw [show decide ((0:Int) + 1 + 1 + 1 < (([p,q,r]:List L7).length:Int))=false by rfl,cf_];rfl
 rw [h1,ob_];unfold m273;rw [if_pos (by dsimp only;omega),ob_,h2];rfl
theorem AH:∀ {s:Ac} {n z},Ny s.Ends n z=Ed s n z:=by
 intro s n
 induction n with
 | zero=>intro z;rfl
 | succ n ih=>intro z;rw [Ny,Ed];simp only [ih]
theorem Vb {s:Ac} (h1:s.Ends.length<=1000) (h2:s.Inputs.length<=1000) (h3:s.Values.length<=1000) (a b c d e f):QG FF a b c d e f s.Ends s.Valves s.Inputs s.Values s.Timers=some (vals s):=by
 unfold QG;rw [AH,Lv h1,ob_];dsimp only;have h4:(DE s).length<=10000:=by unfold DE;rw [Qb];omega
 rw [BQ om_ om_ om_,ob_];rfl
theorem Mn {xs:L6} (h:xs.length<=1000):m33 FF xs=some xs:=by
 unfold m33 app;rw [if_pos so_];rfl
theorem Dj {xs:L7} (h:xs.length<=1000):PG FF xs=some xs:=by
 unfold PG app;rw [if_pos so_];rfl
def tup (s:Ac):L6×L7×L7×L7×L6:=(s.Ends,s.Valves,s.Inputs,s.Values,s.Timers)
theorem Dl {s:Ac} (h:Smst s 1000):MX FF s=some (tup s):=by
 obtain ⟨h1,h2,h3,h4,h5⟩:=h;unfold MX app;rw [if_pos so_,ob_,if_pos so_,ob_,if_pos so_,ob_,if_pos so_,ob_,if_pos so_,ob_];rfl
theorem Nz {s:Ac} (h:Smst s 1000):PU FF s=some (tup s):=by
 obtain ⟨h1,h2,h3,h4,h5⟩:=h;unfold PU;rw [Mn h1,ob_,Dj h2,ob_,Dj h3,ob_,Dj h4,ob_,Mn h5,ob_];rfl
theorem Vt {s:Ac} (h:Smst s 1000):PS FF s=some (tup s):=Nz h
theorem Fit.sm {c:Aa} {s:Ac} (hb:Bd_ c) (h:Fit c s):Smst s 1000:=by
 have h1:=hb.a';have h2:=hb.i;have h3:=hb.s;obtain ⟨a1,a2,a3,a4,a5⟩:=h;constructor <;> omega
def Py (c:Aa) (p:L7) (i:Nat) (v:L7):L7:=match c.Signals[i]? with
 | some x=>if x.Kind=0 then v.set i (ev 16 (p ++ v) x.On) else v
 | none=>v
def Er (c:Aa) (s:Ac):Nat->L7
 | 0=>s.Values
 | i + 1=>Py c (pre s) i (Er c s i)
def Au (c:Aa) (s:Ac):Ac:=⟨s.Ends,s.Valves,s.Inputs,Er c s c.Signals.length,s.Timers⟩
theorem Ek {c:Aa} {s:Ac}:∀ {i:Nat},(Er c s i).length=s.Values.length
 | 0=>rfl
 | i + 1=>by
  unfold Er Py;split
  ·split
   ·rw [JH,Ek]
   ·exact Ek
  ·exact Ek
theorem A6 {p v:L7} {i:Nat} {b:Bool}:(p ++ v).set (p.length + i) b=p ++ v.set i b:=by
 rw [List.set_append];rw [if_neg om_];congr 2;omega
theorem Vp {c:Aa} {s:Ac} (hc:Rt c) (h:Fit c s):M6 FF c s=some (Au c s):=by
 have hb:=hc.bd;have h1:=hb.a';have h2:=hb.i;have h3:=hb.s;unfold M6;rw [Dl (h.sm hb),ob_];obtain ⟨v,he,hl⟩:=Qr (L:=Ey FF c (tup s)) (mk:=λi v=>((i:Int),v)) (N:=c.Signals.length) (I:=λi v=>v=Er c s i) (λn i v hi hI=>by
  subst hI;refine ⟨_,rfl,?_⟩;have hx:c.Signals[i]?=some c.Signals[i]:=gE_ hi;have hvl:=Ek (c:=c) (s:=s) (i:=i);rw [Ey];dsimp only;rw [Aj,dt_ hi,ct_,Ai,hx,ob_,Am om_];show _=Ey FF c (tup s) n (((i + 1:Nat):Int),Py c (pre s) i (Er c s i));unfold Py;rw [hx];dsimp only;by_cases hk:c.Signals[i].Kind=0
  ·rw [if_pos hk,show (c.Signals[i].Kind == 0)=true by simpa using hk,ct_,ob_];obtain ⟨_,_,ho,_⟩:=hc.sig _ (GF hi);have hv:vals ⟨(tup s).1,(tup s).2.1,(tup s).2.2.1,Er c s i,(tup s).2.2.2.2⟩=pre s ++ Er c s i:=rfl;rw [Of hb (by show s.Ends.length=_;exact h.e) (by show s.Inputs.length<=_;rw [h.i];omega) (by show (Er c s i).length<=_;rw [hvl,h.x];omega),hv,ob_,Jd 16 FF _ _ (by rw [GC,h.pl,hvl,h.x];exact ho) uF,ob_,Ai,gE_ (by rw [hvl,h.x];exact hi),ob_,ob_];simp
  ·rw [if_neg hk,show (c.Signals[i].Kind == 0)=false by simpa using hk,cf_,ob_]) (λn v _=>by
  rw [Ey];dsimp only;rw [Aj,df_ om_,cf_]) FF 0 s.Values om_ uF rfl
 subst he;try dsimp only at hl
 rw [n0] at hl;show ((Ey FF c (tup s) FF ((0:Int),s.Values)).bind _)=_;rw [hl];rfl
theorem BS {c:Aa} {s:Ac} (hc:Rt c) (h:Fit c s):QJ FF c.Actuators (cS c:Int) c.Inputs c.Signals c.Plus c.Minus s.Ends s.Valves s.Inputs s.Values s.Timers=some (Er c s c.Signals.length):=by
 have hb:=hc.bd;have h1:=hb.a';have h2:=hb.i;have h3:=hb.s;obtain ⟨s1,s2,s3,s4,s5⟩:=h.sm hb;unfold QJ;rw [Vb s1 s3 s4,ob_];obtain ⟨v,he,hl⟩:=Qr (L:=Hf FF (cS c:Int) c.Signals) (mk:=λi (v:L7×L7)=>((i:Int),v.1,v.2)) (N:=c.Signals.length) (I:=λi v=>v=(Er c s i,pre s ++ Er c s i)) (λn i v hi hI=>by
  subst hI;refine ⟨_,rfl,?_⟩;have hx:c.Signals[i]?=some c.Signals[i]:=gE_ hi;have hvl:=Ek (c:=c) (s:=s) (i:=i);have hS:cS c=2 * cA c + c.Inputs.length:=rfl;rw [Hf];dsimp only;rw [Aj,dt_ hi,ct_,Ai,hx,ob_,Am om_,As om_ om_];show _=Hf FF (cS c:Int) c.Signals n (((i + 1:Nat):Int),Py c (pre s) i (Er c s i),pre s ++ Py c (pre s) i (Er c s i));unfold Py;rw [hx];dsimp only;by_cases hk:c.Signals[i].Kind=0
  ·rw [if_pos hk,show (c.Signals[i].Kind == 0)=true by simpa using hk,ct_];obtain ⟨_,_,ho,_⟩:=hc.sig _ (GF hi);rw [Jc 16 FF _ _ (by rw [GC,h.pl,hvl,h.x];exact ho) uF,ob_,Ai,gE_ (by rw [hvl,h.x];exact hi),ob_,show (cS c:Int) + (i:Int)=((cS c + i:Nat):Int) by omega,Ai,gE_ (by rw [GC,h.pl,hvl,h.x];omega),ob_,ob_];dsimp only;rw [show ((cS c + i:Nat):Int).toNat=(pre s).length + i by rw [h.pl];omega,A6];simp
  ·rw [if_neg hk,show (c.Signals[i].Kind == 0)=false by simpa using hk,cf_,ob_]) (λn v _=>by
  rw [Hf];dsimp only;rw [Aj,df_ om_,cf_]) FF 0 (s.Values,vals s) om_ uF rfl
 subst he;try dsimp only at hl
 rw [n0] at hl;rw [hl];rfl
theorem okE.che:∀ {d:Nat} {n:Int} {x:Expr},okE d n x->chE d n x=0
 | 0,_,_,h=>h.elim
 | d + 1,n,x,h=>by
  unfold chE;rw [if_pos h.1];have:∀ l:List Expr,(∀ y∈l,okE d n y)->fnz (l.map (chE d n))=0:=by
   intro l
   induction l with
   | nil=>intro _;rfl
   | cons y l ih=>
    intro hl;rw [GQ];unfold fnz;rw [if_pos (hl y smp_).che];exact ih λz hz=>hl z (by simp [hz])
  exact this _ h.2.2
theorem B8 {n:Nat} {ls:L7} {x:Expr} (hx:Lt_ x) (ho:okE 16 n x) (hl:ls.length=n) (hn:n<=256):PP FF x ls=some (ev 16 ls x,0):=by
 subst hl;unfold PP;rw [Oj hx om_ om_ uF,ho.che,ob_,zf_,cf_,Vh 16 FF _ _ ho uF];rfl
theorem CL {c:Aa} {s:Ac} (hc:Rt c) (hw:Fw c) (h:Fit c s):PQ FF c s=some (tup (Au c s)):=by
 have hb:=hc.bd;have h1:=hb.a';have h2:=hb.i;have h3:=hb.s;obtain ⟨s1,s2,s3,s4,s5⟩:=h.sm hb;unfold PQ;rw [Mn s1,ob_,Dj s2,ob_,Dj s3,ob_,Dj s4,ob_,Mn s5,ob_,B9 s1 s3 s4,ob_];have hS:cS c=2 * cA c + c.Inputs.length:=rfl;have hL:cL c=cS c + c.Signals.length:=rfl;obtain ⟨v,he,hl⟩:=Qr (L:=Hq FF c) (mk:=λi (v:L7×L7)=>((i:Int),v.1,v.2)) (N:=c.Signals.length) (I:=λi v=>v=(Er c s i,pre s ++ Er c s i)) (λn i v hi hI=>by
  subst hI;refine ⟨_,rfl,?_⟩;have hx:c.Signals[i]?=some c.Signals[i]:=gE_ hi;have hvl:=Ek (c:=c) (s:=s) (i:=i);rw [Hq];dsimp only;rw [Aj,dt_ hi,ct_,Ai,hx,ob_,Je hb,Am om_];show _=Hq FF c n (((i + 1:Nat):Int),Py c (pre s) i (Er c s i),pre s ++ Py c (pre s) i (Er c s i));unfold Py;rw [hx];dsimp only;by_cases hk:c.Signals[i].Kind=0
  ·rw [if_pos hk,show (c.Signals[i].Kind == 0)=true by simpa using hk,ct_];obtain ⟨_,_,ho,_⟩:=hc.sig _ (GF hi);rw [B8 (hw.on _ (GF hi)).1 ho (by rw [GC,h.pl,hvl,h.x];rfl) om_,ob_,ob_,Ai,gE_ (by rw [hvl,h.x];exact hi),ob_,As om_ om_,show (cS c:Int) + (i:Int)=((cS c + i:Nat):Int) by omega,Ai,gE_ (by rw [GC,h.pl,hvl,h.x];omega),ob_,ob_];dsimp only;rw [show ((cS c + i:Nat):Int).toNat=(pre s).length + i by rw [h.pl];omega,A6];simp
  ·rw [if_neg hk,show (c.Signals[i].Kind == 0)=false by simpa using hk,cf_,ob_]) (λn v _=>by
  rw [Hq];dsimp only;rw [Aj,df_ om_,cf_]) FF 0 (s.Values,vals s) om_ uF rfl
 subst he;try dsimp only at hl
 rw [n0] at hl;rw [show vals (⟨s.Ends,s.Valves,s.Inputs,s.Values,s.Timers⟩:Ac)=vals s from rfl,hl];rfl
def ofb (ls:L7) (x:Ad):Bool:=(x.Kind == 1) && ev 16 ls x.Off
def chg (ls:L7) (x:Ad) (v:Bool) (t:Int):Bool×Int:=
 if x.Kind=1 then (if ev 16 ls x.On=ofb ls x then (v,t) else (ev 16 ls x.On,t))
 else if x.Kind=2 then (if ev 16 ls x.On=false then (false,0) else if t=0 then (v,1) else (v,t)) else (v,t)
def Gg (c:Aa) (g:Ac) (i:Nat):Bool×Int:=match c.Signals[i]? with
 | some x=>chg (vals g) x (g.Values.getD i false) (g.Timers.getD i 0)
 | none=>(false,0)
def nxtS (c:Aa) (g:Ac):Ac:=⟨g.Ends,g.Valves,g.Inputs,(List.range g.Values.length).map λi=>(Gg c g i).1,(List.range g.Timers.length).map λi=>(Gg c g i).2⟩
def Ke (c:Aa) (s:Ac):Ac:=nxtS c (Au c s)
theorem Fx {c:Aa} {s:Ac} (h:Fit c s):Fit c (Au c s):=by
 refine ⟨h.e,h.v,h.i,Ek.trans h.x,h.t,h.ee,h.tt,?_⟩;intro i x t v hx ht hv;refine ⟨λhk=>?_,λhk=>?_⟩
 ·have hi:i < s.Values.length:=by rw [h.x];exact (GE.1 hx).1
  exact (h.k i x t _ hx ht (gE_ hi)).1 hk
 ·-- the value of a timer is not a gate's
  have key:∀ n,(Er c s n)[i]?=s.Values[i]?:=by
   intro n
   induction n with
   | zero=>rfl
   | succ n ih=>
    unfold Er Py;cases hy:c.Signals[n]? with
    | none=>exact ih
    | some y=>
     dsimp only;split
     ·rename_i h0;have:n≠i:=λe=>by subst e;rw [hx] at hy;cases hy;omega
      rw [HT this];exact ih
     ·exact ih
  have hv':(Er c s c.Signals.length)[i]?=some v:=hv;rw [key] at hv';exact (h.k i x t v hx ht hv').2 hk
theorem FW {ls:L7} {x:Ad} {v:Bool} {t:Int} (h0:0<=t/\t < 3) (h:(x.Kind≠2->t=0)/\(x.Kind=2->v=(t == 2))) :
  (0<=(chg ls x v t).2/\(chg ls x v t).2 < 3)/\(x.Kind≠2->(chg ls x v t).2=0)/\(x.Kind=2->(chg ls x v t).1=((chg ls x v t).2 == 2)):=by
 unfold chg;by_cases h1:x.Kind=1
 ·rw [if_pos h1];split
  ·exact ⟨h0,h⟩
  ·exact ⟨h0,h.1,λh2=>by omega⟩
 ·rw [if_neg h1];by_cases h2:x.Kind=2
  ·rw [if_pos h2];split
   ·exact ⟨by simp,λh3=>absurd h2 h3,λ_=>rfl⟩
   ·split
    ·rename_i ht;refine ⟨by simp,λh3=>absurd h2 h3,λ_=>?_⟩;have:=h.2 h2;rw [ht] at this;exact this
    ·exact ⟨h0,h⟩
  ·rw [if_neg h2];exact ⟨h0,h⟩
theorem D8 {c:Aa} {g:Ac} (h:Fit c g):Fit c (nxtS c g):=by
 have hget:∀ (i:Nat) x,c.Signals[i]?=some x->∃ v t,g.Values[i]?=some v/\g.Timers[i]?=some t/\Gg c g i=chg (vals g) x v t:=by
  intro i x hx;have hi:=(GE.1 hx).1;have h1:i < g.Values.length:=by rw [h.x];exact hi
  have h2:i < g.Timers.length:=by rw [h.t];exact hi
  refine ⟨g.Values[i],g.Timers[i],gE_ h1,gE_ h2,?_⟩;unfold Gg;rw [hx];simp [gE_ h1,gE_ h2]
 refine ⟨h.e,h.v,h.i,by simp [nxtS,h.x],by simp [nxtS,h.t],h.ee,?_,?_⟩
 ·intro a ha;obtain ⟨i,hi,rfl⟩:=H2.1 ha;have hi:i < c.Signals.length:=by have:=GX.1 hi;rw [h.t] at this;exact this
  obtain ⟨v,t,h1,h2,h3⟩:=hget i _ (gE_ hi);rw [h3];exact (FW (h.tt t (GM h2)) (h.k i _ t v (gE_ hi) h2 h1)).1
 ·intro i x t v hx ht hv;obtain ⟨v0,t0,h1,h2,h3⟩:=hget i x hx;have hi:=(GE.1 hx).1;have ht':((List.range g.Timers.length).map λi=>(Gg c g i).2)[i]?=some t:=ht;have hv':((List.range g.Values.length).map λi=>(Gg c g i).1)[i]?=some v:=hv;rw [GW,HR (by rw [h.t];exact hi)] at ht';rw [GW,HR (by rw [h.x];exact hi)] at hv';have ht':=Option.some.inj ht';have hv':=Option.some.inj hv';dsimp only at ht' hv';rw [h3] at ht' hv';subst ht';subst hv';exact (FW (h.tt t0 (GM h2)) (h.k i x t0 v0 hx h2 h1)).2
theorem Sh {c:Aa} {s:Ac} (h:Fit c s):Fit c (Ke c s):=D8 (Fx h)
theorem Uz {c:Aa} {x:Ad} {ls:L7} (hl:ls.length=cL c) (ho:okE 16 (cL c) x.On) (hf:x.Kind=1->okE 16 (cL c) x.Off):MV FF x ls=some (ev 16 ls x.On,ofb ls x):=by
 unfold MV ofb;rw [Jd 16 FF _ _ (by rw [hl];exact ho) uF,ob_];by_cases hk:x.Kind=1
 ·rw [show (x.Kind == 1)=true by simpa using hk,ct_,Jd 16 FF _ _ (by rw [hl];exact hf hk) uF];rfl
 ·rw [show (x.Kind == 1)=false by simpa using hk];rfl
theorem BR {c:Aa} {g:Ac} (hc:Rt c) (h:Fit c g) {i:Nat} {x:Ad} (hx:c.Signals[i]?=some x):∃ s' b,MZ FF c g (i:Int)=some (s',b)/\s'.Values[i]?=some (Gg c g i).1/\s'.Timers[i]?=some (Gg c g i).2:=by
 have hb:=hc.bd;have h1:=hb.a';have h2:=hb.i;have h3:=hb.s;have hi:=(GE.1 hx).1;obtain ⟨k0,k3,ho,hf⟩:=hc.sig x (GM hx);have hv0:i < g.Values.length:=by rw [h.x];exact hi
 have ht0:i < g.Timers.length:=by rw [h.t];exact hi
 have hv:g.Values[i]?=some g.Values[i]:=gE_ hv0;have ht:g.Timers[i]?=some g.Timers[i]:=gE_ ht0;generalize g.Values[i]=v at hv;generalize g.Timers[i]=t at ht;have hci:Gg c g i=chg (vals g) x v t:=by
  unfold Gg;rw [hx];simp [hv,ht]
 unfold MZ;rw [Dl (h.sm hb),ob_,Ai,hx,ob_,Og hb h.e (by rw [h.i];omega) (by rw [h.x];omega),ob_,Uz h.vl ho hf,ob_,hci];unfold tup chg;dsimp only;simp only [Ai,hv,ht,ob_,G1];have hvl:i < g.Values.length:=by rw [h.x];exact hi
 have htl:i < g.Timers.length:=by rw [h.t];exact hi
 have hk:x.Kind=0\/x.Kind=1\/x.Kind=2:=by omega
 rcases hk with k | k | k <;> rw [k]
 ·simp only [show ((0:Int) == 1)=false by rfl,show ((0:Int) == 2)=false by rfl,JC,cf_,ob_,show ¬ ((0:Int)=1) by omega,show ¬ ((0:Int)=2) by omega,if_false];exact ⟨_,_,rfl,hv,ht⟩
 ·simp only [show ((1:Int) == 1)=true by rfl,show ((1:Int) == 2)=false by rfl,HY,JC,cf_,ob_,if_true];by_cases e:ev 16 (vals g) x.On=ofb (vals g) x
  ·rw [if_pos e,e];simp only [bne_self_eq_false,cf_];exact ⟨_,_,rfl,hv,ht⟩
  ·rw [if_neg e,show (ev 16 (vals g) x.On != ofb (vals g) x)=true by simpa using e,ct_];exact ⟨_,_,rfl,by dsimp only;rw [HH hvl],ht⟩
 ·simp only [show ((2:Int) == 1)=false by rfl,show ((2:Int) == 2)=true by rfl,HY,JC,cf_,ct_,ob_,show ¬ ((2:Int)=1) by omega,if_false,if_true];cases ev 16 (vals g) x.On with
  | false=>
   simp only [JB,ct_,if_true];exact ⟨_,_,rfl,by dsimp only;rw [HH hvl],by dsimp only;rw [HH htl]⟩
  | true=>
   simp only [HS,cf_,show ¬ (true=false) by simp,if_false];by_cases e:t=0
   ·rw [if_pos e,show (t == 0)=true by simpa using e,ct_];exact ⟨_,_,rfl,hv,by dsimp only;rw [HH htl];rfl⟩
   ·rw [if_neg e,show (t == 0)=false by simpa using e,cf_];exact ⟨_,_,rfl,hv,ht⟩
def onPi (c:Aa) (g:Ac) (i:Nat) (x:Int):Prop:=∃ j sig,j < i/\c.Signals[j]?=some sig/\x=((cS c + j:Nat):Int)/\(ev 16 (vals g) sig.On && ofb (vals g) sig)=true
def onP (c:Aa) (s:Ac) (x:Int):Prop:=onPi c (Au c s) c.Signals.length x
theorem Uj {c:Aa} {g:Ac} {x:Int}:¬ onPi c g 0 x:=λ⟨j,_,h,_⟩=>by omega
theorem Uk {c:Aa} {g:Ac} {i:Nat} {x:Int} (hi:i < c.Signals.length):onPi c g (i + 1) x↔onPi c g i x\/(x=((cS c + i:Nat):Int)/\(ev 16 (vals g) c.Signals[i].On && ofb (vals g) c.Signals[i])=true):=by
 constructor
 ·rintro ⟨j,sig,h1,h2,h3,h4⟩;by_cases h:j=i
  ·subst h;rw [gE_ hi] at h2;cases h2;exact .inr ⟨h3,h4⟩
  ·exact .inl ⟨j,sig,by omega,h2,h3,h4⟩
 ·rintro (⟨j,sig,h1,h2,h3,h4⟩ | ⟨h3,h4⟩)
  ·exact ⟨j,sig,by omega,h2,h3,h4⟩
  ·exact ⟨i,_,by omega,gE_ hi,h3,h4⟩
theorem onP_lt {c:Aa} {s:Ac} {x:Int} (h:onP c s x):∃ k:Nat,x=k/\k < cL c:=by
 obtain ⟨j,_,h1,_,h3,_⟩:=h;exact ⟨_,h3,by have hL:cL c=cS c + c.Signals.length:=rfl;omega⟩
theorem BG {l:L6} {x y:Int} {b:Bool} {p:Int->Prop} (h:∀ x,x∈l↔p x):x∈(if b=true then l ++ [y] else l)↔p x\/(x=y/\b=true):=by
 cases b
 ·rw [if_neg smp_,h];simp
 ·rw [if_pos rfl,GN,h];simp
theorem BT {c:Aa} {s:Ac} (hc:Rt c) (h:Fit c s):∃ l,M8 FF c s=some (Ke c s,l)/\l.length<=c.Signals.length/\∀ x,x∈l↔onP c s x:=by
 have hb:=hc.bd;have h1:=hb.a';have h2:=hb.i;have h3:=hb.s;have hg:=Fx h;have hS:cS c=2 * cA c + c.Inputs.length:=rfl;unfold M8;rw [Vp hc h,ob_,Dl (hg.sm hb),ob_];generalize hgg:Au c s=g at hg;have hvl:g.Values.length=c.Signals.length:=hg.x;have htl:g.Timers.length=c.Signals.length:=hg.t;obtain ⟨v,he,hl⟩:=Qr (L:=Hg FF c g) (mk:=λi (v:L7×L6×L6)=>((i:Int),v.1,v.2.1,v.2.2)) (N:=c.Signals.length) (I:=λi v=>v.1=upd (λi=>(Gg c g i).1) g.Values i/\v.2.1=upd (λi=>(Gg c g i).2) g.Timers i/\v.2.2.length<=i/\∀ x,x∈v.2.2↔onPi c g i x) (λn i v hi hI=>by
  obtain ⟨V,T,l⟩:=v;obtain ⟨rfl,rfl,hll,hmm⟩:=hI;have hx:c.Signals[i]?=some c.Signals[i]:=gE_ hi;obtain ⟨_,_,ho,hf⟩:=hc.sig _ (GF hi);obtain ⟨s',b,e1,e2,e3⟩:=BR hc hg hx;have e4:(upd (λi=>(Gg c g i).1) g.Values i)[i]?=some g.Values[i]:=by rw [Cf (GS i)];exact gE_ om_
  have e5:(upd (λi=>(Gg c g i).2) g.Timers i)[i]?=some g.Timers[i]:=by rw [Cf (GS i)];exact gE_ om_
  refine ⟨(upd (λi=>(Gg c g i).1) g.Values (i + 1),upd (λi=>(Gg c g i).2) g.Timers (i + 1),if (ev 16 (vals g) c.Signals[i].On && ofb (vals g) c.Signals[i])=true then l ++ [((cS c + i:Nat):Int)] else l),⟨rfl,rfl,?_⟩,?_⟩
  ·dsimp only at hll hmm ⊢;refine ⟨by split <;> (try simp) <;> omega,λx=>?_⟩
   rw [BG hmm,Uk hi]
  ·rw [Hg];dsimp only at hll ⊢;rw [Aj,dt_ hi,ct_,e1,ob_];dsimp only;rw [Ai,e2,ob_,Ai,e3,ob_,Ai,e4,ob_,Ai,e5,ob_,Ai,hx,ob_,Og hb hg.e (by rw [hg.i];omega) om_,ob_,Uz hg.vl ho hf,ob_];dsimp only;unfold M5;rw [Ex hb,ob_,As om_ om_,show (cS c:Int) + (i:Int)=((cS c + i:Nat):Int) by omega,Am om_,G1,Dt om_ rfl,Dt om_ rfl];cases ev 16 (vals g) c.Signals[i].On && ofb (vals g) c.Signals[i] with
   | true=>
    unfold app;rw [ct_,ob_,if_pos so_];rfl
   | false=>rfl) (λn v _=>by
  rw [Hg];dsimp only;rw [Aj,df_ om_,cf_]) FF 0 (g.Values,g.Timers,[]) om_ uF ⟨Ce.symm,Ce.symm,by simp,λx=>by simp [Uj]⟩
 obtain ⟨V,T,l⟩:=v;obtain ⟨rfl,rfl,hll,hmm⟩:=he;try dsimp only at hl hll hmm
 rw [n0] at hl;show ∃ l,((Hg FF c g FF ((0:Int),g.Values,g.Timers,[])).bind _)=_/\_;rw [hl];refine ⟨l,?_,hll,by unfold onP;rw [hgg];exact hmm⟩;unfold Ke nxtS;rw [hgg,ob_];dsimp only;have e1:upd (λi=>(Gg c g i).1) g.Values c.Signals.length=(List.range g.Values.length).map λi=>(Gg c g i).1:=by rw [← hvl];exact Du
 have e2:upd (λi=>(Gg c g i).2) g.Timers c.Signals.length=(List.range g.Timers.length).map λi=>(Gg c g i).2:=by rw [← htl];exact Du
 rw [e1,e2];rfl
theorem BV {c:Aa} {s:Ac} (hc:Rt c) (h:Fit c s):∃ l,QK FF c.Actuators (cS c:Int) c.Inputs c.Signals c.Plus c.Minus s.Ends s.Valves s.Inputs s.Values s.Timers=some (!sst s (Ke c s),l,(Ke c s).Values,(Ke c s).Timers)/\l.length<=c.Signals.length/\∀ x,x∈l↔onP c s x:=by
 have hb:=hc.bd;have h1:=hb.a';have h2:=hb.i;have h3:=hb.s;have hg:=Fx h;have hS:cS c=2 * cA c + c.Inputs.length:=rfl;obtain ⟨s1,s2,s3,s4,s5⟩:=hg.sm hb;unfold QK QC;rw [show (⟨s.Ends,s.Valves,s.Inputs,s.Values,s.Timers⟩:Ac)=s from rfl,Nz (h.sm hb),ob_,BS hc h,ob_];have h318:=Vb (s:=Au c s) s1 s3 s4 c.Actuators (cS c:Int) c.Inputs c.Signals c.Plus c.Minus;rw [show (Au c s).Ends=s.Ends from rfl,show (Au c s).Valves=s.Valves from rfl,show (Au c s).Inputs=s.Inputs from rfl,show (Au c s).Timers=s.Timers from rfl,show (Au c s).Values=Er c s c.Signals.length from rfl] at h318;rw [h318,ob_,ob_];have hvl:(Er c s c.Signals.length).length=c.Signals.length:=hg.x;have htl:s.Timers.length=c.Signals.length:=hg.t;obtain ⟨v,he,hl⟩:=Qr (L:=Kk FF (cS c:Int) c.Signals (vals (Au c s))) (mk:=λi (v:L7×L6×L6)=>((i:Int),v.1,v.2.1,v.2.2)) (N:=c.Signals.length) (I:=λi v=>v.1=upd (λi=>(Gg c (Au c s) i).1) (Er c s c.Signals.length) i/\v.2.1=upd (λi=>(Gg c (Au c s) i).2) s.Timers i/\v.2.2.length<=i/\∀ x,x∈v.2.2↔onPi c (Au c s) i x) (λn i v hi hI=>by
  obtain ⟨V,T,l⟩:=v;obtain ⟨rfl,rfl,hll,hmm⟩:=hI;have hx:c.Signals[i]?=some c.Signals[i]:=gE_ hi;obtain ⟨k0,k3,ho,hf⟩:=hc.sig _ (GF hi);have e4:(upd (λi=>(Gg c (Au c s) i).1) (Er c s c.Signals.length) i)[i]?=some (Er c s c.Signals.length)[i]:=by rw [Cf (GS i)];exact gE_ om_
  have e5:(upd (λi=>(Gg c (Au c s) i).2) s.Timers i)[i]?=some s.Timers[i]:=by rw [Cf (GS i)];exact gE_ om_
  have hci:Gg c (Au c s) i=chg (vals (Au c s)) c.Signals[i] (Er c s c.Signals.length)[i] s.Timers[i]:=by
   unfold Gg;rw [hx];simp [Au,gE_ (show i < (Er c s c.Signals.length).length by omega),gE_ (show i < s.Timers.length by omega)]
  have hbody:∃ b,(((bif (c.Signals[i].Kind.toNat) == 0 then P9 FF (⟨(Er c s c.Signals.length)[i],s.Timers[i],false⟩:Af) (ev 16 (vals (Au c s)) c.Signals[i].On) (ofb (vals (Au c s)) c.Signals[i]) else bif (c.Signals[i].Kind.toNat) == 1 then QA FF (⟨(Er c s c.Signals.length)[i],s.Timers[i],false⟩:Af) (ev 16 (vals (Au c s)) c.Signals[i].On) (ofb (vals (Au c s)) c.Signals[i]) else bif (c.Signals[i].Kind.toNat) == 2 then QB FF (⟨(Er c s c.Signals.length)[i],s.Timers[i],false⟩:Af) (ev 16 (vals (Au c s)) c.Signals[i].On) (ofb (vals (Au c s)) c.Signals[i]) else none)))=some (⟨(Gg c (Au c s) i).1,(Gg c (Au c s) i).2,b⟩:Af)/\b=(ev 16 (vals (Au c s)) c.Signals[i].On && ofb (vals (Au c s)) c.Signals[i]):=by
   rw [hci];have hk:c.Signals[i].Kind=0\/c.Signals[i].Kind=1\/c.Signals[i].Kind=2:=by omega
   unfold chg;rcases hk with k | k | k <;> rw [k]
   ·exact ⟨false,rfl,by unfold ofb;rw [k];simp⟩
   ·rw [show ((1:Int).toNat == 0)=false by rfl,show ((1:Int).toNat == 1)=true by rfl,cf_,ct_,if_pos rfl];unfold QA;cases ev 16 (vals (Au c s)) c.Signals[i].On <;> cases ofb (vals (Au c s)) c.Signals[i] <;> exact ⟨_,rfl,rfl⟩
   ·rw [show ((2:Int).toNat == 0)=false by rfl,show ((2:Int).toNat == 1)=false by rfl,show ((2:Int).toNat == 2)=true by rfl,cf_,cf_,ct_,if_neg om_,if_pos rfl];unfold QB;cases ev 16 (vals (Au c s)) c.Signals[i].On with
    | false=>exact ⟨_,rfl,rfl⟩
    | true=>
     rw [nt_,cf_,if_neg smp_];by_cases e:s.Timers[i]=0
     ·rw [if_pos e,show (s.Timers[i] == 0)=true by simpa using e];exact ⟨_,rfl,by unfold ofb;rw [k];rfl⟩
     ·rw [if_neg e,show (s.Timers[i] == 0)=false by simpa using e];exact ⟨_,rfl,by unfold ofb;rw [k];rfl⟩
  obtain ⟨b,hbody,hbe⟩:=hbody;refine ⟨(upd (λi=>(Gg c (Au c s) i).1) (Er c s c.Signals.length) (i + 1),upd (λi=>(Gg c (Au c s) i).2) s.Timers (i + 1),if b=true then l ++ [((cS c + i:Nat):Int)] else l),⟨rfl,rfl,?_⟩,?_⟩
  ·dsimp only at hll hmm ⊢;refine ⟨by split <;> (try simp) <;> omega,λx=>?_⟩
   rw [BG hmm,Uk hi,← hbe]
  ·rw [Kk];dsimp only at hll ⊢;have hr3:idx (List.range 3) c.Signals[i].Kind=some c.Signals[i].Kind.toNat:=by
    have hk:c.Signals[i].Kind=0\/c.Signals[i].Kind=1\/c.Signals[i].Kind=2:=by omega
    rcases hk with k | k | k <;> rw [k] <;> rfl
   have hoff:(bif (c.Signals[i].Kind == 1) then (P7 FF (c.Signals[i].Off) (vals (Au c s))).bind λx19=>some x19 else some false)=some (ofb (vals (Au c s)) c.Signals[i]):=by
    unfold ofb;by_cases hk:c.Signals[i].Kind=1
    ·rw [show (c.Signals[i].Kind == 1)=true by simpa using hk,ct_,Jc 16 FF _ _ (by rw [hg.vl];exact hf hk) uF];rfl
    ·rw [show (c.Signals[i].Kind == 1)=false by simpa using hk];rfl
   rw [Aj,dt_ hi,ct_,Ai,hx,ob_,hr3,ob_,Ai,e4,ob_,Ai,e5,ob_,Jc 16 FF _ _ (by rw [hg.vl];exact ho) uF,ob_,hoff,ob_,hbody,ob_,ob_,ob_];dsimp only;rw [As om_ om_,show (cS c:Int) + (i:Int)=((cS c + i:Nat):Int) by omega,Am om_,G1,Dt om_ rfl,Dt om_ rfl];cases b with
   | true=>
    unfold app;rw [ct_,if_pos so_];rfl
   | false=>rfl) (λn v _=>by
  rw [Kk];dsimp only;rw [Aj,df_ om_,cf_]) FF 0 (Er c s c.Signals.length,s.Timers,[]) om_ uF ⟨Ce.symm,Ce.symm,by simp,λx=>by simp [Uj]⟩
 obtain ⟨V,T,l⟩:=v;obtain ⟨rfl,rfl,hll,hmm⟩:=he;try dsimp only at hl hll hmm
 rw [n0] at hl;rw [hl,ob_];dsimp only;have e1:upd (λi=>(Gg c (Au c s) i).1) (Er c s c.Signals.length) c.Signals.length=(Ke c s).Values:=by
  unfold Ke nxtS;dsimp only
  conv=>lhs;rw [show c.Signals.length=(Er c s c.Signals.length).length from hvl.symm]
  rw [show (Au c s).Values=Er c s c.Signals.length from rfl,hvl];rw [← hvl,hvl];have:=Du (f:=λi=>(Gg c (Au c s) i).1) (l:=Er c s c.Signals.length);rw [hvl] at this;exact this
 have e2:upd (λi=>(Gg c (Au c s) i).2) s.Timers c.Signals.length=(Ke c s).Timers:=by
  have:=Du (f:=λi=>(Gg c (Au c s) i).2) (l:=s.Timers);rw [htl] at this;rw [this];unfold Ke nxtS;dsimp only;rw [show (Au c s).Timers=s.Timers from rfl,htl]
 rw [e1,e2];refine ⟨l,?_,hll,hmm⟩;have e3:(⟨s.Ends,s.Valves,s.Inputs,(Ke c s).Values,(Ke c s).Timers⟩:Ac)=Ke c s:=rfl;unfold tup;dsimp only;rw [e3,Ok (n:=1000) (h.sm hb) uF om_];rfl
end Go.Pn
namespace Go.Pn
open Go
theorem Ar {α:Type} {xs ys:List α} (h:xs.length + ys.length<=1073741824):app xs ys=some (xs ++ ys):=if_pos h
def stl (c:Aa):Nat->Ac->Option Ac
 | 0,_=>none
 | k + 1,s=>if sst s (Ke c s)=true then some s else stl c k (Ke c s)
structure Kp (s t:Ac):Prop where
 e:t.Ends=s.Ends
 v:t.Valves=s.Valves
 i:t.Inputs=s.Inputs
theorem Lf {c:Aa}:∀ {k:Nat} {s t:Ac},Fit c s->stl c k s=some t->Fit c t/\Kp s t/\sst t (Ke c t)=true
 | 0,_,_,_,h=>by cases h
 | k + 1,s,t,hf,h=>by
  unfold stl at h;split at h
  ·rename_i h1;obtain rfl:=Option.some.inj h;exact ⟨hf,⟨rfl,rfl,rfl⟩,h1⟩
  ·obtain ⟨h1,⟨h2,h3,h4⟩,h5⟩:=Lf (Sh hf) h;exact ⟨h1,⟨h2,h3,h4⟩,h5⟩
def Cs (l:L6) (p:Int->Prop):Prop:=l.Pairwise (· < ·)/\∀ x,x∈l↔p x
theorem Cs.eq {l l':L6} {p:Int->Prop} (h:Cs l p) (h':Cs l' p):l=l':=Qu h.1 h'.1 λk=>(h.2 k).trans (h'.2 k).symm
theorem Cs.iff {l:L6} {p q:Int->Prop} (h:Cs l p) (e:∀ x,p x↔q x):Cs l q:=⟨h.1,λx=>(h.2 x).trans (e x)⟩
theorem Cs.nil {p:Int->Prop} (h:∀ x,¬ p x):Cs [] p:=⟨.nil,λx=>by simp [h x]⟩
theorem Cs.snoc {l:L6} {p:Int->Prop} {y:Int} (h:Cs l p) (hy:∀ x,p x->x < y):Cs (l ++ [y]) λx=>p x\/x=y:=
 ⟨List.pairwise_append.2 ⟨h.1,by simp,λa ha b hb=>by
  obtain rfl:b=y:=by simpa using hb
  exact hy a ((h.2 a).1 ha)⟩,λx=>by rw [GN,h.2];simp⟩
theorem AP {zs:L6} (h:zs.Pairwise (·<=·)):Cs (Lib.compact zs) (·∈zs):=by
 have hle:∀ i j,(_:i<=j)->(hj:j < zs.length)->zs[i]'om_<=zs[j]:=λi j hij hj=>by
  by_cases e:i=j
  ·subst e;exact LB _
  ·exact JX.1 h i j om_ hj om_
 have hd:∀ i,(hi:i < zs.length)->zs.toArray[i]! = zs[i]:=λi hi=>by simp [hi]
 unfold Lib.compact Lib.compactUpTo;constructor
 ·rw [List.pairwise_map];refine (List.Pairwise.filter _ List.pairwise_lt_range).imp_of_mem λ{a b} ha hb hab=>?_;obtain ⟨ha1,_⟩:=K0.1 ha;obtain ⟨hb1,hb2⟩:=K0.1 hb;have ha1:=GX.1 ha1;have hb1:=GX.1 hb1;have hk:zs.toArray[b]! ≠ zs.toArray[b - 1]!:=(of_decide_eq_true hb2).resolve_left om_;rw [hd b hb1,hd (b - 1) om_] at hk;rw [hd a ha1,hd b hb1];have h1:=hle a (b - 1) om_ om_;have h2:=hle (b - 1) b om_ hb1;omega
 ·intro x;constructor
  ·intro hx;obtain ⟨i,hi,rfl⟩:=H2.1 hx;have hi:=GX.1 (K0.1 hi).1;rw [hd i hi];exact GF hi
  ·intro hx;cases hf:zs.findIdx? (· == x) with
   | none=>
    rw [HK] at hf;have:=hf x hx;simp at this
   | some i=>
    obtain ⟨hi,h1,h2⟩:=G7.1 hf;have h1:zs[i]=x:=by simpa using h1
    refine H2.2 ⟨i,K0.2 ⟨List.mem_range.2 hi,dt_ ?_⟩,by rw [hd i hi,h1]⟩;by_cases h0:i=0
    ·exact .inl h0
    ·right;rw [hd i hi,hd (i - 1) om_,h1];have:=h2 (i - 1) om_;exact λe=>this (by simp [← e])
theorem Xo {l:L6} (h:l.length<=900000000):∃ r1 r2,m82 FF l=some r1/\m208 FF r1=some r2/\r2.length<=l.length/\Cs r2 (·∈l):=by
 have hl:(isort l).length=l.length:=(isort_perm l).length_eq;refine ⟨isort l,Lib.compact (isort l),by unfold m82;rw [if_pos om_],by unfold m208;rw [if_pos om_],by rw [← hl];exact compact_le _,?_⟩;have hs:=isort_pw l;exact (AP hs).iff λx=>(isort_perm l).mem_iff
def Zv (c:Aa):Nat->Ac->Int->Prop
 | 0,_,_=>False
 | k + 1,s,x=>onP c s x\/(sst s (Ke c s)=false/\Zv c k (Ke c s) x)
def mgP (m:List (Int×Bool)) (x:Int):Prop:=(mat Dp m x).getD false=true
theorem Vd (x6:Ac×L6) (hl:x6.2.length<=1000) (m:List (Int×Bool)):∃ z m',Hi x6 FF ((0:Int),m)=some (z,m')/\∀ x,mgP m' x↔mgP m x\/x∈x6.2:=by
 obtain ⟨v,hv,h⟩:=Qr (L:=Hi x6) (mk:=λi (m:List (Int×Bool))=>((i:Int),m)) (N:=x6.2.length) (I:=λi v=>∀ x,mgP v x↔mgP m x\/x∈x6.2.take i) (λn i v hi hI=>by
  refine ⟨Ep Dp v x6.2[i] true,λx=>?_,?_⟩
  ·have h1:mgP (Ep Dp v x6.2[i] true) x↔x=x6.2[i]\/mgP v x:=by
    unfold mgP;rw [mat_put];split
    ·rename_i e;simp [e]
    ·rename_i e;simp [e]
   rw [h1,hI,JY,gE_ hi,GN];simp only [Option.toList_some,JQ];constructor
   ·rintro (h | h | h)
    ·exact .inr (.inr h)
    ·exact .inl h
    ·exact .inr (.inl h)
   ·rintro (h | h | h)
    ·exact .inr (.inl h)
    ·exact .inr (.inr h)
    ·exact .inl h
  ·rw [Hi];dsimp only;rw [Aj,dt_ hi,ct_,Ai,gE_ hi,ob_,Am om_]) (λn m _=>by
  rw [Hi];dsimp only;rw [Aj,df_ om_,cf_]) FF 0 m om_ uF (λx=>by simp)
 try dsimp only at h
 rw [n0] at h;rw [KS] at hv;exact ⟨_,_,h,hv⟩
theorem Vc {c:Aa} (hb:Bd_ c) (o:Int×List (Int×Bool)):∃ z l,Hh FF c o FF ((0:Int),[])=some (z,l)/\l.length<=cL c/\Cs l λx=>∃ k:Nat,x=k/\k < cL c/\mgP o.2 x:=by
 have h1:=hb.a';have h2:=hb.i;have h3:=hb.s;have hS:cS c=2 * cA c + c.Inputs.length:=rfl;have hL:cL c=cS c + c.Signals.length:=rfl;obtain ⟨v,⟨hv,hw⟩,h⟩:=Qr (L:=Hh FF c o) (mk:=λi (m:L6)=>((i:Int),m)) (N:=cL c) (I:=λi l=>l.length<=i/\Cs l λx=>∃ k:Nat,x=k/\k < i/\mgP o.2 x) (λn i m hi hI=>by
  obtain ⟨hI,hC⟩:=hI;rw [Hh];dsimp only;rw [Ew hb,ob_,Aj,dt_ hi,ct_,Am om_];cases hm:(mat Dp o.2 (i:Int)).getD false with
  | true=>
   unfold app;rw [ct_,if_pos so_];refine ⟨m ++ [(i:Int)],⟨by simp;omega,(hC.snoc (y:=(i:Int)) λx ⟨k,hk,hk2,_⟩=>by omega).iff λx=>?_⟩,rfl⟩;constructor
   ·rintro (⟨k,a1,a2,a3⟩ | rfl)
    ·exact ⟨k,a1,by omega,a3⟩
    ·exact ⟨i,rfl,by omega,hm⟩
   ·rintro ⟨k,rfl,a2,a3⟩;by_cases e:k=i
    ·subst e;exact .inr rfl
    ·exact .inl ⟨k,rfl,by omega,a3⟩
  | false=>
   refine ⟨m,⟨by omega,hC.iff λx=>?_⟩,rfl⟩;constructor
   ·rintro ⟨k,a1,a2,a3⟩;exact ⟨k,a1,by omega,a3⟩
   ·rintro ⟨k,rfl,a2,a3⟩;by_cases e:k=i
    ·subst e;unfold mgP at a3;rw [hm] at a3;cases a3
    ·exact ⟨k,rfl,by omega,a3⟩) (λn m _=>by
  rw [Hh];dsimp only;rw [Ew hb,ob_,Aj,df_ om_,cf_]) FF 0 [] om_ uF ⟨by simp,Cs.nil λx ⟨k,_,h,_⟩=>by omega⟩
 try dsimp only at h
 rw [n0] at h;exact ⟨_,_,h,hv,hw⟩
theorem Lt {c:Aa} (hc:Rt c):∀ (k n j:Nat) (s:Ac) (m:List (Int×Bool)),j + k=65->k < n->Fit c s ->
  match stl c k s with
  | some t=>∃ l z,Hj FF c n ((j:Int),s,m)=some (.ret (t,l,z,true))/\l.length<=100/\Cs l λx=>(∃ k:Nat,x=k/\k < cL c/\mgP m x)\/Zv c k s x
  | none=>∃ q,Hj FF c n ((j:Int),s,m)=some (.brk q)
 | _,0,_,_,_,_,h,_=>by omega
 | 0,n + 1,j,s,m,h1,h2,hf=>by
  unfold stl Hj;dsimp only;rw [show decide ((j:Int)<=64)=false by simp;omega,cf_];exact ⟨_,rfl⟩
 | k + 1,n + 1,j,s,m,h1,h2,hf=>by
  have hb:=hc.bd;have h3:=hb.s;have hS:cS c=2 * cA c + c.Inputs.length:=rfl;have hL:cL c=cS c + c.Signals.length:=rfl;obtain ⟨l,e1,hl,hmm⟩:=BT hc hf;obtain ⟨z,m',e2,hm'⟩:=Vd (Ke c s,l) (by dsimp only;omega) m;dsimp only at hm';have hin:∀ x:Int,(∃ k:Nat,x=k/\k < cL c/\mgP m' x)↔(∃ k:Nat,x=k/\k < cL c/\mgP m x)\/onP c s x:=λx=>by
   constructor
   ·rintro ⟨k,a1,a2,a3⟩;rcases (hm' x).1 a3 with h | h
    ·exact .inl ⟨k,a1,a2,h⟩
    ·exact .inr ((hmm x).1 h)
   ·rintro (⟨k,a1,a2,a3⟩ | h)
    ·exact ⟨k,a1,a2,(hm' x).2 (.inl a3)⟩
    ·obtain ⟨k,a1,a2⟩:=onP_lt h;exact ⟨k,a1,a2,(hm' x).2 (.inr ((hmm x).2 h))⟩
  have ho:=Sh hf;unfold stl Hj;dsimp only;rw [show decide ((j:Int)<=64)=true by simp;omega,ct_,e1,ob_,e2,ob_,Pi (n:=1000) (ho.sm hb) uF om_,ob_,show sst (Ke c s) s=sst s (Ke c s) from Sa];cases hs:sst s (Ke c s) with
  | true=>
   obtain ⟨z2,l2,e3,hl2,hC⟩:=Vc hb (z,m');rw [if_pos rfl,ct_,e3,ob_];have:=hb.a';have:=hb.i;refine ⟨l2,(j:Int),rfl,by omega,hC.iff λx=>?_⟩;rw [hin,Zv,hs];simp
  | false=>
   rw [if_neg smp_,cf_,Am om_];have ih:=Lt hc k n (j + 1) (Ke c s) m' om_ om_ ho;cases hst:stl c k (Ke c s) with
   | none=>rw [hst] at ih;exact ih
   | some t=>
    rw [hst] at ih;obtain ⟨l',z',e4,hl',hC⟩:=ih;refine ⟨l',z',e4,hl',hC.iff λx=>?_⟩;rw [hin,Zv,hs];simp [or_assoc]
theorem B3 {c:Aa} {s:Ac} (hc:Rt c) (hf:Fit c s):match stl c 65 s with
  | some t=>∃ l,NA FF c s=some (t,l,true)/\l.length<=100/\Cs l (Zv c 65 s)
  | none=>∃ a l,NA FF c s=some (a,l,false):=by
 have h:=Lt hc 65 FF 0 s [] om_ uF hf;rw [n0] at h;unfold NA M9;cases hs:stl c 65 s with
 | none=>rw [hs] at h;obtain ⟨q,h⟩:=h;rw [h];exact ⟨_,_,rfl⟩
 | some t=>
  rw [hs] at h;obtain ⟨l,z,h,hl,hC⟩:=h;rw [h];refine ⟨l,rfl,hl,hC.iff λx=>?_⟩;constructor
  ·rintro (⟨_,_,_,h⟩ | h)
   ·cases h
   ·exact h
  ·exact .inr
theorem Lu {c:Aa} (hc:Rt c):∀ (k n j:Nat) (s:Ac) (q:L6),j + k=65->k < n->Fit c s->q.length<=16 * j ->
  match stl c k s with
  | some t=>∃ l z,Hk FF c.Actuators (cS c:Int) c.Inputs c.Signals c.Plus c.Minus s.Ends s.Valves s.Inputs n ((j:Int),s.Values,s.Timers,q)=some (.ret (z,0,t.Values,t.Timers,l))/\l.length<=2000/\Cs l λx=>x∈q\/Zv c k s x
  | none=>∃ q',Hk FF c.Actuators (cS c:Int) c.Inputs c.Signals c.Plus c.Minus s.Ends s.Valves s.Inputs n ((j:Int),s.Values,s.Timers,q)=some (.brk q')
 | _,0,_,_,_,_,h,_,_=>by omega
 | 0,n + 1,j,s,q,h1,h2,hf,hq=>by
  unfold stl Hk;dsimp only;rw [show decide ((j:Int)<=64)=false by simp;omega,cf_];exact ⟨_,rfl⟩
 | k + 1,n + 1,j,s,q,h1,h2,hf,hq=>by
  have hb:=hc.bd;have h3:=hb.s;obtain ⟨l,e1,hl,hmm⟩:=BV hc hf;have ho:=Sh hf;unfold stl Hk;dsimp only;rw [show decide ((j:Int)<=64)=true by simp;omega,ct_,e1,ob_];dsimp only;rw [Ar om_,ob_];cases hs:sst s (Ke c s) with
  | true=>
   obtain ⟨r1,r2,e2,e3,l3,hC⟩:=Xo (l:=q ++ l) so_;rw [if_pos rfl,show (!(!true))=true by rfl,ct_,e2,ob_,e3,ob_];have hse:=Gw.1 hs;rw [← hse];refine ⟨r2,(j:Int),rfl,by rw [GC] at l3;omega,hC.iff λx=>?_⟩;rw [GN,hmm,Zv,hs];simp
  | false=>
   rw [if_neg smp_,show (!(!false))=false by rfl,cf_,Am om_];have ih:=Lu hc k n (j + 1) (Ke c s) (q ++ l) om_ om_ ho (by rw [GC];omega);cases hst:stl c k (Ke c s) with
   | none=>rw [hst] at ih;exact ih
   | some t=>
    rw [hst] at ih;obtain ⟨l',z',e4,hl',hC⟩:=ih;refine ⟨l',z',e4,hl',hC.iff λx=>?_⟩;rw [GN,hmm,Zv,hs];simp [or_assoc]
theorem Pp {xs:L6} {k:Int} (hl:xs.length<=1000):Rr FF xs k=some (xs.any λx=>decide (x < 0) || decide (x>=k)):=by
 unfold Rr Yw;have h5:=AS (L:=Jg FF xs k) (xs:=xs) (p:=λ_ y=>PW FF y k) (q:=λx=>decide (x < 0) || decide (x>=k)) (r:=λz=>z) (λ_ _=>rfl) om_ (λi y hy=>rfl) FF 0 om_ uF;rw [n0,GL] at h5;rw [h5];cases h6:xs.findIdx? (λx=>decide (x < 0) || decide (x>=k)) with
 | none=>
  rw [HK] at h6;have:(xs.any λx=>decide (x < 0) || decide (x>=k))=false:=HQ.2 λy hy=>by simpa using h6 y hy
  rw [this];rfl
 | some j=>
  obtain ⟨hj,hj2,_⟩:=G7.1 h6;have:(xs.any λx=>decide (x < 0) || decide (x>=k))=true:=G8.2 ⟨_,GF hj,by simpa using hj2⟩;rw [this];simp
def tbad (c:Aa) (s:Ac) (i:Nat):Bool:=match c.Signals[i]?,s.Timers[i]?,s.Values[i]? with
 | some x,some t,some v=>(x.Kind != 2 && t != 0) || (x.Kind == 2 && v != (t == 2))
 | _,_,_=>false
def DB (c:Aa) (s:Ac):Int:=
 if (s.Ends.length:Int)≠c.Actuators\/(s.Valves.length:Int)≠c.Actuators\/s.Inputs.length≠c.Inputs.length\/s.Values.length≠c.Signals.length\/s.Timers.length≠c.Signals.length then 8
 else if (s.Ends.any λx=>decide (x < 0) || decide (x>=4))=true then 1
 else if (s.Timers.any λx=>decide (x < 0) || decide (x>=3))=true then 1
 else if (List.range c.Signals.length).any (tbad c s)=true then 14 else 0
theorem EU {c:Aa} {s:Ac}:(((((((s.Ends.length:Int) != c.Actuators) || ((s.Valves.length:Int) != c.Actuators)) || ((s.Inputs.length:Int) != (c.Inputs.length:Int))) || ((s.Values.length:Int) != (c.Signals.length:Int))) || ((s.Timers.length:Int) != (c.Signals.length:Int))))=decide ((s.Ends.length:Int)≠c.Actuators\/(s.Valves.length:Int)≠c.Actuators\/s.Inputs.length≠c.Inputs.length\/s.Values.length≠c.Signals.length\/s.Timers.length≠c.Signals.length):=by
 rw [HU];simp only [JP,bne_iff_ne,ne_eq,decide_eq_true_eq,Int.natCast_inj,or_assoc]
theorem B7 {c:Aa} {s:Ac} (hb:Bd_ c):PX FF c s=some (DB c s):=by
 have h1:=hb.a6;have h2:=hb.i;have h3:=hb.s;unfold PX DB;rw [EU];by_cases hl:(s.Ends.length:Int)≠c.Actuators\/(s.Valves.length:Int)≠c.Actuators\/s.Inputs.length≠c.Inputs.length\/s.Values.length≠c.Signals.length\/s.Timers.length≠c.Signals.length
 ·rw [if_pos hl,dt_ hl];rfl
 ·rw [if_neg hl,df_ hl,cf_];have hl:(s.Ends.length:Int)=c.Actuators/\(s.Valves.length:Int)=c.Actuators/\s.Inputs.length=c.Inputs.length/\s.Values.length=c.Signals.length/\s.Timers.length=c.Signals.length:=by omega
  rw [show MD FF (4:Int)=some 4 from rfl,show MD FF (3:Int)=some 3 from rfl,ob_,Pp om_,ob_,ob_,Pp om_];cases (s.Ends.any λx=>decide (x < 0) || decide (x>=4)) with
  | true=>rfl
  | false=>
   rw [cf_,ob_,ob_,if_neg smp_];cases (s.Timers.any λx=>decide (x < 0) || decide (x>=3)) with
   | true=>rfl
   | false=>
    rw [cf_,if_neg smp_];have hs:=Zw (L:=Kq c s) (N:=c.Signals.length) (Q:=tbad c s) (r:=λ_=>14) (λn i hi=>by
     have e1:c.Signals[i]?=some c.Signals[i]:=gE_ hi;have e2:s.Timers[i]?=some s.Timers[i]:=gE_ om_;have e3:s.Values[i]?=some s.Values[i]:=gE_ om_;rw [Kq];unfold tbad;rw [hl.2.2.2.2,Aj,dt_ hi,ct_,Ai,Ai,Ai,e1,e2,e3,ob_,ob_,ob_,Am om_];dsimp only;cases hk:(c.Signals[i].Kind == 2) with
     | true=>
      have hk':(c.Signals[i].Kind != 2)=false:=by show (!(c.Signals[i].Kind == 2))=false;rw [hk];rfl
      rw [hk'];cases (s.Values[i] != (s.Timers[i] == 2)) <;> rfl
     | false=>
      have hk':(c.Signals[i].Kind != 2)=true:=by show (!(c.Signals[i].Kind == 2))=true;rw [hk];rfl
      rw [hk'];cases (s.Timers[i] != 0) <;> rfl) (λn=>by
     rw [Kq,hl.2.2.2.2,Aj,df_ om_,cf_]) FF 0 om_ uF
    rw [n0] at hs;rcases hs with ⟨k,_,hk,hq,h⟩ | ⟨h,hn⟩
    ·rw [h,if_pos (G8.2 ⟨k,GX.2 hk,hq⟩)];rfl
    ·rw [h,if_neg ?_]
     ·rfl
     ·intro ha;obtain ⟨k,hk,h4⟩:=G8.1 ha;have:=hn k om_ (GX.1 hk);rw [this] at h4;cases h4
theorem Fy {c:Aa} {s:Ac} (hb:Bd_ c):DB c s=0↔Fit c s:=by
 have ha:=hb.a;unfold DB;constructor
 ·intro h;split at h
  ·contradiction
  ·rename_i h1;split at h
   ·contradiction
   ·rename_i h2;split at h
    ·contradiction
    ·rename_i h3;split at h
     ·contradiction
     ·rename_i h4;refine ⟨by omega,by omega,by omega,by omega,by omega,λa ha=>?_,λa ha=>?_,λi x t v hx ht hv=>?_⟩
      ·have:=HQ.1 (by simpa using h2:(s.Ends.any λx=>decide (x < 0) || decide (x>=4))=false) a ha;simp at this;omega
      ·have:=HQ.1 (by simpa using h3:(s.Timers.any λx=>decide (x < 0) || decide (x>=3))=false) a ha;simp at this;omega
      ·have hb:tbad c s i=false:=by
        cases hq:tbad c s i with
        | false=>rfl
        | true=>exact absurd (G8.2 ⟨i,GX.2 (GE.1 hx).1,hq⟩) h4
       unfold tbad at hb;rw [hx,ht,hv] at hb;dsimp only at hb;rw [JZ,J9,J9] at hb;obtain ⟨h5,h6⟩:=hb;refine ⟨λhk=>?_,λhk=>?_⟩
       ·rcases h5 with h5 | h5
        ·exact absurd (by simpa using h5) hk
        ·simpa using h5
       ·rcases h6 with h6 | h6
        ·simp [hk] at h6
        ·simpa using h6
 ·intro h;obtain ⟨a1,a2,a3,a4,a5,a6,a7,a8⟩:=h;rw [if_neg om_,if_neg,if_neg,if_neg]
  ·intro hx;obtain ⟨i,hi,hq⟩:=G8.1 hx;have hi:=GX.1 hi;have e1:c.Signals[i]?=some c.Signals[i]:=gE_ hi;have e2:s.Timers[i]?=some s.Timers[i]:=gE_ om_;have e3:s.Values[i]?=some s.Values[i]:=gE_ om_;unfold tbad at hq;rw [e1,e2,e3] at hq;dsimp only at hq;obtain ⟨k1,k2⟩:=a8 i _ _ _ e1 e2 e3;by_cases hk:c.Signals[i].Kind=2
   ·rw [k2 hk] at hq;simp [hk] at hq
   ·rw [k1 hk] at hq;simp [hk] at hq
  ·intro hx;obtain ⟨a,ha,hq⟩:=G8.1 hx;have:=a7 a ha;simp at hq;omega
  ·intro hx;obtain ⟨a,ha,hq⟩:=G8.1 hx;have:=a6 a ha;simp at hq;omega
theorem Jf {c:Aa} {s:Ac} (hc:Rc c):PY FF c s=some (DB c s):=by
 unfold PY;rw [hc.ck,ob_,zf_,cf_,B7 hc.rt.bd];rfl
abbrev z0:Ac:=⟨[],[],[],[],[]⟩
theorem B6 {c:Aa} {s:Ac} (hc:Rc c) (hf:Fit c s):match stl c 65 s with
  | some t=>∃ l,QM FF c s=some (t,0,l)/\l.length<=2000/\Cs l (Zv c 65 s)
  | none=>QM FF c s=some (z0,21,[]):=by
 have hb:=hc.rt.bd;have h1:=hb.a';have h2:=hb.i;have h3:=hb.s;have hS:cS c=2 * cA c + c.Inputs.length:=rfl;have h:=Lu hc.rt 65 FF 0 s [] om_ uF hf smp_;rw [n0] at h;unfold QM P0;rw [Jf hc,(Fy hb).2 hf,ob_,zf_,cf_,Nz (hf.sm hb),ob_,ob_];dsimp only;rw [zf_,cf_,hb.wa,As om_ om_,show ((2 * cA c:Nat):Int) + (c.Inputs.length:Int)=(cS c:Int) by omega];unfold QL tup;dsimp only;cases hs:stl c 65 s with
 | none=>rw [hs] at h;obtain ⟨q,h⟩:=h;rw [h];rfl
 | some t=>
  rw [hs] at h;obtain ⟨l,z,h,hl,hC⟩:=h;obtain ⟨_,⟨k1,k2,k3⟩,_⟩:=Lf hf hs;rw [h];refine ⟨l,?_,hl,hC.iff λx=>by simp⟩;rw [ob_,ob_];dsimp only;rw [zf_,cf_,← k1,← k2,← k3]
def lin (s:Ac) (k:Int):Bool:=(vals s).getD k.toNat false
def vlv (c:Aa) (s:Ac) (i:Nat):Bool:=if lin s (c.Plus.getD i 0)=lin s (c.Minus.getD i 0) then s.Valves.getD i false else lin s (c.Plus.getD i 0)
def Gk (v:Bool) (e:Int):Int:=if v=true then (if e=2\/e=1 then e else 1) else (if e=0\/e=3 then e else 3)
def rnd (c:Aa) (s:Ac):Ac:=⟨(List.range s.Ends.length).map λi=>Gk (vlv c s i) (s.Ends.getD i 0),(List.range s.Valves.length).map (vlv c s),s.Inputs,s.Values,s.Timers⟩
theorem Sf {c:Aa} {s:Ac} (h:Fit c s):Fit c (rnd c s):=by
 refine ⟨by simp [rnd,h.e],by simp [rnd,h.v],h.i,h.x,h.t,?_,h.tt,h.k⟩;intro a ha;obtain ⟨i,hi,rfl⟩:=H2.1 ha;have hi:=GX.1 hi;have:=h.ee s.Ends[i] (GF hi);rw [GU,gE_ hi,KB];generalize s.Ends[i]=e at this;unfold Gk;split <;> split <;> omega
theorem DY {c:Aa} {s:Ac} (h:Fit c s) (k:Nat) (hk:k < cL c):∃ b,(vals s)[k]?=some b/\lin s (k:Int)=b:=by
 have:k < (vals s).length:=by rw [h.vl];exact hk
 exact ⟨(vals s)[k],gE_ this,by unfold lin;simp [gE_ this]⟩
theorem Vm {c:Aa} {s:Ac} (hb:Bd_ c) (h:Fit c s) {k:Nat} (hk:k < cL c):QN FF c s (k:Int)=some (lin s (k:Int)):=by
 have h1:=hb.a';have h2:=hb.i;have h3:=hb.s;have hS:cS c=2 * cA c + c.Inputs.length:=rfl;have hL:cL c=cS c + c.Signals.length:=rfl;have hel:(DE s).length=2 * cA c:=by unfold DE;rw [Qb,h.e]
 unfold QN lin;rw [hb.wa,Aj,G1,GU];by_cases h4:k < 2 * cA c
 ·rw [dt_ h4,ct_];have hdiv:(k:Int).tdiv 2=((k / 2:Nat):Int):=by
   rw [Int.tdiv_eq_ediv_of_nonneg om_];omega
  have hmod:(k:Int).tmod 2=((k % 2:Nat):Int):=by
   rw [Int.tmod_eq_emod_of_nonneg om_];omega
  have hv:(vals s)[k]?=(DE s)[k]?:=by
   unfold vals pre;rw [G2,GP om_]
  have hk2:k / 2 < s.Ends.length:=by rw [h.e];omega
  have he:s.Ends[k / 2]?=some s.Ends[k / 2]:=gE_ hk2;rw [hdiv,hmod,As om_ om_,Ai,he,ob_,hv];unfold DE;rw [FQ,he];have hm2:k % 2=0\/k % 2=1:=by omega
  rcases hm2 with e | e <;> rw [e] <;> rfl
 ·rw [df_ h4,cf_,As om_ om_,show (k:Int) - ((2 * cA c:Nat):Int)=((k - 2 * cA c:Nat):Int) by omega,Aj];by_cases h5:k - 2 * cA c < s.Inputs.length
  ·rw [dt_ h5,ct_,Ai,gE_ h5,ob_];unfold vals pre;rw [G2,G0 om_,hel,GP h5,gE_ h5];rfl
  ·rw [df_ h5,cf_,As (by have:=h.i;omega) om_,show ((k - 2 * cA c:Nat):Int) - (s.Inputs.length:Int)=((k - 2 * cA c - s.Inputs.length:Nat):Int) by omega,Ai];have h6:k - 2 * cA c - s.Inputs.length < s.Values.length:=by have:=h.i;have:=h.x;omega
   rw [gE_ h6,ob_];unfold vals pre;rw [G2,G0 om_,hel,G0 om_,gE_ h6];rfl
end Go.Pn
namespace Go.Pn
open Go
theorem BA {c:Aa} (hc:Rt c) {i:Nat} (hi:i < cA c):∃ p m:Nat,c.Plus[i]?=some (p:Int)/\c.Minus[i]?=some (m:Int)/\p < cL c/\m < cL c/\c.Plus.getD i 0=(p:Int)/\c.Minus.getD i 0=(m:Int):=by
 have h1:i < c.Plus.length:=by rw [hc.plus];exact hi
 have h2:i < c.Minus.length:=by rw [hc.minus];exact hi
 have h3:=hc.lines c.Plus[i] (GY _ (GF h1));have h4:=hc.lines c.Minus[i] (GV _ (GF h2));have e1:((c.Plus[i].toNat:Nat):Int)=c.Plus[i]:=by omega
 have e2:((c.Minus[i].toNat:Nat):Int)=c.Minus[i]:=by omega
 refine ⟨c.Plus[i].toNat,c.Minus[i].toNat,?_,?_,by omega,by omega,?_,?_⟩
 ·rw [gE_ h1,e1]
 ·rw [gE_ h2,e2]
 ·rw [GU,gE_ h1,e1];rfl
 ·rw [GU,gE_ h2,e2];rfl
theorem endn_eq (v:Bool) (e:Int):(bif (e != (bif v then ((2:Int),(1:Int)) else ((0:Int),(3:Int))).1) && (e != (bif v then ((2:Int),(1:Int)) else ((0:Int),(3:Int))).2) then (bif v then ((2:Int),(1:Int)) else ((0:Int),(3:Int))).2 else e)=Gk v e:=by
 unfold Gk;cases v with
 | true=>
  simp only [ct_,if_true];by_cases h:e=2
  ·simp [h]
  ·by_cases h1:e=1
   ·simp [h1]
   ·rw [show (e != 2)=true by simpa using h,show (e != 1)=true by simpa using h1,if_neg om_];rfl
 | false=>
  simp only [cf_];by_cases h:e=0
  ·simp [h]
  ·by_cases h1:e=3
   ·simp [h1]
   ·rw [show (e != 0)=true by simpa using h,show (e != 3)=true by simpa using h1];simp [h,h1]
def rnPi (c:Aa) (t:Ac) (i:Nat) (x:Int):Prop:=∃ j:Nat,j < i/\x=((cL c + j:Nat):Int)/\(lin t (c.Plus.getD j 0) && lin t (c.Minus.getD j 0))=true
def rnP (c:Aa) (t:Ac) (x:Int):Prop:=rnPi c t (cA c) x
theorem Mw {c:Aa} {t:Ac} {i:Nat} {x:Int}:rnPi c t (i + 1) x↔rnPi c t i x\/(x=((cL c + i:Nat):Int)/\(lin t (c.Plus.getD i 0) && lin t (c.Minus.getD i 0))=true):=by
 constructor
 ·rintro ⟨j,h1,h2,h3⟩;by_cases h:j=i
  ·subst h;exact .inr ⟨h2,h3⟩
  ·exact .inl ⟨j,by omega,h2,h3⟩
 ·rintro (⟨j,h1,h2,h3⟩ | ⟨h2,h3⟩)
  ·exact ⟨j,by omega,h2,h3⟩
  ·exact ⟨i,by omega,h2,h3⟩
theorem Ud {c:Aa} {t:Ac} {x:Int}:¬ rnPi c t 0 x:=λ⟨_,h,_⟩=>by omega
theorem Vu {c:Aa} {s:Ac} (hc:Rc c) (hf:Fit c s):match stl c 65 s with
  | some t=>∃ l,QO FF c s=some (rnd c t,0,l)/\l.length<=3000/\∀ x,x∈l↔Zv c 65 s x\/rnP c t x
  | none=>QO FF c s=some (z0,21,[]):=by
 have hb:=hc.rt.bd;have h1:=hb.a';have h2:=hb.i;have h3:=hb.s;have hS:cS c=2 * cA c + c.Inputs.length:=rfl;have hL:cL c=cS c + c.Signals.length:=rfl;have h:=B6 hc hf;unfold QO;cases hs:stl c 65 s with
 | none=>rw [hs] at h;rw [h];rfl
 | some t=>
  rw [hs] at h;obtain ⟨l0,h,hl0,hC0⟩:=h;obtain ⟨ht,_,_⟩:=Lf hf hs;rw [h,ob_];dsimp only;rw [zf_,cf_,Vt (ht.sm hb),ob_];have hel:=ht.e;have hvl:=ht.v;obtain ⟨v,hI,hl⟩:=Qr (L:=Hp FF c (t,0,l0)) (mk:=λi (v:L6×L6×L7)=>((i:Int),v.1,v.2.1,v.2.2)) (N:=cA c) (I:=λi v=>(v.1.length<=2000 + i/\∀ x,x∈v.1↔Zv c 65 s x\/rnPi c t i x)/\v.2.1=upd (λi=>Gk (vlv c t i) (t.Ends.getD i 0)) t.Ends i/\v.2.2=upd (vlv c t) t.Valves i) (λn i v hi hI=>by
   obtain ⟨l,E,V⟩:=v;obtain ⟨⟨hll,hmm⟩,rfl,rfl⟩:=hI;obtain ⟨p,m,e1,e2,hp,hm,g1,g2⟩:=BA hc.rt hi;have e4:(upd (λi=>Gk (vlv c t i) (t.Ends.getD i 0)) t.Ends i)[i]?=some t.Ends[i]:=by rw [Cf (GS i)];exact gE_ om_
   have e5:(upd (vlv c t) t.Valves i)[i]?=some t.Valves[i]:=by rw [Cf (GS i)];exact gE_ om_
   have e6:t.Ends.getD i 0=t.Ends[i]:=by rw [GU,gE_ om_];rfl
   have e7:t.Valves.getD i false=t.Valves[i]:=by rw [GU,gE_ om_];rfl
   have hsetE:∀ y,y=Gk (vlv c t i) (t.Ends.getD i 0)->(upd (λi=>Gk (vlv c t i) (t.Ends.getD i 0)) t.Ends i).set i y=upd (λi=>Gk (vlv c t i) (t.Ends.getD i 0)) t.Ends (i + 1):=λy hy=>Dt om_ hy;have hsetV:∀ y,y=vlv c t i->(upd (vlv c t) t.Valves i).set i y=upd (vlv c t) t.Valves (i + 1):=λy hy=>Dt om_ hy;have hkeep:vlv c t i=t.Valves[i]->upd (vlv c t) t.Valves i=upd (vlv c t) t.Valves (i + 1):=λhy=>by
    rw [← hsetV t.Valves[i] hy.symm];refine HV λj=>?_;by_cases hj:j=i
    ·subst hj;rw [HH (by rw [Jz om_];omega),e5]
    ·rw [HT om_]
   have hkeepE:Gk (vlv c t i) (t.Ends.getD i 0)=t.Ends[i]->upd (λi=>Gk (vlv c t i) (t.Ends.getD i 0)) t.Ends i=upd (λi=>Gk (vlv c t i) (t.Ends.getD i 0)) t.Ends (i + 1):=λhy=>by
    rw [← hsetE t.Ends[i] hy.symm];refine HV λj=>?_;by_cases hj:j=i
    ·subst hj;rw [HH (by rw [Jz om_];omega),e4]
    ·rw [HT om_]
   have hvi:vlv c t i=if lin t (p:Int)=lin t (m:Int) then t.Valves[i] else lin t (p:Int):=by
    unfold vlv;rw [g1,g2,e7]
   -- the valve
   have hV:∀ (k:(L6×L7)->Option (Int×L6×L6×L7)),((bif (lin t (p:Int) && lin t (m:Int)) then (app l ([(wr ((wr ((wr ((wr ((2:Int) * (c).Actuators)) + (((c).Inputs).length:Int))) + (((c).Signals).length:Int))) + (i:Int)))]:L6)).bind λx16=>some (x16,(upd (vlv c t) t.Valves i)) else (bif (lin t (p:Int) || lin t (m:Int)) then (idx (upd (vlv c t) t.Valves i) (i:Int)).bind λx19=>some ((upd (vlv c t) t.Valves i).set ((i:Int)).toNat (lin t (p:Int))) else some (upd (vlv c t) t.Valves i)).bind λz18=>some (l,z18)).bind k)=k ((if (lin t (p:Int) && lin t (m:Int))=true then l ++ [((cL c + i:Nat):Int)] else l),upd (vlv c t) t.Valves (i + 1)):=by
    intro k;have w1:wr (((2 * cA c:Nat):Int) + (c.Inputs.length:Int))=((cS c:Nat):Int):=by rw [As om_ om_];omega
    have w2:wr (((cS c:Nat):Int) + (c.Signals.length:Int))=((cL c:Nat):Int):=by rw [As om_ om_];omega
    have w3:wr (((cL c:Nat):Int) + (i:Int))=((cL c + i:Nat):Int):=by rw [As om_ om_];omega
    rw [hb.wa,w1,w2,w3,Ai,e5,G1];dsimp only at hll;cases hP:lin t (p:Int) with
    | true=>
     cases hM:lin t (m:Int) with
     | true=>
      unfold app;rw [Bool.and_self,ct_,if_pos so_,hkeep (by rw [hvi,hP,hM];simp)];rfl
     | false=>
      rw [hsetV true (by rw [hvi,hP,hM];simp)];rfl
    | false=>
     cases hM:lin t (m:Int) with
     | true=>
      rw [hsetV false (by rw [hvi,hP,hM];simp)];rfl
     | false=>
      rw [hkeep (by rw [hvi,hP,hM];simp)];rfl
   refine ⟨((if (lin t (p:Int) && lin t (m:Int))=true then l ++ [((cL c + i:Nat):Int)] else l),upd (λi=>Gk (vlv c t i) (t.Ends.getD i 0)) t.Ends (i + 1),upd (vlv c t) t.Valves (i + 1)),⟨?_,rfl,rfl⟩,?_⟩
   ·dsimp only at hll hmm ⊢;refine ⟨by split <;> (try simp) <;> omega,λx=>?_⟩
    rw [BG hmm,Mw,g1,g2,or_assoc]
   ·rw [Hp];dsimp only;rw [hb.a,Aj,dt_ hi,ct_,Ai,e1,ob_,Vm hb ht hp,ob_,Ai,e2,ob_,Vm hb ht hm,ob_,← hb.a,hV];dsimp only;have e8:(upd (vlv c t) t.Valves (i + 1))[i]?=some (vlv c t i):=by
     rw [← hsetV _ rfl,HH (by rw [Jz om_];omega)]
    rw [Ai,e4,ob_,Ai,e8,ob_,cs_,ob_,ob_,Am om_];have hE:((bif (t.Ends[i] != (bif vlv c t i then ((2:Int),(1:Int)) else ((0:Int),(3:Int))).1) && (t.Ends[i] != (bif vlv c t i then ((2:Int),(1:Int)) else ((0:Int),(3:Int))).2) then some ((upd (λi=>Gk (vlv c t i) (t.Ends.getD i 0)) t.Ends i).set ((i:Int)).toNat (bif vlv c t i then ((2:Int),(1:Int)) else ((0:Int),(3:Int))).2) else some (upd (λi=>Gk (vlv c t i) (t.Ends.getD i 0)) t.Ends i)))=some (upd (λi=>Gk (vlv c t i) (t.Ends.getD i 0)) t.Ends (i + 1)):=by
     have hq:=endn_eq (vlv c t i) t.Ends[i];rw [G1];cases hcnd:(t.Ends[i] != (bif vlv c t i then ((2:Int),(1:Int)) else ((0:Int),(3:Int))).1) && (t.Ends[i] != (bif vlv c t i then ((2:Int),(1:Int)) else ((0:Int),(3:Int))).2) with
     | true=>
      rw [hcnd,ct_] at hq;rw [ct_,hsetE _ (by rw [e6,← hq])]
     | false=>
      rw [hcnd,cf_] at hq;rw [cf_,hkeepE (by rw [e6,← hq])]
    rw [hE,ob_]) (λn v _=>by
   rw [Hp];dsimp only;rw [hb.a,Aj,df_ om_,cf_]) FF 0 (l0,t.Ends,t.Valves) om_ uF ⟨⟨by dsimp only;omega,λx=>by simp [hC0.2 x,Ud]⟩,Ce.symm,Ce.symm⟩
  obtain ⟨l,E,V⟩:=v;obtain ⟨⟨hll,hmm⟩,rfl,rfl⟩:=hI;try dsimp only at hl hll hmm
  rw [n0] at hl;refine ⟨l,?_,by omega,hmm⟩;show ((Hp FF c (t,0,l0) FF ((0:Int),l0,t.Ends,t.Valves)).bind _)=_;rw [hl,ob_];unfold rnd tup;dsimp only;have e1:=Du (f:=λi=>Gk (vlv c t i) (t.Ends.getD i 0)) (l:=t.Ends);have e2:=Du (f:=vlv c t) (l:=t.Valves);rw [hel] at e1;rw [hvl] at e2;rw [e1,e2,hel,hvl]
theorem Vr {a b:L6} (h:a.length + b.length < 50000) {p q:Int->Prop} (ha:Cs a p) (hb:Cs b q):∃ l,MG FF a b=some l/\l.length<=a.length + b.length/\Cs l λx=>p x\/q x:=by
 have sa:∀ i j,(_:i < j)->(hj:j < a.length)->a[i]'om_ < a[j]:=λi j hij hj=>JX.1 ha.1 i j om_ hj hij;have sb:∀ i j,(_:i < j)->(hj:j < b.length)->b[i]'om_ < b[j]:=λi j hij hj=>JX.1 hb.1 i j om_ hj hij;have key:∀ (n i j:Nat) (l:L6),i<=a.length->j<=b.length->(a.length - i) + (b.length - j) < n->l.length<=i + j->l.Pairwise (· < ·)->(∀ x,x∈l↔x∈a.take i\/x∈b.take j)->(∀ x∈l,(∀ h:i < a.length,x < a[i])/\∀ h:j < b.length,x < b[j]) ->
   ∃ z1 z2 l',Ez a b n ((i:Int),(j:Int),l)=some (z1,z2,l')/\l'.length<=a.length + b.length/\l'.Pairwise (· < ·)/\∀ x,x∈l'↔x∈a\/x∈b:=by
  intro n
  induction n with
  | zero=>intro i j l _ _ h;omega
  | succ n ih=>
   intro i j l hi hj hn hl hp hm hlt;have snoc:∀ y,(∀ x∈l,x < y)->(l ++ [y]).Pairwise (· < ·):=λy hy=>KW.2 ⟨hp,by simp,λu hu v hv=>by
    obtain rfl:v=y:=by simpa using hv
    exact hy u hu⟩
   have ta:(h:i < a.length)->∀ x,x∈a.take (i + 1)↔x∈a.take i\/x=a[i]:=λh x=>by rw [JY,gE_ h,GN];simp
   have tb:(h:j < b.length)->∀ x,x∈b.take (j + 1)↔x∈b.take j\/x=b[j]:=λh x=>by rw [JY,gE_ h,GN];simp
   rw [Ez];dsimp only;rw [Aj,Aj];by_cases h1:i < a.length
   ·have ea:a[i]?=some a[i]:=gE_ h1;by_cases h2:j < b.length
    ·have eb:b[j]?=some b[j]:=gE_ h2;simp only [dt_ h1,dt_ h2,Bool.or_self,ct_,Ai,ea,eb,ob_,Eo,show (j == b.length)=false by rw [beq_eq_false_iff_ne];omega,show (i == a.length)=false by rw [beq_eq_false_iff_ne];omega,cf_];rw [Ar so_,Ar so_];by_cases h3:a[i] < b[j]
     ·simp only [dt_ h3,ct_,ob_];rw [Am om_];refine ih (i + 1) j _ om_ hj om_ so_ (snoc _ λx hx=>(hlt x hx).1 h1) (λx=>?_) (λx hx=>?_)
      ·rw [GN,JQ,hm,ta h1];exact or_right_comm
      ·rcases GN.1 hx with hx | hx
       ·exact ⟨λh=>K7 ((hlt x hx).1 h1) (sa i (i + 1) om_ h),(hlt x hx).2⟩
       ·obtain rfl:x=a[i]:=by simpa using hx
        exact ⟨λh=>sa i (i + 1) om_ h,λ_=>h3⟩
     ·by_cases h4:b[j] < a[i]
      ·simp only [df_ h3,dt_ h4,ct_,cf_,ob_];rw [Am om_];refine ih i (j + 1) _ hi om_ om_ so_ (snoc _ λx hx=>(hlt x hx).2 h2) (λx=>?_) (λx hx=>?_)
       ·rw [GN,JQ,hm,tb h2];exact or_assoc
       ·rcases GN.1 hx with hx | hx
        ·exact ⟨(hlt x hx).1,λh=>K7 ((hlt x hx).2 h2) (sb j (j + 1) om_ h)⟩
        ·obtain rfl:x=b[j]:=by simpa using hx
         exact ⟨λ_=>h4,λh=>sb j (j + 1) om_ h⟩
      ·have h5:a[i]=b[j]:=by omega
       simp only [df_ h3,df_ h4,cf_,ob_];rw [Am om_,Am om_];refine ih (i + 1) (j + 1) _ om_ om_ om_ so_ (snoc _ λx hx=>(hlt x hx).1 h1) (λx=>?_) (λx hx=>?_)
       ·rw [GN,JQ,hm,ta h1,tb h2,← h5];exact or_or_distrib_right
       ·rcases GN.1 hx with hx | hx
        ·exact ⟨λh=>K7 ((hlt x hx).1 h1) (sa i (i + 1) om_ h),λh=>K7 ((hlt x hx).2 h2) (sb j (j + 1) om_ h)⟩
        ·obtain rfl:x=a[i]:=by simpa using hx
         exact ⟨λh=>sa i (i + 1) om_ h,λh=>by rw [h5];exact sb j (j + 1) om_ h⟩
    ·have hjb:j=b.length:=by omega
     simp only [dt_ h1,KF,ct_,Ai,ea,ob_,Eo,show (j == b.length)=true by rw [beq_iff_eq];omega];rw [Ar so_,ob_,ob_,Am om_];refine ih (i + 1) j _ om_ hj om_ so_ (snoc _ λx hx=>(hlt x hx).1 h1) (λx=>?_) (λx hx=>?_)
     ·rw [GN,JQ,hm,ta h1];exact or_right_comm
     ·rcases GN.1 hx with hx | hx
      ·exact ⟨λh=>K7 ((hlt x hx).1 h1) (sa i (i + 1) om_ h),λh=>by omega⟩
      ·obtain rfl:x=a[i]:=by simpa using hx
       exact ⟨λh=>sa i (i + 1) om_ h,λh=>by omega⟩
   ·by_cases h2:j < b.length
    ·have eb:b[j]?=some b[j]:=gE_ h2;simp only [df_ h1,dt_ h2,HJ,ct_,cf_,Ai,eb,ob_,Eo,show (j == b.length)=false by rw [beq_eq_false_iff_ne];omega,show (i == a.length)=true by rw [beq_iff_eq];omega];rw [Ar so_,ob_,ob_,Am om_];refine ih i (j + 1) _ hi om_ om_ so_ (snoc _ λx hx=>(hlt x hx).2 h2) (λx=>?_) (λx hx=>?_)
     ·rw [GN,JQ,hm,tb h2];exact or_assoc
     ·rcases GN.1 hx with hx | hx
      ·exact ⟨λh=>by omega,λh=>K7 ((hlt x hx).2 h2) (sb j (j + 1) om_ h)⟩
      ·obtain rfl:x=b[j]:=by simpa using hx
       exact ⟨λh=>by omega,λh=>sb j (j + 1) om_ h⟩
    ·rw [df_ h1,df_ h2,Bool.or_self,cf_];refine ⟨_,_,l,rfl,by omega,hp,λx=>?_⟩;rw [hm,HG om_,HG om_]
 obtain ⟨z1,z2,l',e,e1,e2,e3⟩:=key FF 0 0 [] om_ om_ uF smp_ .nil smp_ smp_;have e:Ez a b FF ((0:Int),(0:Int),[])=some (z1,z2,l'):=e;unfold MG;rw [e];exact ⟨l',rfl,e1,e2,λx=>by rw [e3,ha.2,hb.2]⟩
theorem Zb {c:Aa} {s:Ac} (h:Fit c s) {k:Nat} (hk:k < cL c):idx (vals s) (k:Int)=some (lin s (k:Int)):=by
 obtain ⟨b,h1,h2⟩:=DY h k hk;rw [Ai,h1,h2]
theorem B0 {c:Aa} {t:Ac} (hc:Rt c) (ht:Fit c t):∃ l,NB FF c t=some (⟨t.Ends,(List.range t.Valves.length).map (vlv c t),t.Inputs,t.Values,t.Timers⟩,l)/\l.length<=10/\Cs l (rnP c t):=by
 have hb:=hc.bd;have h1:=hb.a';have h2:=hb.i;have h3:=hb.s;have hS:cS c=2 * cA c + c.Inputs.length:=rfl;have hL:cL c=cS c + c.Signals.length:=rfl;have hvl:=ht.v;unfold NB;rw [Dl (ht.sm hb),ob_,Of hb ht.e (by rw [ht.i];omega) (by rw [ht.x];omega),ob_];obtain ⟨v,hI,hl⟩:=Qr (L:=Hm FF c (vals t)) (mk:=λi (v:L7×L6)=>((i:Int),v.1,v.2)) (N:=cA c) (I:=λi v=>(v.2.length<=i/\Cs v.2 (rnPi c t i))/\v.1=upd (vlv c t) t.Valves i) (λn i v hi hI=>by
  obtain ⟨V,l⟩:=v;obtain ⟨⟨hll,hC⟩,rfl⟩:=hI;obtain ⟨p,m,e1,e2,hp,hm,g1,g2⟩:=BA hc hi;have e5:(upd (vlv c t) t.Valves i)[i]?=some t.Valves[i]:=by rw [Cf (GS i)];exact gE_ om_
  have e7:t.Valves.getD i false=t.Valves[i]:=by rw [GU,gE_ om_];rfl
  have hsetV:∀ y,y=vlv c t i->(upd (vlv c t) t.Valves i).set i y=upd (vlv c t) t.Valves (i + 1):=λy hy=>Dt om_ hy;have hkeep:vlv c t i=t.Valves[i]->upd (vlv c t) t.Valves i=upd (vlv c t) t.Valves (i + 1):=λhy=>by
   rw [← hsetV t.Valves[i] hy.symm];refine HV λj=>?_;by_cases hj:j=i
   ·subst hj;rw [HH (by rw [Jz om_];omega),e5]
   ·rw [HT om_]
  have hvi:vlv c t i=if lin t (p:Int)=lin t (m:Int) then t.Valves[i] else lin t (p:Int):=by
   unfold vlv;rw [g1,g2,e7]
  dsimp only at hll hC;refine ⟨(upd (vlv c t) t.Valves (i + 1),if (lin t (p:Int) && lin t (m:Int))=true then l ++ [((cL c + i:Nat):Int)] else l),⟨?_,rfl⟩,?_⟩
  ·dsimp only;refine ⟨by split <;> (try simp) <;> omega,?_⟩
   cases hpm:lin t (p:Int) && lin t (m:Int) with
   | true=>
    rw [if_pos rfl];refine (hC.snoc λx ⟨j,h1,h2,_⟩=>by omega).iff λx=>?_;rw [Mw,g1,g2,hpm];simp
   | false=>
    rw [if_neg smp_];refine hC.iff λx=>?_;rw [Mw,g1,g2,hpm];simp
  ·rw [Hm];dsimp only;rw [hb.a,Aj,dt_ hi,ct_,Ai,e1,ob_,Zb ht hp,ob_,Ai,e2,ob_,Zb ht hm,ob_,Ew hb,ob_,As om_ om_,show (cL c:Int) + (i:Int)=((cL c + i:Nat):Int) by omega,Ai,e5,ob_,Am om_,G1];cases hP:lin t (p:Int) with
   | true=>
    cases hM:lin t (m:Int) with
    | true=>
     unfold app;rw [Bool.and_self,ct_,if_pos so_,hkeep (by rw [hvi,hP,hM];simp)];rfl
    | false=>
     rw [hsetV true (by rw [hvi,hP,hM];simp)];rfl
   | false=>
    cases hM:lin t (m:Int) with
    | true=>
     rw [hsetV false (by rw [hvi,hP,hM];simp)];rfl
    | false=>
     rw [hkeep (by rw [hvi,hP,hM];simp)];rfl) (λn v _=>by
  rw [Hm];dsimp only;rw [hb.a,Aj,df_ om_,cf_]) FF 0 (t.Valves,[]) om_ uF ⟨⟨by simp,Cs.nil λ_=>Ud⟩,Ce.symm⟩
 obtain ⟨V,l⟩:=v;obtain ⟨⟨hll,hC⟩,rfl⟩:=hI;try dsimp only at hl hll hC
 rw [n0] at hl;refine ⟨l,?_,by omega,hC⟩;show ((Hm FF c (vals t) FF ((0:Int),t.Valves,[])).bind _)=_;rw [hl,ob_];have e2:=Du (f:=vlv c t) (l:=t.Valves);rw [hvl] at e2;unfold tup;dsimp only;rw [e2,hvl]
theorem BZ {c:Aa} {t:Ac} (hb:Bd_ c) (ht:Fit c t) (V:L7) (hV:V.length=cA c):NC FF ⟨t.Ends,V,t.Inputs,t.Values,t.Timers⟩=some ⟨(List.range t.Ends.length).map λi=>Gk (V.getD i false) (t.Ends.getD i 0),V,t.Inputs,t.Values,t.Timers⟩:=by
 have h1:=hb.a';have hel:=ht.e;have hsm:Smst (⟨t.Ends,V,t.Inputs,t.Values,t.Timers⟩:Ac) 1000:=by
  have:=ht.sm hb;exact ⟨this.e,by show V.length<=1000;omega,this.i,this.x,this.t⟩
 unfold NC;rw [Dl hsm,ob_];obtain ⟨v,hI,hl⟩:=Qr (L:=Hl ⟨t.Ends,V,t.Inputs,t.Values,t.Timers⟩) (mk:=λi (v:L6)=>((i:Int),v)) (N:=cA c) (I:=λi v=>v=upd (λi=>Gk (V.getD i false) (t.Ends.getD i 0)) t.Ends i) (λn i v hi hI=>by
  subst hI;have e4:(upd (λi=>Gk (V.getD i false) (t.Ends.getD i 0)) t.Ends i)[i]?=some t.Ends[i]:=by rw [Cf (GS i)];exact gE_ om_
  have e6:t.Ends.getD i 0=t.Ends[i]:=by rw [GU,gE_ om_];rfl
  have e7:V.getD i false=V[i]:=by rw [GU,gE_ om_];rfl
  have hee:=ht.ee t.Ends[i] (GF om_);have hsetE:∀ y,y=Gk (V.getD i false) (t.Ends.getD i 0)->(upd (λi=>Gk (V.getD i false) (t.Ends.getD i 0)) t.Ends i).set i y=upd (λi=>Gk (V.getD i false) (t.Ends.getD i 0)) t.Ends (i + 1):=λy hy=>Dt om_ hy;have hkeepE:Gk (V.getD i false) (t.Ends.getD i 0)=t.Ends[i]->upd (λi=>Gk (V.getD i false) (t.Ends.getD i 0)) t.Ends i=upd (λi=>Gk (V.getD i false) (t.Ends.getD i 0)) t.Ends (i + 1):=λhy=>by
   rw [← hsetE t.Ends[i] hy.symm];refine HV λj=>?_;by_cases hj:j=i
   ·subst hj;rw [HH (by rw [Jz om_];omega),e4]
   ·rw [HT om_]
  refine ⟨_,rfl,?_⟩;rw [Hl];dsimp only;have eV:V[i]?=some V[i]:=gE_ om_;have eE:t.Ends[i]?=some t.Ends[i]:=gE_ om_;rw [hel,Aj,dt_ hi,ct_];simp only [Ai,eV,eE,e4,ob_,G1];rw [Am om_];rw [e6,e7] at hsetE hkeepE;generalize t.Ends[i]=e at hee hsetE hkeepE e4;cases hv:V[i] with
  | true=>
   rw [hv] at hsetE hkeepE;by_cases h0:e=0
   ·rw [show (e == 0)=true by simpa using h0];simp only [ct_,ob_,HS,cf_];rw [hsetE 1 (by unfold Gk;rw [if_pos rfl,if_neg om_])]
   ·by_cases h3:e=3
    ·rw [show (e == 0)=false by simpa using h0,show (e == 3)=true by simpa using h3];simp only [ct_,ob_,HS,cf_];rw [hsetE 1 (by unfold Gk;rw [if_pos rfl,if_neg om_])]
    ·rw [show (e == 0)=false by simpa using h0,show (e == 3)=false by simpa using h3];simp only [ct_,ob_,HS,cf_];rw [hkeepE (by unfold Gk;rw [if_pos rfl,if_pos om_])]
  | false=>
   rw [hv] at hsetE hkeepE;simp only [cf_,ob_,JB,ct_];by_cases h0:e=2
   ·rw [show (e == 2)=true by simpa using h0];simp only [ct_,ob_];rw [e4,ob_,ob_,hsetE 3 (by unfold Gk;rw [if_neg smp_,if_neg om_])]
   ·by_cases h3:e=1
    ·rw [show (e == 2)=false by simpa using h0,show (e == 1)=true by simpa using h3];simp only [ct_,ob_,cf_];rw [e4,ob_,ob_,hsetE 3 (by unfold Gk;rw [if_neg smp_,if_neg om_])]
    ·rw [show (e == 2)=false by simpa using h0,show (e == 1)=false by simpa using h3];simp only [cf_,ob_];rw [hkeepE (by unfold Gk;rw [if_neg smp_,if_pos om_])]) (λn v _=>by
  rw [Hl];dsimp only;rw [hel,Aj,df_ om_,cf_]) FF 0 t.Ends om_ uF Ce.symm
 subst hI;try dsimp only at hl
 rw [n0] at hl;show ((Hl ⟨t.Ends,V,t.Inputs,t.Values,t.Timers⟩ FF ((0:Int),t.Ends)).bind _)=_;rw [hl,ob_];have e2:=Du (f:=λi=>Gk (V.getD i false) (t.Ends.getD i 0)) (l:=t.Ends);rw [hel] at e2;unfold tup;dsimp only;rw [e2,hel]
theorem CE {c:Aa} {s:Ac} (hc:Rt c) (hf:Fit c s):match stl c 65 s with
  | some t=>∃ l,ND FF c s=some (rnd c t,l,true)/\l.length<=110/\Cs l λx=>Zv c 65 s x\/rnP c t x
  | none=>∃ a l,ND FF c s=some (a,l,false):=by
 have hb:=hc.bd;have h:=B3 hc hf;unfold ND;cases hs:stl c 65 s with
 | none=>rw [hs] at h;obtain ⟨a,l,h⟩:=h;rw [h];exact ⟨_,_,rfl⟩
 | some t=>
  rw [hs] at h;obtain ⟨l,h,hl,hC⟩:=h;obtain ⟨ht,_,_⟩:=Lf hf hs;obtain ⟨l2,h2,hl2,hC2⟩:=B0 hc ht;obtain ⟨l3,h3,hl3,hC3⟩:=Vr (a:=l) (b:=l2) om_ hC hC2;rw [h,ob_];dsimp only;rw [nt_,cf_,h2,ob_];dsimp only;rw [BZ hb ht _ (by simp [ht.v]),ob_,h3,ob_];refine ⟨l3,?_,by omega,hC3⟩;congr 2;unfold rnd;congr 1;refine List.map_congr_left λi hi=>?_;have hi:=GX.1 hi;rw [ht.e] at hi;rw [GU,GW,HR (by rw [ht.v];exact hi)];rfl
def rst (c:Aa):Nat->Ac->Option Ac
 | 0,_=>none
 | k + 1,s=>match stl c 65 s with
  | none=>none
  | some t=>if sst (rnd c t) s=true then some s else rst c k (rnd c t)
def Qt (c:Aa) (s:Ac):Prop:=∃ t,stl c 65 s=some t/\sst (rnd c t) s=true
theorem Xv {c:Aa}:∀ {k:Nat} {s t:Ac},Fit c s->rst c k s=some t->Fit c t/\t.Inputs=s.Inputs/\Qt c t
 | 0,_,_,_,h=>by cases h
 | k + 1,s,t,hf,h=>by
  unfold rst at h;cases hs:stl c 65 s with
  | none=>rw [hs] at h;cases h
  | some u=>
   rw [hs] at h;try dsimp only at h
   obtain ⟨hu,hk,_⟩:=Lf hf hs;split at h
   ·rename_i h1;obtain rfl:=Option.some.inj h;exact ⟨hf,rfl,u,hs,h1⟩
   ·obtain ⟨h1,h2,h3⟩:=Xv (Sf hu) h;exact ⟨h1,h2.trans hk.i,h3⟩
def Xw (c:Aa):Nat->Ac->Int->Prop
 | 0,_,_=>False
 | k + 1,s,x=>match stl c 65 s with
  | none=>False
  | some t=>(Zv c 65 s x\/rnP c t x)\/(sst (rnd c t) s=false/\Xw c k (rnd c t) x)
theorem CK {a b:L6} (h:a.length + b.length<=400000000):∃ l,QQ FF a b=some l/\l.length<=a.length + b.length/\Cs l λx=>x∈a\/x∈b:=by
 unfold QQ;obtain ⟨r1,r2,e2,e3,l3,hC⟩:=Xo (l:=a ++ b) so_;rw [Ph om_ om_,ob_,e2,ob_,e3];exact ⟨r2,rfl,by rw [GC] at l3;omega,hC.iff λx=>GN⟩
theorem Fh {c:Aa} (hc:Rc c):∀ (k n j:Nat) (s:Ac) (q:L6),j + k=65->k < n->Fit c s->q.length<=3000 * j ->
  match rst c k s with
  | some t=>∃ l,Cb FF c n ((j:Int),s,q)=some (.ret (t,0,l))/\l.length<=200000/\Cs l λx=>x∈q\/Xw c k s x
  | none=>Cb FF c n ((j:Int),s,q)=some (.ret (z0,21,[]))\/∃ q',Cb FF c n ((j:Int),s,q)=some (.brk q')
 | _,0,_,_,_,_,h,_,_=>by omega
 | 0,n + 1,j,s,q,h1,h2,hf,hq=>by
  unfold rst Cb;dsimp only;rw [show decide ((j:Int) < 65)=false by simp;omega,cf_];exact .inr ⟨_,rfl⟩
 | k + 1,n + 1,j,s,q,h1,h2,hf,hq=>by
  have hb:=hc.rt.bd;have h:=Vu hc hf;unfold rst Cb;dsimp only;rw [show decide ((j:Int) < 65)=true by simp;omega,ct_];cases hs:stl c 65 s with
  | none=>rw [hs] at h;rw [h];exact .inl rfl
  | some t=>
   rw [hs] at h;obtain ⟨l,h,hl,hmm⟩:=h;obtain ⟨ht,_,_⟩:=Lf hf hs;have hr:=Sf ht;obtain ⟨l2,e2,hl2,hC2⟩:=CK (a:=q) (b:=l) om_;rw [h,ob_];dsimp only;rw [zf_,cf_,e2,ob_,Ok (n:=1000) (hr.sm hb) uF om_,ob_];cases hq2:sst (rnd c t) s with
   | true=>
    rw [if_pos rfl,ct_,Gw.1 hq2];refine ⟨l2,rfl,by omega,hC2.iff λx=>?_⟩;rw [hmm,Xw,hs];dsimp only;rw [hq2];simp
   | false=>
    rw [if_neg smp_,cf_,Am om_];have ih:=Fh hc k n (j + 1) (rnd c t) l2 om_ om_ hr om_;cases hst:rst c k (rnd c t) with
    | none=>rw [hst] at ih;exact ih
    | some u=>
     rw [hst] at ih;obtain ⟨l',e4,hl',hC⟩:=ih;refine ⟨l',e4,hl',hC.iff λx=>?_⟩;rw [hC2.2];show (x∈q\/x∈l)\/Xw c k (rnd c t) x↔_;rw [hmm,Xw,hs];dsimp only;rw [hq2];simp [or_assoc]
theorem CS {c:Aa} {s:Ac} (hc:Rc c) (hf:Fit c s):match rst c 65 s with
  | some t=>∃ l,QS FF c s=some (t,0,l)/\l.length<=200000/\Cs l (Xw c 65 s)
  | none=>QS FF c s=some (z0,21,[]):=by
 have h:=Fh hc 65 FF 0 s [] om_ uF hf smp_;rw [n0] at h;unfold QS;rw [Jf hc,(Fy hc.rt.bd).2 hf,ob_,zf_,cf_];cases hs:rst c 65 s with
 | none=>
  rw [hs] at h;rcases h with h | ⟨q,h⟩ <;> rw [h] <;> rfl
 | some t=>rw [hs] at h;obtain ⟨l,h,hl,hC⟩:=h;rw [h];exact ⟨l,rfl,hl,hC.iff λx=>by simp⟩
theorem Wc {c:Aa}:∀ {n z},Cj FF c n z=(Cb FF c n z).map λo=>match o with | .brk q=>.brk q | .ret r=>.ret (r.1,r.2.2,r.2.1):=by
 intro n
 induction n with
 | zero=>intro z;rfl
 | succ n ih=>
  intro z;rw [Cj,Cb];cases decide (z.1 < 65) with
  | false=>rfl
  | true=>
   rw [ct_,ct_];cases QO FF c z.2.1 with
   | none=>rfl
   | some x=>
    rw [ob_,ob_];cases x.2.1 != 0 with
    | true=>rfl
    | false=>
     rw [cf_,cf_];cases QQ FF z.2.2 x.2.2 with
     | none=>rfl
     | some y=>
      rw [ob_,ob_];cases QE FF x.1 z.2.1 with
      | none=>rfl
      | some b=>
       rw [ob_,ob_];cases b with
       | true=>rfl
       | false=>rw [cf_,cf_];exact ih
theorem Xb {c:Aa} {s:Ac} (hc:Rc c) (hf:Fit c s):match rst c 65 s with
  | some t=>∃ l,Rq FF c s=some (t,l,0)/\l.length<=200000/\Cs l (Xw c 65 s)
  | none=>Rq FF c s=some (z0,[],21):=by
 have h:=Fh hc 65 FF 0 s [] om_ uF hf smp_;rw [n0] at h;unfold Rq;rw [Jf hc,(Fy hc.rt.bd).2 hf,ob_,zf_,cf_,Wc];cases hs:rst c 65 s with
 | none=>
  rw [hs] at h;rcases h with h | ⟨q,h⟩ <;> rw [h] <;> rfl
 | some t=>rw [hs] at h;obtain ⟨l,h,hl,hC⟩:=h;rw [h];exact ⟨l,rfl,hl,hC.iff λx=>by simp⟩
theorem Ly {c:Aa} (hc:Rt c):∀ (k n j:Nat) (s:Ac) (q:L6),j + k=65->k < n->Fit c s->q.length<=110 * j->∀ {p:Int->Prop},Cs q p ->
  match rst c k s with
  | some t=>∃ l,Ff FF c n (q,(j:Int),s)=some (.ret (t,l,true))/\Cs l λx=>p x\/Xw c k s x
  | none=>(∃ a l,Ff FF c n (q,(j:Int),s)=some (.ret (a,l,false)))\/∃ q',Ff FF c n (q,(j:Int),s)=some (.brk q')
 | _,0,_,_,_,_,h,_,_,_,_=>by omega
 | 0,n + 1,j,s,q,h1,h2,hf,hq,p,hp=>by
  unfold rst Ff;dsimp only;rw [show decide ((j:Int)<=64)=false by simp;omega,cf_];exact .inr ⟨_,rfl⟩
 | k + 1,n + 1,j,s,q,h1,h2,hf,hq,p,hp=>by
  have hb:=hc.bd;have h:=CE hc hf;unfold rst Ff;dsimp only;rw [show decide ((j:Int)<=64)=true by simp;omega,ct_];cases hs:stl c 65 s with
  | none=>rw [hs] at h;obtain ⟨a,l,h⟩:=h;rw [h];exact .inl ⟨_,_,rfl⟩
  | some t=>
   rw [hs] at h;obtain ⟨l,h,hl,hC⟩:=h;obtain ⟨ht,_,_⟩:=Lf hf hs;have hr:=Sf ht;obtain ⟨l2,e2,hl2,hC2⟩:=Vr (a:=q) (b:=l) om_ hp hC;rw [h,ob_];dsimp only;rw [nt_,cf_,e2,ob_,Pi (n:=1000) (hf.sm hb) uF om_,ob_,show sst s (rnd c t)=sst (rnd c t) s from Sa];cases hq2:sst (rnd c t) s with
   | true=>
    rw [if_pos rfl,ct_];refine ⟨l2,rfl,hC2.iff λx=>?_⟩;rw [Xw,hs];dsimp only;rw [hq2];simp
   | false=>
    rw [if_neg smp_,cf_,Am om_];have ih:=Ly hc k n (j + 1) (rnd c t) l2 om_ om_ hr om_ hC2;cases hst:rst c k (rnd c t) with
    | none=>rw [hst] at ih;exact ih
    | some u=>
     rw [hst] at ih;obtain ⟨l',e4,hC⟩:=ih;refine ⟨l',e4,hC.iff λx=>?_⟩;rw [Xw,hs];dsimp only;rw [hq2];simp [or_assoc]
theorem Vz {c:Aa} {s:Ac} (hc:Rt c) (hf:Fit c s):match rst c 65 s with
  | some t=>∃ l,NE FF c s=some (t,l,true)/\Cs l (Xw c 65 s)
  | none=>∃ a l,NE FF c s=some (a,l,false):=by
 have h:=Ly hc 65 FF 0 s [] om_ uF hf smp_ (Cs.nil (p:=λ_=>False) λ_ h=>h);rw [n0] at h;unfold NE;cases hs:rst c 65 s with
 | none=>
  rw [hs] at h;rcases h with ⟨a,l,h⟩ | ⟨q,h⟩ <;> rw [h] <;> exact ⟨_,_,rfl⟩
 | some t=>rw [hs] at h;obtain ⟨l,h,hC⟩:=h;rw [h];exact ⟨l,rfl,hC.iff λx=>by simp⟩
theorem CX {c:Aa} {s:Ac} (hc:Rt c) (hf:Fit c s):match rst c 65 s with
  | some t=>∃ l,NG FF c s=some (t,l,0)/\Cs l (Xw c 65 s)
  | none=>NG FF c s=some (z0,[],21):=by
 have h:=Vz hc hf;unfold NG;cases hs:rst c 65 s with
 | none=>rw [hs] at h;obtain ⟨a,l,h⟩:=h;rw [h];rfl
 | some t=>rw [hs] at h;obtain ⟨l,h,hC⟩:=h;rw [h];exact ⟨_,rfl,hC⟩
def qtE (c:Aa) (s:Ac):Int:=if DB c s=0 then (match stl c 65 s with | some t=>if sst (rnd c t) s=true then 0 else 14 | none=>14) else DB c s
theorem Wb {c:Aa} {s:Ac} (hc:Rc c):QU FF c s=some (qtE c s):=by
 unfold QU QT qtE;rw [Jf hc,ob_];by_cases h0:DB c s=0
 ·have hf:=(Fy hc.rt.bd).1 h0;have h:=Vu hc hf;rw [if_pos h0,h0,zf_,cf_];cases hs:stl c 65 s with
  | none=>rw [hs] at h;rw [h];rfl
  | some t=>
   rw [hs] at h;obtain ⟨l,h,hl⟩:=h;obtain ⟨ht,_,_⟩:=Lf hf hs;rw [h,ob_];dsimp only;rw [show ((0:Int) == 0)=true by rfl,ct_,Ok (n:=1000) ((Sf ht).sm hc.rt.bd) uF om_];cases sst (rnd c t) s <;> rfl
 ·rw [if_neg h0,show (DB c s != 0)=true by simpa using h0,ct_,ob_];dsimp only;rw [show (DB c s != 0)=true by simpa using h0,ct_]
theorem Ya {c:Aa} {s:Ac} (hb:Bd_ c):qtE c s=0↔Fit c s/\Qt c s:=by
 unfold qtE Qt;rw [← Fy hb];by_cases h0:DB c s=0
 ·rw [if_pos h0];cases stl c 65 s with
  | none=>simp
  | some t=>simp [h0]
 ·rw [if_neg h0];simp [h0]
def act (s:Ac) (x:Ae):Option Ac:=
 if x.Kind=0 then (match idx s.Ends x.Index with
  | some e=>if e=1 then some { s with Ends:=s.Ends.set x.Index.toNat 2 } else if e=3 then some { s with Ends:=s.Ends.set x.Index.toNat 0 } else none
  | none=>none)
 else if x.Kind=1 then (match idx s.Timers x.Index with
  | some t=>if t=1 then some { s with Values:=s.Values.set x.Index.toNat true,Timers:=s.Timers.set x.Index.toNat 2 } else none
  | none=>none)
 else (match idx s.Inputs x.Index with
  | some v=>if v=x.Value then none else some { s with Inputs:=s.Inputs.set x.Index.toNat x.Value }
  | none=>none)
def aft (c:Aa) (s:Ac) (x:Ae):Ac×Int:=
 if x.Kind < 0\/3<=x.Kind then (z0,1) else match act s x with
  | none=>(z0,14)
  | some s'=>match rst c 65 s' with
   | none=>(z0,21)
   | some t=>(t,0)
theorem Wy {α:Type} {l:List α} {i:Nat} {y a:α} (h:a∈l.set i y):a∈l\/a=y:=by
 rcases List.mem_or_eq_of_mem_set h with h | h
 ·exact .inl h
 ·exact .inr h
theorem Tt {c:Aa} {s s':Ac} {x:Ae} (h:Fit c s) (ha:act s x=some s'):Fit c s':=by
 unfold act at ha;split at ha
 ·split at ha
  ·rename_i e he;split at ha
   ·obtain rfl:=Option.some.inj ha;exact ⟨(JH ..).trans h.e,h.v,h.i,h.x,h.t,λa ha=>(Wy ha).elim (h.ee a) (λe=>by omega),h.tt,h.k⟩
   ·split at ha
    ·obtain rfl:=Option.some.inj ha;exact ⟨(JH ..).trans h.e,h.v,h.i,h.x,h.t,λa ha=>(Wy ha).elim (h.ee a) (λe=>by omega),h.tt,h.k⟩
    ·cases ha
  ·cases ha
 ·split at ha
  ·split at ha
   ·rename_i t ht;split at ha
    ·rename_i h1;obtain rfl:=Option.some.inj ha;obtain ⟨i0,i1,i2⟩:=Ay ht;refine ⟨h.e,h.v,h.i,(JH ..).trans h.x,(JH ..).trans h.t,h.ee,λa ha=>(Wy ha).elim (h.tt a) (λe=>by omega),?_⟩;intro i y t' v' hy ht' hv';dsimp only at ht' hv';by_cases e:i=x.Index.toNat
     ·subst e;rw [HH om_] at ht';rw [HH (by have:=h.x;have:=h.t;omega)] at hv';obtain rfl:=Option.some.inj ht';obtain rfl:=Option.some.inj hv';refine ⟨λhk=>?_,λ_=>rfl⟩;have hlt:x.Index.toNat < s.Values.length:=by rw [h.x,← h.t];exact (GE.1 i2).1
      have hvo:s.Values[x.Index.toNat]?=some s.Values[x.Index.toNat]:=gE_ hlt;have:=(h.k _ y t _ hy i2 hvo).1 hk;omega
     ·rw [HT om_] at ht' hv';exact h.k i y t' v' hy ht' hv'
    ·cases ha
   ·cases ha
  ·split at ha
   ·split at ha
    ·cases ha
    ·obtain rfl:=Option.some.inj ha;exact ⟨h.e,h.v,(JH ..).trans h.i,h.x,h.t,h.ee,h.tt,h.k⟩
   ·cases ha
def afP (c:Aa) (s:Ac) (x:Ae) (y:Int):Prop:=(aft c s x).2=0/\∃ s',act s x=some s'/\Xw c 65 s' y
theorem CR {c:Aa} {s:Ac} {x:Ae} (hc:Rc c) (hf:Fit c s):∃ l,QZ FF c s x=some ((aft c s x).1,l,(aft c s x).2)/\l.length<=200000/\Cs l (afP c s x):=by
 have hb:=hc.rt.bd;unfold QZ afP aft;rw [Vt (hf.sm hb),ob_];by_cases hk:x.Kind < 0\/3<=x.Kind
 ·rw [if_pos hk,show (decide (x.Kind < 0) || decide (x.Kind>=(3:Int)))=true by simpa using hk];exact ⟨_,rfl,by simp,Cs.nil λx h=>by cases h.1⟩
 ·rw [if_neg hk,show (decide (x.Kind < 0) || decide (x.Kind>=(3:Int)))=false by simp;omega,cf_]
  -- what the act gives
  have key:∃ r:Bool×L6×L7×L7×L7×L6,((idx (List.range 3) x.Kind).bind λx6=>(bif x6 == 0 then QW FF x (tup s).1 (tup s).2.1 (tup s).2.2.1 (tup s).2.2.2.1 (tup s).2.2.2.2 else bif x6 == 1 then QX FF x (tup s).1 (tup s).2.1 (tup s).2.2.1 (tup s).2.2.2.1 (tup s).2.2.2.2 else bif x6 == 2 then QY FF x (tup s).1 (tup s).2.1 (tup s).2.2.1 (tup s).2.2.2.1 (tup s).2.2.2.2 else none))=some r /\
    (match act s x with | none=>r.1=false | some s'=>r=(true,s'.Ends,s'.Valves,s'.Inputs,s'.Values,s'.Timers)):=by
   unfold tup act;dsimp only;have hkk:x.Kind=0\/x.Kind=1\/x.Kind=2:=by omega
   rcases hkk with k | k | k <;> rw [k]
   ·rw [show idx (List.range 3) (0:Int)=some 0 by rfl,ob_,show ((0:Nat) == 0)=true by rfl,ct_,if_pos rfl];unfold QW;by_cases hr:x.Index < 0\/(s.Ends.length:Int)<=x.Index
    ·rw [show (decide (x.Index < 0) || decide (x.Index>=(s.Ends.length:Int)))=true by simpa using hr,ct_];have:idx s.Ends x.Index=none:=by
      cases he:idx s.Ends x.Index with
      | none=>rfl
      | some e=>have:=Ay he;omega
     rw [this];exact ⟨_,rfl,rfl⟩
    ·rw [show (decide (x.Index < 0) || decide (x.Index>=(s.Ends.length:Int)))=false by simp;omega,cf_];obtain ⟨e,he,_⟩:=Cu (xs:=s.Ends) (i:=x.Index) om_ om_;rw [he,ob_];dsimp only;by_cases h1:e=1
     ·rw [if_pos h1,show (e == 1)=true by simpa using h1,ct_];exact ⟨_,rfl,rfl⟩
     ·rw [if_neg h1,show (e == 1)=false by simpa using h1,cf_];by_cases h3:e=3
      ·rw [if_pos h3,show (e == 3)=true by simpa using h3,ct_];exact ⟨_,rfl,rfl⟩
      ·rw [if_neg h3,show (e == 3)=false by simpa using h3,cf_];exact ⟨_,rfl,rfl⟩
   ·rw [show idx (List.range 3) (1:Int)=some 1 by rfl,ob_,show ((1:Nat) == 0)=false by rfl,cf_,show ((1:Nat) == 1)=true by rfl,ct_,if_neg om_,if_pos rfl];unfold QX;by_cases hr:x.Index < 0\/(s.Timers.length:Int)<=x.Index
    ·rw [show (decide (x.Index < 0) || decide (x.Index>=(s.Timers.length:Int)))=true by simpa using hr,ct_,ob_];have:idx s.Timers x.Index=none:=by
      cases he:idx s.Timers x.Index with
      | none=>rfl
      | some e=>have:=Ay he;omega
     rw [this];exact ⟨_,rfl,rfl⟩
    ·rw [show (decide (x.Index < 0) || decide (x.Index>=(s.Timers.length:Int)))=false by simp;omega,cf_];obtain ⟨e,he,_⟩:=Cu (xs:=s.Timers) (i:=x.Index) om_ om_;obtain ⟨v,hv,_⟩:=Cu (xs:=s.Values) (i:=x.Index) om_ (by have:=hf.x;have:=hf.t;omega);rw [he,ob_,ob_];dsimp only;by_cases h1:e=1
     ·rw [if_pos h1,show (e != 1)=false by simpa using h1,cf_,ob_,hv];exact ⟨_,rfl,rfl⟩
     ·rw [if_neg h1,show (e != 1)=true by simpa using h1,ct_];exact ⟨_,rfl,rfl⟩
   ·rw [show idx (List.range 3) (2:Int)=some 2 by rfl,ob_,show ((2:Nat) == 0)=false by rfl,cf_,show ((2:Nat) == 1)=false by rfl,cf_,show ((2:Nat) == 2)=true by rfl,ct_,if_neg om_,if_neg om_];unfold QY;by_cases hr:x.Index < 0\/(s.Inputs.length:Int)<=x.Index
    ·rw [show (decide (x.Index < 0) || decide (x.Index>=(s.Inputs.length:Int)))=true by simpa using hr,ct_,ob_];have:idx s.Inputs x.Index=none:=by
      cases he:idx s.Inputs x.Index with
      | none=>rfl
      | some e=>have:=Ay he;omega
     rw [this];exact ⟨_,rfl,rfl⟩
    ·rw [show (decide (x.Index < 0) || decide (x.Index>=(s.Inputs.length:Int)))=false by simp;omega,cf_];obtain ⟨e,he,_⟩:=Cu (xs:=s.Inputs) (i:=x.Index) om_ om_;rw [he,ob_,ob_];dsimp only;by_cases h1:e=x.Value
     ·rw [if_pos h1,show (e == x.Value)=true by simpa using h1,ct_];exact ⟨_,rfl,rfl⟩
     ·rw [if_neg h1,show (e == x.Value)=false by simpa using h1,cf_,ob_];exact ⟨_,rfl,rfl⟩
  obtain ⟨r,hr,hm⟩:=key;obtain ⟨x6,h6,hr⟩:=H0.1 hr;rw [h6,ob_,hr,ob_];cases ha:act s x with
  | none=>
   rw [ha] at hm;rw [hm,nf_,ct_];exact ⟨_,rfl,by simp,Cs.nil λx h=>by cases h.1⟩
  | some s'=>
   rw [ha] at hm;subst hm;have h:=Xb hc (Tt hf ha);dsimp only;rw [nt_,cf_];rw [show (⟨s'.Ends,s'.Valves,s'.Inputs,s'.Values,s'.Timers⟩:Ac)=s' from rfl];cases hs:rst c 65 s' with
   | none=>rw [hs] at h;rw [h];exact ⟨_,rfl,by simp,Cs.nil λx h=>by cases h.1⟩
   | some t=>rw [hs] at h;obtain ⟨l,h,hl,hC⟩:=h;rw [h];exact ⟨_,rfl,hl,hC.iff λx=>by simp⟩
theorem m91_cs {c:Aa} {s:Ac} {x:Ae} (hc:Rc c) (hf:Fit c s) (hq:Qt c s):∃ l,m91 FF c s x=some ((aft c s x).1,l,(aft c s x).2)/\l.length<=200000/\Cs l (afP c s x):=by
 obtain ⟨l,h,hl,hC⟩:=CR (x:=x) hc hf;unfold m91;rw [Wb hc,(Ya hc.rt.bd).2 ⟨hf,hq⟩,ob_,zf_,cf_,h];exact ⟨l,rfl,hl,hC⟩
theorem Ye {c:Aa} {s:Ac} {x:Ae} (hc:Rc c) (hf:Fit c s) (hq:Qt c s):∃ l,m91 FF c s x=some ((aft c s x).1,l,(aft c s x).2):=
 let ⟨l,h,_⟩:=m91_cs hc hf hq;⟨l,h⟩
end Go.Pn
namespace Go.Pn
open Go
def Tu (s:Ac) (i:Nat):Option Ae:=if s.Ends.getD i 0=1\/s.Ends.getD i 0=3 then some ⟨0,(i:Int),false⟩ else none
def AT (s:Ac) (i:Nat):Option Ae:=if s.Timers.getD i 0=1 then some ⟨1,(i:Int),false⟩ else none
def Jx (s:Ac):List Ae:=(List.range s.Ends.length).filterMap (Tu s) ++ (List.range s.Timers.length).filterMap (AT s)
theorem Bx {α:Type} {g:Nat->Option α} {n:Nat}:((List.range n).filterMap g).length<=n:=by
 have:=List.length_filterMap_le g (List.range n);rw [K9] at this;exact this
theorem Gf {α:Type} {g:Nat->Option α} {n:Nat}:(List.range (n + 1)).filterMap g=(List.range n).filterMap g ++ (match g n with | some y=>[y] | none=>[]):=by
 rw [List.range_succ,List.filterMap_append];cases h:g n <;> simp [h]
theorem Yl {s:Ac} (h:Smst s 1000):m65 FF s=some (Jx s):=by
 have h1:=h.e;have h2:=h.t;unfold m65;obtain ⟨v,hv,hl⟩:=Qr (L:=Re s) (mk:=λi (v:List Ae)=>((i:Int),v)) (N:=s.Ends.length) (I:=λi v=>v=(List.range i).filterMap (Tu s)) (λn i v hi hI=>by
  subst hI;refine ⟨_,rfl,?_⟩;have hle:=Bx (g:=Tu s) (n:=i);have hg:s.Ends.getD i 0=s.Ends[i]:=by rw [GU,gE_ hi];rfl
  rw [Re];dsimp only;rw [Aj,dt_ hi,ct_];simp only [Ai,gE_ hi,ob_];rw [Am om_,Gf];have hp:Tu s i=if s.Ends[i]=1\/s.Ends[i]=3 then some ⟨0,(i:Int),false⟩ else none:=by unfold Tu;rw [hg]
  rw [hp];by_cases a1:s.Ends[i]=1
  ·rw [show (s.Ends[i] == 1)=true by simpa using a1,if_pos (.inl a1),ct_,ob_,ct_,Ar so_];rfl
  ·by_cases a3:s.Ends[i]=3
   ·rw [show (s.Ends[i] == 1)=false by simpa using a1,show (s.Ends[i] == 3)=true by simpa using a3,if_pos (.inr a3),cf_,ob_,ct_,Ar so_];rfl
   ·rw [show (s.Ends[i] == 1)=false by simpa using a1,show (s.Ends[i] == 3)=false by simpa using a3,if_neg om_,cf_,ob_,cf_,ob_,HL]) (λn v _=>by
  rw [Re];dsimp only;rw [Aj,df_ om_,cf_]) FF 0 [] om_ uF rfl
 subst hv;try dsimp only at hl
 rw [n0] at hl;rw [hl,ob_];have hle1:=Bx (g:=Tu s) (n:=s.Ends.length);obtain ⟨v,hv,hl⟩:=Qr (L:=Rb s) (mk:=λi (v:List Ae)=>((i:Int),v)) (N:=s.Timers.length) (I:=λi v=>v=(List.range s.Ends.length).filterMap (Tu s) ++ (List.range i).filterMap (AT s)) (λn i v hi hI=>by
  subst hI;refine ⟨_,rfl,?_⟩;have hle:=Bx (g:=AT s) (n:=i);have hg:s.Timers.getD i 0=s.Timers[i]:=by rw [GU,gE_ hi];rfl
  rw [Rb];dsimp only;rw [Aj,dt_ hi,ct_];simp only [Ai,gE_ hi,ob_];rw [Am om_,Gf];have hp:AT s i=if s.Timers[i]=1 then some ⟨1,(i:Int),false⟩ else none:=by unfold AT;rw [hg]
  rw [hp];by_cases a1:s.Timers[i]=1
  ·rw [show (s.Timers[i] == 1)=true by simpa using a1,if_pos a1,ct_,Ar so_,← G2];rfl
  ·rw [show (s.Timers[i] == 1)=false by simpa using a1,if_neg a1,cf_,ob_,HL]) (λn v _=>by
  rw [Rb];dsimp only;rw [Aj,df_ om_,cf_]) FF 0 ((List.range s.Ends.length).filterMap (Tu s)) om_ uF smp_
 subst hv;try dsimp only at hl
 rw [n0] at hl;rw [hl];rfl
theorem Mj {s:Ac} (h:Smst s 1000):(Jx s).length<=2000:=by
 have h1:=h.e;have h2:=h.t;have a:=Bx (g:=Tu s) (n:=s.Ends.length);have b:=Bx (g:=AT s) (n:=s.Timers.length);unfold Jx;rw [GC];omega
theorem Sk {s:Ac} {x:Ae}:x∈Jx s↔(∃ i,i < s.Ends.length/\(s.Ends.getD i 0=1\/s.Ends.getD i 0=3)/\x=⟨0,(i:Int),false⟩)\/(∃ i,i < s.Timers.length/\s.Timers.getD i 0=1/\x=⟨1,(i:Int),false⟩):=by
 unfold Jx;rw [GN,J4,J4];unfold Tu AT;constructor
 ·rintro (⟨i,hi,h⟩ | ⟨i,hi,h⟩)
  ·split at h
   ·rename_i h1;exact .inl ⟨i,GX.1 hi,h1,(Option.some.inj h).symm⟩
   ·cases h
  ·split at h
   ·rename_i h1;exact .inr ⟨i,GX.1 hi,h1,(Option.some.inj h).symm⟩
   ·cases h
 ·rintro (⟨i,hi,h,rfl⟩ | ⟨i,hi,h,rfl⟩)
  ·exact .inl ⟨i,GX.2 hi,by rw [if_pos h]⟩
  ·exact .inr ⟨i,GX.2 hi,by rw [if_pos h]⟩
theorem Zh {l:L6} {i:Nat} (h:i < l.length):idx l (i:Int)=some (l.getD i 0):=by
 rw [Ai,GU,gE_ h];rfl
theorem Zd {l:L6} {i e:Int} (h:idx l i=some e):i.toNat < l.length/\l.getD i.toNat 0=e/\((i.toNat:Nat):Int)=i:=by
 obtain ⟨h0,h1,h2⟩:=Ay h;exact ⟨(GE.1 h2).1,by rw [GU,h2];rfl,by omega⟩
theorem CY {s:Ac} {x:Ae} (h:Smst s 1000) (hk:0<=x.Kind/\x.Kind < 3):MF FF s x=some (act s x).isSome:=by
 have hkk:x.Kind=0\/x.Kind=1\/x.Kind=2:=by omega
 unfold MF;by_cases h2:x.Kind=2
 ·rw [h2,show ((2:Int) == 2)=true by rfl,ct_];unfold act;rw [if_neg om_,if_neg om_];by_cases hr:x.Index>=0/\x.Index < s.Inputs.length
  ·rw [dt_ hr.1,dt_ hr.2,Bool.and_self,ct_];obtain ⟨v,hv,_⟩:=Cu (xs:=s.Inputs) hr.1 hr.2;rw [hv,ob_,ob_];dsimp only;by_cases e:v=x.Value
   ·rw [if_pos e,e];simp
   ·rw [if_neg e,show (v != x.Value)=true by simpa using e];rfl
  ·have:(decide (x.Index>=(0:Int)) && decide (x.Index < (s.Inputs.length:Int)))=false:=by
    rw [J9,decide_eq_false_iff_not,decide_eq_false_iff_not];omega
   have hn:idx s.Inputs x.Index=none:=by
    cases he:idx s.Inputs x.Index with
    | none=>rfl
    | some e=>have:=Ay he;omega
   rw [this,hn];rfl
 ·rw [show (x.Kind == 2)=false by simpa using h2,cf_,Yl h,ob_];have hpl:=Mj h;have h5:=AS (L:=Pm x (Jx s)) (xs:=Jx s) (p:=λ_ y=>some ((y.Kind == x.Kind) && (y.Index == x.Index))) (q:=λy=>(y.Kind == x.Kind) && (y.Index == x.Index)) (r:=λ_=>true) (λn z=>by
   rw [Pm];congr 1;cases hy:idx (Jx s) z with
   | none=>rfl
   | some y=>
    simp only [ob_];cases (y.Kind == x.Kind) <;> rfl) om_ (λi y hy=>rfl) FF 0 om_ (by unfold FF; omega)
  rw [n0,GL] at h5;rw [h5];have key:(act s x).isSome=true↔∃ y∈Jx s,((y.Kind == x.Kind) && (y.Index == x.Index))=true:=by
   unfold act;constructor
   ·intro ha;split at ha
    ·rename_i hk0;split at ha
     ·rename_i e he;obtain ⟨g1,g2,g3⟩:=Zd he;have:e=1\/e=3:=by
       split at ha
       ·left;assumption
       ·split at ha
        ·right;assumption
        ·cases ha
      exact ⟨⟨0,((x.Index.toNat:Nat):Int),false⟩,Sk.2 (.inl ⟨_,g1,by omega,rfl⟩),by simp [hk0,g3]⟩
     ·cases ha
    ·split at ha
     ·rename_i hk0 hk1;split at ha
      ·rename_i e he;obtain ⟨g1,g2,g3⟩:=Zd he;have:e=1:=by
        split at ha
        ·assumption
        ·cases ha
       exact ⟨⟨1,((x.Index.toNat:Nat):Int),false⟩,Sk.2 (.inr ⟨_,g1,by omega,rfl⟩),by simp [hk1,g3]⟩
      ·cases ha
     ·omega
   ·rintro ⟨y,hy,hq⟩;rw [GH,beq_iff_eq,beq_iff_eq] at hq;obtain ⟨q1,q2⟩:=hq;rcases Sk.1 hy with ⟨i,hi,he,rfl⟩ | ⟨i,hi,he,rfl⟩
    ·dsimp only at q1 q2;rw [if_pos q1.symm,← q2,Zh hi];dsimp only;rcases he with he | he
     ·rw [if_pos he];rfl
     ·rw [if_neg om_,if_pos he];rfl
    ·dsimp only at q1 q2;rw [if_neg om_,if_pos q1.symm,← q2,Zh hi];dsimp only;rw [if_pos he];rfl
  cases h6:(Jx s).findIdx? (λy=>(y.Kind == x.Kind) && (y.Index == x.Index)) with
  | none=>
   rw [HK] at h6;have:(act s x).isSome=false:=by
    rw [L5];intro ha;obtain ⟨y,hy,hq⟩:=key.1 ha;rw [h6 y hy] at hq;cases hq
   rw [this];rfl
  | some j=>
   obtain ⟨hj,hj2,_⟩:=G7.1 h6;rw [key.2 ⟨_,GF hj,hj2⟩];rfl
theorem CW {c:Aa} {s s':Ac} {x:Ae} (hb:Bd_ c) (hf:Fit c s) (hk:0<=x.Kind/\x.Kind < 3) (ha:act s x=some s'):NH FF s x=some s':=by
 have hkk:x.Kind=0\/x.Kind=1\/x.Kind=2:=by omega
 unfold NH;rw [Dl (hf.sm hb),ob_];unfold tup;dsimp only;unfold act at ha;rcases hkk with k | k | k <;> rw [k] at ha ⊢
 ·rw [if_pos rfl] at ha;rw [show ((0:Int) == 0)=true by rfl,ct_];split at ha
  ·rename_i e he;obtain ⟨i0,i1,i2⟩:=Ay he;rw [he,ob_,ob_];split at ha
   ·rename_i h1;obtain rfl:=Option.some.inj ha;obtain ⟨y,hy,_⟩:=Cu (xs:=s.Ends.set x.Index.toNat 0) i0 (by rw [JH];exact i1);rw [h1,show ((1:Int) == 1)=true by rfl,ct_,hy,ob_,ob_,ob_,List.set_set]
   ·rename_i h1;split at ha
    ·obtain rfl:=Option.some.inj ha;rw [show (e == 1)=false by simpa using h1,cf_,ob_,ob_]
    ·cases ha
  ·cases ha
 ·rw [if_neg om_,if_pos rfl] at ha;rw [show ((1:Int) == 0)=false by rfl,cf_,show ((1:Int) == 1)=true by rfl,ct_];split at ha
  ·rename_i e he;obtain ⟨i0,i1,i2⟩:=Ay he;have hx:=hf.x;have ht:=hf.t;obtain ⟨y,hy,_⟩:=Cu (xs:=s.Values) i0 om_;rw [he,ob_,hy,ob_,ob_];split at ha
   ·obtain rfl:=Option.some.inj ha;rfl
   ·cases ha
  ·cases ha
 ·rw [if_neg om_,if_neg om_] at ha;rw [show ((2:Int) == 0)=false by rfl,cf_,show ((2:Int) == 1)=false by rfl,cf_,show ((2:Int) == 2)=true by rfl,ct_];split at ha
  ·rename_i e he;rw [he,ob_,ob_,ob_,ob_];split at ha
   ·cases ha
   ·obtain rfl:=Option.some.inj ha;rfl
  ·cases ha
theorem m66_cs {c:Aa} {s:Ac} {x:Ae} (hc:Rt c) (hf:Fit c s):∃ l,m66 FF c s x=some ((aft c s x).1,l,(aft c s x).2)/\Cs l (afP c s x):=by
 have hb:=hc.bd;unfold m66 afP aft;by_cases hk:x.Kind < 0\/3<=x.Kind
 ·rw [if_pos hk,show (decide (x.Kind < 0) || decide (x.Kind > 2))=true by simp;omega];exact ⟨_,rfl,Cs.nil λx h=>by cases h.1⟩
 ·rw [if_neg hk,show (decide (x.Kind < 0) || decide (x.Kind > 2))=false by simp;omega,cf_,CY (hf.sm hb) om_,ob_];cases ha:act s x with
  | none=>exact ⟨_,rfl,Cs.nil λx h=>by cases h.1⟩
  | some s'=>
   rw [show (!(some s').isSome)=false by rfl,cf_,CW hb hf om_ ha,ob_];have h:=CX hc (Tt hf ha);dsimp only;cases hs:rst c 65 s' with
   | none=>rw [hs] at h;rw [h];exact ⟨_,rfl,Cs.nil λx h=>by cases h.1⟩
   | some t=>rw [hs] at h;obtain ⟨l,h,hC⟩:=h;rw [h];exact ⟨_,rfl,hC.iff λy=>⟨λh=>⟨rfl,s',rfl,h⟩,λ⟨_,s2,h2,h3⟩=>by obtain rfl:=Option.some.inj h2;exact h3⟩⟩
theorem Yk {c:Aa} {s:Ac} {x:Ae} (hc:Rt c) (hf:Fit c s):∃ l,m66 FF c s x=some ((aft c s x).1,l,(aft c s x).2):=
 let ⟨l,h,_⟩:=m66_cs hc hf;⟨l,h⟩
def DV (c:Aa) (i:Nat):Bool:=((c.Signals[i]?).map (·.Init)).getD false
def ini (c:Aa):Ac:=⟨List.replicate (cA c) 0,List.replicate (cA c) false,List.replicate c.Inputs.length false,(List.range c.Signals.length).map (DV c),List.replicate c.Signals.length 0⟩
theorem Tj {c:Aa} (hc:Rt c):Fit c (ini c):=by
 refine ⟨by simp [ini],by simp [ini],by simp [ini],by simp [ini],by simp [ini],?_,?_,?_⟩
 ·intro a ha;have:=LE ha;omega
 ·intro a ha;have:=LE ha;omega
 ·intro i x t v hx ht hv;have hi:=(GE.1 hx).1;have ht':(List.replicate c.Signals.length (0:Int))[i]?=some t:=ht;have hv':((List.range c.Signals.length).map (DV c))[i]?=some v:=hv;rw [J2,if_pos hi] at ht';rw [GW,HR hi] at hv';have ht':=Option.some.inj ht';have hv':=Option.some.inj hv';subst ht';refine ⟨λ_=>rfl,λhk=>?_⟩;have:=hc.ini x (GM hx) hk;unfold DV at hv';rw [hx] at hv';have hv':x.Init=v:=hv';rw [← hv',this];rfl
theorem Ma {c:Aa} (hb:Bd_ c):∃ z,Eg c FF ((0:Int),List.replicate c.Signals.length false)=some (z,(List.range c.Signals.length).map (DV c)):=by
 have h3:=hb.s;obtain ⟨v,hv,hl⟩:=Qr (L:=Eg c) (mk:=λi (v:L7)=>((i:Int),v)) (N:=c.Signals.length) (I:=λi v=>v=upd (DV c) (List.replicate c.Signals.length false) i) (λn i v hi hI=>by
  subst hI;refine ⟨_,rfl,?_⟩;have hg:(upd (DV c) (List.replicate c.Signals.length false) i)[i]?=some false:=by rw [Cf (GS i),J2,if_pos hi]
  rw [Eg];dsimp only;rw [Aj,dt_ hi,ct_,Ai,gE_ hi,ob_,Ai,hg,ob_,Am om_,G1,Dt (by simpa using hi) (by unfold DV;rw [gE_ hi];rfl)]) (λn v _=>by
  rw [Eg];dsimp only;rw [Aj,df_ om_,cf_]) FF 0 _ om_ uF Ce.symm
 subst hv;try dsimp only at hl
 rw [n0] at hl;rw [hl];have:=Du (f:=DV c) (l:=List.replicate c.Signals.length false);rw [J8] at this;rw [this];exact ⟨_,rfl⟩
theorem AJ {c:Aa}:∀ {n z},Ov c n z=Eg c n z:=by
 intro n
 induction n with
 | zero=>intro z;rfl
 | succ n ih=>intro z;rw [Ov,Eg];simp only [ih]
theorem Eq {α:Type} {z:α} {n:Nat} (h:n<=1000):mks z (n:Int)=some (List.replicate n z):=by
 unfold mks;rw [if_pos om_,G1]
theorem CT {c:Aa} (hc:Rc c):PR FF c=some (Au c (ini c),0):=by
 have hb:=hc.rt.bd;have h1:=hb.a';have h2:=hb.i;have h3:=hb.s;obtain ⟨z,hz⟩:=Ma hb;unfold PR;rw [hc.ck,ob_,zf_,cf_,hb.a,Eq om_,ob_,Eq om_,ob_,Eq om_,ob_,Eq om_,ob_,Eq om_,ob_,hz,ob_];dsimp only;rw [show (⟨List.replicate (cA c) 0,List.replicate (cA c) false,List.replicate c.Inputs.length false,(List.range c.Signals.length).map (DV c),List.replicate c.Signals.length 0⟩:Ac)=ini c from rfl,CL hc.rt hc.fw (Tj hc.rt)];rfl
theorem CP {c:Aa} (hc:Rt c):NJ FF c=some (Au c (ini c)):=by
 have hb:=hc.bd;have h1:=hb.a';have h2:=hb.i;have h3:=hb.s;obtain ⟨z,hz⟩:=Ma hb;unfold NJ;rw [hb.a,Eq om_,ob_,Eq om_,ob_,Eq om_,ob_,Eq om_,ob_,Eq om_,ob_,AJ,hz,ob_];dsimp only;rw [show (⟨List.replicate (cA c) 0,List.replicate (cA c) false,List.replicate c.Inputs.length false,(List.range c.Signals.length).map (DV c),List.replicate c.Signals.length 0⟩:Ac)=ini c from rfl,Vp hc (Tj hc)];rfl
theorem EE {c:Aa} (hc:Rc c):match rst c 65 (Au c (ini c)) with
  | some t=>∃ l,m90 FF c=some (t,0,l)/\l.length<=200000/\Cs l (Xw c 65 (Au c (ini c)))
  | none=>m90 FF c=some (z0,21,[]):=by
 have h:=CS hc (Fx (Tj hc.rt));unfold m90;rw [CT hc,ob_,zf_,cf_];dsimp only;cases hs:rst c 65 (Au c (ini c)) with
 | none=>rw [hs] at h;rw [h];rfl
 | some t=>rw [hs] at h;obtain ⟨l,h,hl,hC⟩:=h;rw [h];exact ⟨l,rfl,hl,hC⟩
def bgs (c:Aa):L7->Nat->Ac->Option Ac
 | [],_,s=>some s
 | b :: l,i,s=>if b=true then (match rst c 65 { s with Inputs:=s.Inputs.set i true } with
   | some t=>bgs c l (i + 1) t
   | none=>none) else bgs c l (i + 1) s
theorem Kj {c:Aa} {held:L7} (hl:held.length<=1000) {e:Int} (he:e≠0) (s:Ac):∀ (n i:Nat),i<=held.length->held.length - i < n->∃ z,Ja FF c held n (e,(i:Int),s)=some (e,z,s)
 | 0,i,_,h=>by omega
 | n + 1,i,h1,h2=>by
  unfold Ja;dsimp only;by_cases hi:i < held.length
  ·rw [Aj,dt_ hi,ct_,Ai,gE_ hi,ob_,show (e == 0)=false by simpa using he,JC,cf_,ob_,Am om_];exact Kj hl he s n (i + 1) om_ om_
  ·rw [Aj,df_ hi,cf_];exact ⟨_,rfl⟩
theorem Tp {c:Aa} (hc:Rc c) {held:L7} (hhl:held.length=c.Inputs.length):∀ (l:L7) (i n:Nat) (s:Ac),held.drop i=l->l.length < n->Fit c s->Qt c s->(∀ j,i<=j->j < c.Inputs.length->s.Inputs[j]?=some false) ->
  match bgs c l i s with
  | some t=>(∃ z,Ja FF c held n ((0:Int),(i:Int),s)=some (0,z,t))/\(∃ z,Ck FF c held n (true,(i:Int),s)=some (true,z,t))/\Fit c t/\Qt c t
  | none=>(∃ z t,Ja FF c held n ((0:Int),(i:Int),s)=some (21,z,t))/\∃ z t,Ck FF c held n (true,(i:Int),s)=some (false,z,t)
 | [],i,0,s,_,h,_,_,_=>by simp at h
 | [],i,n + 1,s,hd,_,hf,hq,_=>by
  have hi:held.length<=i:=by simpa using hd
  unfold bgs Ja Ck;dsimp only;rw [Aj,df_ om_,cf_,JC,cf_];exact ⟨⟨_,rfl⟩,⟨_,rfl⟩,hf,hq⟩
 | b :: l,i,0,s,_,h,_,_,_=>by simp at h
 | b :: l,i,n + 1,s,hd,hn,hf,hq,hI=>by
  have hb:=hc.rt.bd;have h2:=hb.i;have hi:i < held.length:=by
   rcases H3 i held.length with h | h
   ·exact h
   ·rw [GT h] at hd;cases hd
  rw [GG hi] at hd;obtain ⟨hb1,hd1⟩:=List.cons.inj hd;have hx:held[i]?=some b:=by rw [gE_ hi,hb1]
  have hin:=hI i (GS i) om_;unfold bgs Ja Ck;dsimp only;rw [Aj,dt_ hi,ct_,HY,ct_,Ai,hx,ob_,ob_,show ((0:Int) == 0)=true by rfl,HY,Am om_];simp only [JM] at hn;cases b with
  | false=>
   rw [if_neg smp_,cf_,cf_,ob_,ob_];exact Tp hc hhl l (i + 1) n s hd1 om_ hf hq (λj h1 h2=>hI j om_ h2)
  | true=>
   have ha:act s ⟨2,(i:Int),true⟩=some { s with Inputs:=s.Inputs.set i true }:=by
    unfold act;dsimp only;rw [if_neg om_,if_neg om_,Ai,hin];rfl
   have haf:aft c s ⟨2,(i:Int),true⟩=match rst c 65 { s with Inputs:=s.Inputs.set i true } with | none=>(z0,21) | some t=>(t,0):=by
    unfold aft;rw [if_neg smp_,ha]
    all_goals (dsimp only; cases rst c 65 { s with Inputs:=s.Inputs.set i true } <;> rfl)
   obtain ⟨l1,e1⟩:=Ye (x:=⟨2,(i:Int),true⟩) hc hf hq;obtain ⟨l2,e2⟩:=Yk (x:=⟨2,(i:Int),true⟩) hc.rt hf;rw [if_pos rfl,ct_,ct_,e1,e2,ob_,ob_,ob_,ob_];rw [haf];cases hs:rst c 65 { s with Inputs:=s.Inputs.set i true } with
   | none=>
    dsimp only;refine ⟨?_,?_⟩
    ·obtain ⟨z,hz⟩:=Kj (c:=c) (held:=held) om_ (show (21:Int)≠0 by omega) z0 n (i + 1) om_ (by
      have:held.length - (i + 1)=l.length:=by rw [← hd1,LF]
      omega)
     exact ⟨_,_,hz⟩
    ·rw [show ((21:Int) == 0)=false by rfl];cases n with
     | zero=>omega
     | succ n=>
      unfold Ck;dsimp only;rw [K8,cf_];exact ⟨_,_,rfl⟩
   | some t=>
    dsimp only;rw [show ((0:Int) == 0)=true by rfl];obtain ⟨f1,f2,f3⟩:=Xv (Tt hf ha) hs;refine Tp hc hhl l (i + 1) n t hd1 om_ f1 f3 (λj h1 h2=>?_);rw [f2];dsimp only;rw [HT om_];exact hI j om_ h2
def Gl (c:Aa) (held:L7):Ac×Int:=match rst c 65 (Au c (ini c)) with
 | none=>(z0,21)
 | some s=>match bgs c held 0 s with
  | none=>(z0,21)
  | some t=>(t,0)
theorem Tq {c:Aa} (hw:Fw c) (hs16:c.Signals.length<=16\/64 < c.Signals.length) (held:L7) :
  (∃ e,e≠0/\m57 FF c held=some (z0,e)/\m64 FF c held=some (z0,e)/\(Rc c->held.length≠c.Inputs.length))\/(Rc c/\held.length=c.Inputs.length/\m57 FF c held=some (Gl c held)/\m64 FF c held=some (Gl c held)/\((Gl c held).2=0->Fit c (Gl c held).1/\Qt c (Gl c held).1)):=by
 obtain ⟨e,h1,h2,h3⟩:=E6 hw hs16;unfold m57 m64 N3;rw [h1,h2,ob_,ob_];by_cases he:e=0
 ·subst he;have hc:Rc c:=⟨h3 rfl,hw,h1,h2⟩;have hb:=hc.rt.bd;have hi:=hb.i;rw [zf_,cf_,cf_];by_cases hl:held.length=c.Inputs.length
  ·right;refine ⟨hc,hl,?_⟩;rw [show ((held.length:Int) != (c.Inputs.length:Int))=false by simp;omega,cf_,cf_,ob_,zf_,cf_];unfold NK Gl;have hf:=Fx (Tj hc.rt);have h71:=EE hc;have h156:=Vz hc.rt hf;rw [CP hc.rt,ob_];cases hr:rst c 65 (Au c (ini c)) with
   | none=>
    rw [hr] at h71 h156;obtain ⟨a,l,h156⟩:=h156;rw [h71,h156,ob_,ob_];dsimp only;obtain ⟨z,hz⟩:=Kj (c:=c) (held:=held) om_ (show (21:Int)≠0 by omega) z0 FF 0 om_ uF;rw [n0] at hz;rw [hz,ob_];have:Ck FF c held FF (false,(0:Int),a)=some (false,0,a):=by
     show Ck FF c held (99999 + 1) _=_;unfold Ck;dsimp only;rw [K8,cf_]
    rw [this];exact ⟨rfl,rfl,λh=>by cases h⟩
   | some s=>
    rw [hr] at h71 h156;obtain ⟨l1,h71,_⟩:=h71;obtain ⟨l2,h156,_⟩:=h156;obtain ⟨f1,f2,f3⟩:=Xv hf hr;rw [h71,h156,ob_,ob_];dsimp only;have hbs:=Tp hc hl held 0 FF s smp_ uF f1 f3 (λj _ hj=>by
     rw [f2];show (List.replicate c.Inputs.length false)[j]?=some false;rw [J2,if_pos hj])
    rw [n0] at hbs;cases hg:bgs c held 0 s with
    | none=>
     rw [hg] at hbs;obtain ⟨⟨z,t,a1⟩,⟨z',t',a2⟩⟩:=hbs;rw [a1,a2];exact ⟨rfl,rfl,λh=>by cases h⟩
    | some t=>
     rw [hg] at hbs;obtain ⟨⟨z,a1⟩,⟨z',a2⟩,a3,a4⟩:=hbs;rw [a1,a2];exact ⟨rfl,rfl,λ_=>⟨a3,a4⟩⟩
  ·left;rw [show ((held.length:Int) != (c.Inputs.length:Int))=true by simp;omega,ct_,ct_];exact ⟨8,by omega,rfl,rfl,λ_=>hl⟩
 ·left;rw [show (e != 0)=true by simpa using he,ct_,ct_];refine ⟨e,he,rfl,?_,λhc=>absurd (Option.some.inj (h1.symm.trans hc.ck)) he⟩;rw [ob_,show (e != 0)=true by simpa using he,ct_]
end Go.Pn
namespace Go.Pn
open Go
theorem forG {S σ R:Type} {L:Nat->S->R} {mk:Nat->σ->S} {N:Nat} {I:Nat->σ->Prop} {E:σ->R}
  (h:∀ (n i:Nat) s,i < N->I i s->∃ s',I (i + 1) s'/\L (n + 1) (mk i s)=L n (mk (i + 1) s')) (h':∀ (n:Nat) s,I N s->L (n + 1) (mk N s)=E s) :
  ∀ (n i:Nat) s,i<=N->N - i < n->I i s->∃ s',I N s'/\L n (mk i s)=E s'
 | 0,i,_,_,h,_=>by omega
 | n + 1,i,s,h1,h2,hI=>by
  by_cases hi:i < N
  ·obtain ⟨s',h3,h4⟩:=h n i s hi hI;rw [h4];exact forG h h' n (i + 1) s' om_ om_ h3
  ·obtain rfl:i=N:=by omega
   exact ⟨s,hI,h' n s hI⟩
theorem Lx {x:Ae} {l:List Ae} (h:l.length<=100000):Ef x (l,0)=some (true,(l ++ [x],0)):=by
 unfold Ef;dsimp only;rw [Ar so_];rfl
theorem CH {s:Ac} (h:Smst s 1000):Q5 FF s=some (Jx s):=by
 have h1:=h.e;have h2:=h.t;unfold Q5 Q4;obtain ⟨v,hv,hl⟩:=forG (L:=Ho Ef s) (mk:=λi (v:List Ae)=>((i:Int),(v,0))) (N:=s.Ends.length) (I:=λi v=>v=(List.range i).filterMap (Tu s)) (E:=λv=>some (.brk ((s.Ends.length:Int),(v,0)))) (λn i v hi hI=>by
  subst hI;refine ⟨_,rfl,?_⟩;have hle:=Bx (g:=Tu s) (n:=i);have hg:s.Ends.getD i 0=s.Ends[i]:=by rw [GU,gE_ hi];rfl
  rw [Ho];dsimp only;rw [Aj,dt_ hi,ct_,Ai,gE_ hi,ob_,Am om_,Gf];have hp:Tu s i=if s.Ends[i]=1\/s.Ends[i]=3 then some ⟨0,(i:Int),false⟩ else none:=by unfold Tu;rw [hg]
  rw [hp];by_cases a1:s.Ends[i]=1\/s.Ends[i]=3
  ·rw [show ((s.Ends[i] == 1) || (s.Ends[i] == 3))=true by simpa using a1,if_pos a1,ct_,Lx om_];rfl
  ·rw [show ((s.Ends[i] == 1) || (s.Ends[i] == 3))=false by simpa using a1,if_neg a1,cf_,cf_,HL]) (λn v _=>by
  rw [Ho];dsimp only;rw [Aj,df_ om_,cf_]) FF 0 [] om_ uF rfl
 subst hv;try dsimp only at hl
 rw [n0] at hl;rw [hl,ob_];have hle1:=Bx (g:=Tu s) (n:=s.Ends.length);obtain ⟨v,hv,hl⟩:=forG (L:=Hn Ef s) (mk:=λi (v:List Ae)=>((i:Int),(v,0))) (N:=s.Timers.length) (I:=λi v=>v=(List.range s.Ends.length).filterMap (Tu s) ++ (List.range i).filterMap (AT s)) (E:=λv=>some (.brk ((s.Timers.length:Int),(v,0)))) (λn i v hi hI=>by
  subst hI;refine ⟨_,rfl,?_⟩;have hle:=Bx (g:=AT s) (n:=i);have hg:s.Timers.getD i 0=s.Timers[i]:=by rw [GU,gE_ hi];rfl
  rw [Hn];dsimp only;rw [Aj,dt_ hi,ct_,Ai,gE_ hi,ob_,Am om_,Gf];have hp:AT s i=if s.Timers[i]=1 then some ⟨1,(i:Int),false⟩ else none:=by unfold AT;rw [hg]
  rw [hp];by_cases a1:s.Timers[i]=1
  ·rw [show (s.Timers[i] == 1)=true by simpa using a1,if_pos a1,ct_,Lx (by rw [GC];omega),← G2];rfl
  ·rw [show (s.Timers[i] == 1)=false by simpa using a1,if_neg a1,cf_,cf_,HL]) (λn v _=>by
  rw [Hn];dsimp only;rw [Aj,df_ om_,cf_]) FF 0 ((List.range s.Ends.length).filterMap (Tu s)) om_ uF smp_
 subst hv;try dsimp only at hl
 rw [n0] at hl;dsimp only;rw [hl];rfl
theorem EC {c:Aa} {s:Ac} (hc:Rc c) (hf:Fit c s) (hq:Qt c s):m99 FF c s=some (0,Jx s):=by
 unfold m99 Q3 Q6;rw [Wb hc,(Ya hc.rt.bd).2 ⟨hf,hq⟩,ob_,zf_,cf_,ob_,CH (hf.sm hc.rt.bd)];rfl
def nb (l:L6):List UInt8:=l.flatMap λn=>[UInt8.ofNat (48 + n.toNat),32]
def fb (l:L7):List UInt8:=l.map λv=>if v=true then 116 else 102
theorem DO (a b:MA):(a ++ b).data.toList=a.data.toList ++ b.data.toList:=by
 rw [ByteArray.data_append,K3]
theorem ba_push (a:MA) (b:UInt8):(a.push b).data.toList=a.data.toList ++ [b]:=by
 rw [ByteArray.data_push,Array.toList_push]
theorem m94_tab:((List.range 10).all λn=>decide (m94 0 (n:Int)=some (⟨#[UInt8.ofNat (48 + n)]⟩:MA)))=true:=by kernel_rfl
theorem ED {n:Int} (h0:0<=n) (h:n < 10):m94 FF n=some (⟨#[UInt8.ofNat (48 + n.toNat)]⟩:MA):=by
 have:=of_decide_eq_true (GJ.1 m94_tab n.toNat (GX.2 om_));rw [show ((n.toNat:Nat):Int)=n by omega] at this;exact this
theorem nb_len {l:L6}:(nb l).length=2 * l.length:=by
 induction l with
 | nil=>rfl
 | cons a l ih=>unfold nb at ih ⊢;rw [KQ,GC,ih];simp;omega
theorem Yd {l:L6} (hl:l.length<=1000) (h:∀ a∈l,0<=a/\a < 10):∃ r,m92 FF l=some r/\r.data.toList=nb l:=by
 unfold m92;obtain ⟨v,hv,hh⟩:=Qr (L:=Qy FF l) (mk:=λi (v:MA)=>((i:Int),v)) (N:=l.length) (I:=λi v=>v.data.toList=nb (l.take i)) (λn i v hi hI=>by
  have hb:=h l[i] (GF hi);have hsz:v.size=2 * i:=by rw [Bb,hI,nb_len,H6];omega
  have hxs:(⟨#[UInt8.ofNat (48 + (l[i]).toNat)]⟩:MA).size=1:=rfl;rw [Qy];dsimp only;rw [Aj,dt_ hi,ct_,Ai,gE_ hi,ob_,ED hb.1 hb.2,ob_];unfold m93 m95;rw [if_pos om_,ob_];have hs2:(v ++ (⟨#[UInt8.ofNat (48 + (l[i]).toNat)]⟩:MA)).size=2 * i + 1:=by
   rw [Bb,DO,GC,← Bb,hsz];rfl
  rw [if_pos om_,ob_,Am om_];refine ⟨_,?_,rfl⟩;rw [ba_push,DO,hI,JY,gE_ hi];unfold nb;rw [List.flatMap_append];simp) (λn v _=>by
  rw [Qy];dsimp only;rw [Aj,df_ om_,cf_]) FF 0 ByteArray.empty om_ uF rfl
 try dsimp only at hh
 rw [n0] at hh;rw [hh];rw [HG om_] at hv;exact ⟨v,rfl,hv⟩
theorem So {l:L7} (hl:l.length<=1000):∃ r,m97 FF l=some r/\r.data.toList=fb l:=by
 unfold m97;obtain ⟨v,hv,hh⟩:=Qr (L:=Qx FF l) (mk:=λi (v:MA)=>((i:Int),v)) (N:=l.length) (I:=λi v=>v.data.toList=fb (l.take i)) (λn i v hi hI=>by
  have hsz:v.size=i:=by rw [Bb,hI];unfold fb;rw [JJ,H6];omega
  have key:∃ r:MA,((m98 FF l[i]).bind λx5=>ssl x5 0 (1:Int))=some r/\r.data.toList=[if l[i]=true then 116 else 102]:=by
   cases l[i]
   ·exact ⟨⟨#[102]⟩,by kernel_rfl,rfl⟩
   ·exact ⟨⟨#[116]⟩,by kernel_rfl,rfl⟩
  obtain ⟨r,hr,hr2⟩:=key;obtain ⟨x5,h5,h6⟩:=H0.1 hr;have hrs:r.size=1:=by rw [Bb,hr2];rfl
  rw [Qx];dsimp only;rw [Aj,dt_ hi,ct_,Ai,gE_ hi,ob_,h5,ob_,h6,ob_];unfold m93;rw [if_pos om_,ob_,Am om_];refine ⟨_,?_,rfl⟩;rw [DO,hI,hr2,JY,gE_ hi];unfold fb;rw [LN];simp) (λn v _=>by
  rw [Qx];dsimp only;rw [Aj,df_ om_,cf_]) FF 0 ByteArray.empty om_ uF rfl
 try dsimp only at hh
 rw [n0] at hh;rw [hh];rw [HG om_] at hv;exact ⟨v,rfl,hv⟩
theorem BE:∀ {l l':L6},(∀ a∈l,0<=a/\a < 10)->(∀ a∈l',0<=a/\a < 10)->nb l=nb l'->l=l'
 | [],[],_,_,_=>rfl
 | [],b :: l',_,_,h=>by unfold nb at h;simp at h
 | a :: l,[],_,_,h=>by unfold nb at h;simp at h
 | a :: l,b :: l',h1,h2,h=>by
  unfold nb at h;rw [KQ,KQ] at h;have h:=List.cons.inj h;have ha:=h1 a smp_;have hb:=h2 b smp_;have he:a=b:=by
   have:=congrArg UInt8.toNat h.1;rw [UInt8.toNat_ofNat',UInt8.toNat_ofNat'] at this;omega
  have ht:=(List.cons.inj h.2).2;rw [he,BE (λx hx=>h1 x (by simp [hx])) (λx hx=>h2 x (by simp [hx])) ht]
theorem Zl:∀ {l l':L7},fb l=fb l'->l=l'
 | [],[],_=>rfl
 | [],b :: l',h=>by unfold fb at h;simp at h
 | a :: l,[],h=>by unfold fb at h;simp at h
 | a :: l,b :: l',h=>by
  unfold fb at h;rw [GQ,GQ] at h;have h:=List.cons.inj h;have he:a=b:=by
   cases a <;> cases b <;> first | rfl | (have:=h.1; revert this; decide)
  rw [he,Zl h.2]
theorem Qd {a b:Key}:Bu a b=true↔a=b:=by
 obtain ⟨⟨⟨a1⟩⟩,⟨⟨a2⟩⟩,⟨⟨a3⟩⟩,⟨⟨a4⟩⟩,⟨⟨a5⟩⟩⟩:=a;obtain ⟨⟨⟨b1⟩⟩,⟨⟨b2⟩⟩,⟨⟨b3⟩⟩,⟨⟨b4⟩⟩,⟨⟨b5⟩⟩⟩:=b;simp [Bu]
theorem Mm {c:Aa} {s:Ac} (hb:Bd_ c) (h:Fit c s):∃ k,m58 FF s=some k/\k.ends.data.toList=nb s.Ends/\k.valves.data.toList=fb s.Valves/\k.inputs.data.toList=fb s.Inputs/\k.values.data.toList=fb s.Values/\k.timers.data.toList=nb s.Timers:=by
 have hs:=h.sm hb;obtain ⟨k1,e1,d1⟩:=Yd hs.e (λa ha=>by have:=h.ee a ha;omega);obtain ⟨k2,e2,d2⟩:=So hs.v;obtain ⟨k3,e3,d3⟩:=So hs.i;obtain ⟨k4,e4,d4⟩:=So hs.x;obtain ⟨k5,e5,d5⟩:=Yd hs.t (λa ha=>by have:=h.tt a ha;omega);unfold m58;rw [e1,e2,e3,e4,e5];exact ⟨_,rfl,d1,d2,d3,d4,d5⟩
theorem key_inj {c:Aa} {s t:Ac} (hb:Bd_ c) (hs:Fit c s) (ht:Fit c t) {k:Key} (h1:m58 FF s=some k) (h2:m58 FF t=some k):s=t:=by
 obtain ⟨a,ha,a1,a2,a3,a4,a5⟩:=Mm hb hs;obtain ⟨b,hb',b1,b2,b3,b4,b5⟩:=Mm hb ht;rw [h1] at ha;rw [h2] at hb';obtain rfl:=Option.some.inj ha;obtain rfl:=Option.some.inj hb';have e1:=BE (λa ha=>by have:=hs.ee a ha;omega) (λa ha=>by have:=ht.ee a ha;omega) (a1.symm.trans b1);have e5:=BE (λa ha=>by have:=hs.tt a ha;omega) (λa ha=>by have:=ht.tt a ha;omega) (a5.symm.trans b5);have e2:=Zl (a2.symm.trans b2);have e3:=Zl (a3.symm.trans b3);have e4:=Zl (a4.symm.trans b4);cases s;cases t
 simp_all
theorem EA {κ ν:Type} [DecidableEq κ] {eqb:κ->κ->Bool} (he:∀ a b,eqb a b=true↔a=b) {m:List (κ×ν)} {k j:κ} {y:ν}:mat eqb (Ep eqb m k y) j=if eqb j k=true then some y else mat eqb m j:=by
 induction m with
 | nil=>
  show mat eqb [(k,y)] j=_;rw [Bm]
 | cons p m ih=>
  obtain ⟨k',z⟩:=p;rw [Mz,Bm];by_cases h:eqb k k'=true
  ·rw [if_pos h,Bm,← (he _ _).1 h];by_cases h2:eqb j k=true
   ·rw [if_pos h2,if_pos h2]
   ·rw [if_neg h2,if_neg h2,if_neg h2]
  ·rw [if_neg h,Bm,ih];by_cases h2:eqb j k'=true
   ·have h3:¬ eqb j k=true:=λe=>h (by rw [← (he _ _).1 e];exact h2);rw [if_pos h2,if_neg h3,if_pos h2]
   ·rw [if_neg h2,if_neg h2]
theorem AC {m:List (Key×Int)} {k j:Key} {y:Int}:mat Bu (Ep Bu m k y) j=if Bu j k=true then some y else mat Bu m j:=by
 classical
 exact EA (λa b=>Qd)
def Kn (c:Aa) (S:List Ac) (m:List (Key×Int)):Prop:=∀ s,Fit c s->∀ k,m58 FF s=some k->mat Bu m k=(S.findIdx? λx=>sst s x).map λ(j:Nat)=>(j:Int)
theorem Kn.nil (c:Aa):Kn c [] []:=λs _ k _=>rfl
theorem Kn.put {c:Aa} {S:List Ac} {m:List (Key×Int)} {t:Ac} {k:Key} (hb:Bd_ c) (h:Kn c S m) (ht:Fit c t) (hk:m58 FF t=some k) (hn:S.findIdx? (λx=>sst t x)=none):Kn c (S ++ [t]) (Ep Bu m k (S.length:Int)):=by
 intro s hs j hj;rw [AC,List.findIdx?_append];by_cases e:s=t
 ·subst e;rw [hk] at hj;obtain rfl:=Option.some.inj hj;rw [if_pos (Qd.2 rfl),hn];simp [Xn]
 ·have hne:¬ Bu j k=true:=λe2=>by
   have:=Qd.1 e2;subst this;exact e (key_inj hb hs ht hj hk)
  have hst:sst s t=false:=by
   cases hx:sst s t with
   | false=>rfl
   | true=>exact absurd (Gw.1 hx) e
  rw [if_neg hne,h s hs j hj];cases S.findIdx? (λx=>sst s x) with
  | some q=>rfl
  | none=>simp [hst]
def Jw (c:Aa) (most:Nat) (s:Ac):List Ae->List Ac->L6->Int ⊕ (List Ac×L6)
 | [],S,mv=>.inr (S,mv)
 | x :: l,S,mv=>if (aft c s x).2=0 then (if plc S (aft c s x).1 < 0 then (if S.length=most then .inl 12 else Jw c most s l (S ++ [(aft c s x).1]) (mv ++ [(S.length:Int)])) else Jw c most s l S (mv ++ [plc S (aft c s x).1])) else .inl (aft c s x).2
def Ry (c:Aa) (most:Nat):Nat->Nat->List Ac->List L6->Int ⊕ Space
 | 0,_,_,_=>.inl 99
 | n + 1,i,S,M=>match S[i]? with
  | none=>.inr ⟨S,M⟩
  | some s=>match Jw c most s (Jx s) S [] with
   | .inl e=>.inl e
   | .inr r=>Ry c most n (i + 1) r.1 (M ++ [r.2])
def Al (c:Aa) (S:List Ac):Prop:=∀ s∈S,Fit c s/\Qt c s
theorem DR {c:Aa} {s:Ac} {x:Ae} (hf:Fit c s) (h:(aft c s x).2=0):Fit c (aft c s x).1/\Qt c (aft c s x).1:=by
 unfold aft at h ⊢;by_cases hk:x.Kind < 0\/3<=x.Kind
 ·rw [if_pos hk] at h;cases h
 ·rw [if_neg hk] at h ⊢;cases ha:act s x with
  | none=>rw [ha] at h;cases h
  | some s'=>
   rw [ha] at h;dsimp only at h ⊢;cases ht:rst c 65 s' with
   | none=>rw [ht] at h;cases h
   | some t=>
    have:=Xv (Tt hf ha) ht;exact ⟨this.1,this.2.2⟩
theorem Jy {c:Aa} {most:Nat} {s:Ac} (hf:Fit c s):∀ (l:List Ae) (S:List Ac) (mv:L6) {r:List Ac×L6},Al c S->S.length<=most->Jw c most s l S mv=.inr r ->
  Al c r.1/\r.1.length<=most/\r.2.length=mv.length + l.length/\∃ X,r.1=S ++ X
 | [],S,mv,r,h1,h2,h=>by
  unfold Jw at h;obtain rfl:=Sum.inr.inj h;exact ⟨h1,h2,rfl,[],by simp⟩
 | x :: l,S,mv,r,h1,h2,h=>by
  unfold Jw at h;split at h
  ·rename_i h0;split at h
   ·split at h
    ·cases h
    ·obtain ⟨a1,a2,a3,X,a4⟩:=Jy hf l _ _ (λt ht=>by
      rcases GN.1 ht with ht | ht
      ·exact h1 t ht
      ·obtain rfl:t=_:=by simpa using ht
       exact DR hf h0) so_ h
     refine ⟨a1,a2,by rw [a3];simp;omega,(aft c s x).1 :: X,by rw [a4];simp⟩
   ·obtain ⟨a1,a2,a3,X,a4⟩:=Jy hf l _ _ h1 h2 h;exact ⟨a1,a2,by rw [a3];simp;omega,X,a4⟩
  ·cases h
theorem Uh {S:List Ac} {t:Ac} (h:¬ plc S t < 0):∃ j,j < S.length/\plc S t=(j:Int)/\S.findIdx? (λx=>sst t x)=some j:=by
 unfold plc at h ⊢;cases hf:S.findIdx? (λx=>sst t x) with
 | none=>rw [hf] at h;simp at h
 | some j=>exact ⟨j,(G7.1 hf).1,rfl,rfl⟩
theorem BB {S:List Ac} {t:Ac} (h:plc S t < 0):S.findIdx? (λx=>sst t x)=none:=by
 unfold plc at h;cases hf:S.findIdx? (λx=>sst t x) with
 | none=>rfl
 | some j=>rw [hf] at h;simp at h;omega
abbrev zsp:Space:=⟨[],[]⟩
theorem Hd {c:Aa} (hc:Rt c) {most:Nat} (hmo:most<=16384) {s:Ac} (hf:Fit c s) (i0:Nat) (z6:Int×List Ac×List L6) (hz:z6.1=i0) (x9:Ac) (l:List Ae) (hl:l.length<=2000) :
  ∀ (k n j:Nat) (S:List Ac) (mv:L6),j + k=l.length->k < n->Al c S->S.length<=most->S[i0]?=some s->mv.length<=j ->
   match Jw c most s (l.drop j) S mv with
   | .inl e=>Lq FF c (most:Int) z6 x9 l n ((j:Int),S,mv)=some (.ret (zsp,e))
   | .inr r=>Lq FF c (most:Int) z6 x9 l n ((j:Int),S,mv)=some (.brk ((l.length:Int),r.1,r.2))
 | _,0,_,_,_,_,h,_,_,_,_=>by omega
 | 0,n + 1,j,S,mv,h1,_,_,_,_,_=>by
  obtain rfl:j=l.length:=by omega
  rw [HP];unfold Jw Lq;dsimp only;rw [Aj,df_ om_,cf_]
 | k + 1,n + 1,j,S,mv,h1,h2,hA,hS,hi,hm=>by
  have hb:=hc.bd;have hj:j < l.length:=by omega
  rw [GG hj];unfold Jw Lq;dsimp only;obtain ⟨q,e1⟩:=Yk (x:=l[j]) hc hf;rw [Aj,dt_ hj,ct_,hz,Ai,hi,ob_,Ai,gE_ hj,ob_,e1,ob_];dsimp only;by_cases h0:(aft c s l[j]).2=0
  ·have hfa:=DR hf h0;rw [if_pos h0,h0,zf_,cf_,EN (n:=1000) (λx hx=>(hA x hx).1.sm hb) uF om_ uF om_,ob_,Am om_];by_cases hp:plc S (aft c s l[j]).1 < 0
   ·rw [if_pos hp,dt_ hp,ct_];by_cases hM:S.length=most
    ·rw [if_pos hM,show ((S.length:Int) == (most:Int))=true by rw [Eo];simpa using hM,ct_]
    ·rw [if_neg hM,show ((S.length:Int) == (most:Int))=false by rw [Eo];simpa using hM,cf_,Ar so_,ob_,Ar so_,ob_];exact Hd hc hmo hf i0 z6 hz x9 l hl k n (j + 1) _ _ om_ om_ (λt ht=>by
      rcases GN.1 ht with ht | ht
      ·exact hA t ht
      ·obtain rfl:t=_:=by simpa using ht
       exact hfa) so_ (by rw [GP (GE.1 hi).1];exact hi) so_
   ·rw [if_neg hp,df_ hp,cf_,Ar so_,ob_];exact Hd hc hmo hf i0 z6 hz x9 l hl k n (j + 1) _ _ om_ om_ hA hS hi so_
  ·rw [if_neg h0,show ((aft c s l[j]).2 != 0)=true by simpa using h0,ct_]
theorem Dy {c:Aa} (hc:Rt c) {most:Nat} (hmo:most<=16384):∀ (n i:Nat) (S:List Ac) (M:List L6),Al c S->S.length<=most->i<=S.length->most < n + i->M.length=i ->
  match Ry c most n i S M with
  | .inl e=>Ri FF c (most:Int) n ((i:Int),S,M)=some (.ret (zsp,e))
  | .inr sp=>∃ z,Ri FF c (most:Int) n ((i:Int),S,M)=some (.brk (z,sp.States,sp.Moves))
 | 0,i,S,M,_,h1,h2,h3,_=>by omega
 | n + 1,i,S,M,hA,h1,h2,h3,hM=>by
  have hb:=hc.bd;unfold Ry Ri;dsimp only;by_cases hi:i < S.length
  ·have hs:S[i]?=some S[i]:=gE_ hi;obtain ⟨hf,hq⟩:=hA S[i] (GF hi);have hpl:=Mj (hf.sm hb);rw [hs,Aj,dt_ hi,ct_,Ai,hs,ob_,Yl (hf.sm hb),ob_];have h:=Hd hc hmo hf i ((i:Int),S,M) rfl S[i] (Jx S[i]) hpl (Jx S[i]).length FF 0 S [] om_ uF hA h1 hs smp_;rw [n0,GL] at h;dsimp only;cases hx:Jw c most S[i] (Jx S[i]) S [] with
   | inl e=>rw [hx] at h;rw [h];rfl
   | inr r=>
    rw [hx] at h;obtain ⟨a1,a2,a3,X,a4⟩:=Jy hf _ _ _ hA h1 hx;rw [h,ob_];dsimp only;rw [Ar so_,ob_,Am om_];exact Dy hc hmo n (i + 1) r.1 _ a1 a2 (by rw [a4];simp;omega) om_ (by simp [hM])
  ·rw [HE om_,Aj,df_ hi,cf_];exact ⟨_,rfl⟩
theorem AE {c:Aa} (hb:Bd_ c) {t:Ac} (ht:Fit c t) {S:List Ac} {m:List (Key×Int)} {mv:L6} (hS:S.length<=16384) (hmv:mv.length<=10000) (hK:Kn c S m) (v3:List L6) :
  if plc S t < 0 then (if S.length=16384 then Xa FF t m S v3 mv=some (12,m,S,mv) else ∃ m',Xa FF t m S v3 mv=some (0,m',S ++ [t],mv ++ [(S.length:Int)])/\Kn c (S ++ [t]) m') else Xa FF t m S v3 mv=some (0,m,S,mv ++ [plc S t]):=by
 obtain ⟨k,hk,_⟩:=Mm hb ht;have hm:=hK t ht k hk;unfold Xa;rw [hk,ob_,hm];by_cases hp:plc S t < 0
 ·have hn:=BB hp;rw [if_pos hp,hn];simp only [H4,Option.isSome_none,JB,ct_];by_cases hM:S.length=16384
  ·rw [if_pos hM,show ((S.length:Int) == 16384)=true by simp;omega,ct_]
  ·rw [if_neg hM,show ((S.length:Int) == 16384)=false by simp;omega,cf_,Ar so_,ob_,Ar so_,ob_];exact ⟨_,rfl,hK.put hb ht hk hn⟩
 ·obtain ⟨j,hj,hpj,hfj⟩:=Uh hp;rw [if_neg hp,hfj];simp only [GZ,Option.isSome_some,HS,cf_,KB];rw [Ar so_,ob_,hpj]
theorem Dw {c:Aa} (hc:Rc c) {s:Ac} (hf:Fit c s) (hq:Qt c s) (v4:List L6) (x1:Int×List Ae) (hl:x1.2.length<=2000) :
  ∀ (k n j:Nat) (S:List Ac) (mv:L6) (m:List (Key×Int)),j + k=x1.2.length->k < n->Al c S->S.length<=16384->mv.length<=j->Kn c S m ->
   match Jw c 16384 s (x1.2.drop j) S mv with
   | .inl e=>∃ q,Dx FF c s v4 x1 n ((j:Int),m,S,mv)=some (.ret (e,q))/\e≠0
   | .inr r=>∃ z m',Dx FF c s v4 x1 n ((j:Int),m,S,mv)=some (.brk (z,m',r.1,r.2))/\Kn c r.1 m'
 | _,0,_,_,_,_,_,h,_,_,_,_=>by omega
 | 0,n + 1,j,S,mv,m,h1,_,_,_,_,hK=>by
  obtain rfl:j=x1.2.length:=by omega
  rw [HP];unfold Jw Dx;dsimp only;rw [Aj,df_ om_,cf_];exact ⟨_,m,rfl,hK⟩
 | k + 1,n + 1,j,S,mv,m,h1,h2,hA,hS,hm,hK=>by
  have hb:=hc.rt.bd;have hj:j < x1.2.length:=by omega
  rw [GG hj];unfold Jw Dx;dsimp only;obtain ⟨q,e1⟩:=Ye (x:=x1.2[j]) hc hf hq;rw [Aj,dt_ hj,ct_,Ai,gE_ hj,ob_,e1,ob_];dsimp only;by_cases h0:(aft c s x1.2[j]).2=0
  ·have hfa:=DR hf h0;rw [if_pos h0,h0,zf_,cf_];have h90:=AE hb hfa.1 hS (mv:=mv) om_ hK v4;by_cases hp:plc S (aft c s x1.2[j]).1 < 0
   ·rw [if_pos hp] at h90 ⊢;by_cases hM:S.length=16384
    ·rw [if_pos hM] at h90 ⊢;rw [h90];exact ⟨_,rfl,by omega⟩
    ·rw [if_neg hM] at h90 ⊢;obtain ⟨m',h90,hK'⟩:=h90;rw [h90,ob_];dsimp only;rw [zf_,cf_,Am om_];exact Dw hc hf hq v4 x1 hl k n (j + 1) _ _ m' om_ om_ (λt ht=>by
      rcases GN.1 ht with ht | ht
      ·exact hA t ht
      ·obtain rfl:t=_:=by simpa using ht
       exact hfa) so_ so_ hK'
   ·rw [if_neg hp] at h90 ⊢;rw [h90,ob_];dsimp only;rw [zf_,cf_,Am om_];exact Dw hc hf hq v4 x1 hl k n (j + 1) _ _ m om_ om_ hA hS so_ hK
  ·rw [if_neg h0,show ((aft c s x1.2[j]).2 != 0)=true by simpa using h0,ct_];exact ⟨_,rfl,h0⟩
theorem Nv {c:Aa} (hc:Rc c):∀ (n i:Nat) (S:List Ac) (M:List L6) (m:List (Key×Int)),Al c S->S.length<=16384->i<=S.length->16384 < n + i->M.length=i->Kn c S m ->
  match Ry c 16384 n i S M with
  | .inl e=>Rj FF c n ((i:Int),S,M,m)=some (.ret (zsp,e))
  | .inr sp=>∃ z m',Rj FF c n ((i:Int),S,M,m)=some (.brk (z,sp.States,sp.Moves,m'))
 | 0,i,S,M,m,_,h1,h2,h3,_,_=>by omega
 | n + 1,i,S,M,m,hA,h1,h2,h3,hM,hK=>by
  have hb:=hc.rt.bd;unfold Ry Rj;dsimp only;by_cases hi:i < S.length
  ·have hs:S[i]?=some S[i]:=gE_ hi;obtain ⟨hf,hq⟩:=hA S[i] (GF hi);have hpl:=Mj (hf.sm hb);have h:=Dw hc hf hq M (0,Jx S[i]) hpl (Jx S[i]).length FF 0 S [] m (by dsimp only;omega) uF hA h1 smp_ hK;rw [n0,GL] at h;rw [hs,Aj,dt_ hi,ct_,Ai,hs,ob_];unfold EP;rw [EC hc hf hq,ob_];dsimp only at h ⊢;rw [zf_,cf_];cases hx:Jw c 16384 S[i] (Jx S[i]) S [] with
   | inl e=>
    rw [hx] at h;obtain ⟨q,h,he⟩:=h;rw [h,ob_,ob_];dsimp only;rw [show (e != 0)=true by simpa using he,ct_]
   | inr r=>
    rw [hx] at h;obtain ⟨a1,a2,a3,X,a4⟩:=Jy hf _ _ _ hA h1 hx;obtain ⟨z,m',h,hK'⟩:=h;rw [h,ob_,ob_];dsimp only;rw [zf_,cf_,Ar so_,ob_,Am om_];exact Nv hc n (i + 1) r.1 _ m' a1 a2 (by rw [a4];simp;omega) om_ (by simp [hM]) hK'
  ·rw [HE om_,Aj,df_ hi,cf_];exact ⟨_,_,rfl⟩
theorem Mt {c:Aa} {s:Ac} (hf:Fit c s):∀ (l:List Ae) (S:List Ac) (mv:L6),S.length<=120->Jw c 120 s l S mv≠.inl 12->Jw c 16384 s l S mv=Jw c 120 s l S mv
 | [],S,mv,_,_=>rfl
 | x :: l,S,mv,h1,h=>by
  unfold Jw at h ⊢;by_cases h0:(aft c s x).2=0
  ·rw [if_pos h0] at h;rw [if_pos h0,if_pos h0];by_cases hp:plc S (aft c s x).1 < 0
   ·rw [if_pos hp] at h;rw [if_pos hp,if_pos hp];by_cases hM:S.length=120
    ·rw [if_pos hM] at h;exact absurd rfl h
    ·rw [if_neg hM] at h;rw [if_neg hM,if_neg om_];exact Mt hf l _ _ so_ h
   ·rw [if_neg hp] at h;rw [if_neg hp,if_neg hp];exact Mt hf l _ _ h1 h
  ·rw [if_neg h0,if_neg h0]
theorem Tx {c:Aa}:∀ (n i:Nat) (S:List Ac) (M:List L6),Al c S->S.length<=120->Ry c 120 n i S M≠.inl 12->Ry c 16384 n i S M=Ry c 120 n i S M
 | 0,_,_,_,_,_,_=>rfl
 | n + 1,i,S,M,hA,h1,h=>by
  unfold Ry at h ⊢;cases hs:S[i]? with
  | none=>rfl
  | some s=>
   rw [hs] at h;try dsimp only at h ⊢
   have hf:=(hA s (GM hs)).1;have hne:Jw c 120 s (Jx s) S []≠.inl 12:=λe=>by rw [e] at h;exact h rfl
   rw [Mt hf _ _ _ h1 hne];cases hx:Jw c 120 s (Jx s) S [] with
   | inl e=>rfl
   | inr r=>
    rw [hx] at h;obtain ⟨a1,a2,a3,X,a4⟩:=Jy hf _ _ _ hA h1 hx;exact Tx n (i + 1) r.1 _ a1 a2 h
theorem AU {c:Aa} {most:Nat}:∀ (n i:Nat) (S:List Ac) (M:List L6) {sp:Space},Al c S->S.length<=most->M.length=i->i<=S.length->(∀ l∈M,l.length<=2000)->Bd_ c->Ry c most n i S M=.inr sp ->
  Al c sp.States/\sp.States.length<=most/\sp.Moves.length=sp.States.length/\(∀ l∈sp.Moves,l.length<=2000)/\∃ X,sp.States=S ++ X
 | 0,_,_,_,_,_,_,_,_,_,_,h=>by cases h
 | n + 1,i,S,M,sp,hA,h1,hM,hi,hR,hb,h=>by
  unfold Ry at h;cases hs:S[i]? with
  | none=>
   rw [hs] at h;obtain rfl:=Sum.inr.inj h;have:=List.getElem?_eq_none_iff.1 hs;exact ⟨hA,h1,by show M.length=S.length;omega,hR,[],by simp⟩
  | some s=>
   rw [hs] at h;dsimp only at h;have hf:=(hA s (GM hs)).1;cases hx:Jw c most s (Jx s) S [] with
   | inl e=>rw [hx] at h;cases h
   | inr r=>
    rw [hx] at h;obtain ⟨a1,a2,a3,X,a4⟩:=Jy hf _ _ _ hA h1 hx;have hil:=(GE.1 hs).1;obtain ⟨b1,b2,b3,b4,Y,b5⟩:=AU n (i + 1) r.1 _ a1 a2 (by simp [hM]) (by rw [a4];simp;omega) (λl hl=>by
     rcases GN.1 hl with hl | hl
     ·exact hR l hl
     ·obtain rfl:l=_:=by simpa using hl
      rw [a3];have:=Mj (hf.sm hb);simp;omega) hb h
    exact ⟨b1,b2,b3,b4,X ++ Y,by rw [b5,a4];simp⟩
def E4 (c:Aa) (held:L7) (most:Nat):Int ⊕ Space:=Ry c most FF 0 [(Gl c held).1] []
theorem Sw (c:Aa) (held:L7):∃ b,m35 FF c held=some b/\(b=true->Fw c/\(c.Signals.length<=16\/64 < c.Signals.length)/\held.length<=200/\(Rc c->held.length=c.Inputs.length->(Gl c held).2=0->E4 c held 120≠.inl 12)):=by
 unfold m35;obtain ⟨b,hb,hfw⟩:=EO c;rw [hb,ob_];cases b with
 | false=>rw [nf_,KF,ct_];exact ⟨false,rfl,by simp⟩
 | true=>
  obtain ⟨hw,hs⟩:=hfw rfl;rw [nt_,HJ];by_cases hl:((held.length:Int) > 200)
  ·rw [dt_ hl,ct_];exact ⟨false,rfl,by simp⟩
  ·rw [df_ hl,cf_];unfold m36;rcases Tq hw hs held with ⟨e,he,h1,h2,h4⟩ | ⟨hc,hll,h1,h2,h3⟩
   ·rw [h2,ob_];dsimp only;rw [show (e != 0)=true by simpa using he,ct_,ob_];refine ⟨_,rfl,λ_=>⟨hw,hs,by omega,λhc hll h0=>?_⟩⟩;exact λ_=>h4 hc hll
   ·rw [h2,ob_];try dsimp only
    by_cases h0:(Gl c held).2=0
    ·obtain ⟨hf,hq⟩:=h3 h0;have hA:Al c [(Gl c held).1]:=λt ht=>by
      obtain rfl:t=_:=by simpa using ht
      exact ⟨hf,hq⟩
     have hx:=Dy hc.rt (most:=120) om_ FF 0 [(Gl c held).1] [] hA smp_ om_ uF rfl;rw [n0] at hx;rw [h0,zf_,cf_];rw [show Ry c 120 FF 0 [(Gl c held).1] []=E4 c held 120 from rfl] at hx;cases he:E4 c held 120 with
     | inl e=>
      rw [he] at hx;rw [show (120:Int)=((120:Nat):Int) from rfl,hx];refine ⟨_,rfl,λhb=>⟨hw,hs,by omega,λ_ _ _ h12=>?_⟩⟩;obtain rfl:=Sum.inl.inj h12;simp at hb
     | inr sp=>
      rw [he] at hx;obtain ⟨z,hx⟩:=hx;rw [show (120:Int)=((120:Nat):Int) from rfl,hx];exact ⟨_,rfl,λhb=>⟨hw,hs,by omega,λ_ _ _ h12=>by cases h12⟩⟩
    ·rw [show ((Gl c held).2 != 0)=true by simpa using h0,ct_];exact ⟨_,rfl,λ_=>⟨hw,hs,by omega,λ_ _ h=>absurd h h0⟩⟩
theorem E3 {c:Aa} {held:L7} (hb:m35 FF c held=some true):(∃ e,e≠0/\m30 FF c held=some (zsp,e)/\m44 FF c held=some (zsp,e)) \/
  (∃ sp,Rc c/\held.length=c.Inputs.length/\m30 FF c held=some (sp,0)/\m44 FF c held=some (sp,0)/\E4 c held 120=.inr sp/\(Gl c held).2=0/\Fit c (Gl c held).1/\Qt c (Gl c held).1)\/(Rc c/\held.length=c.Inputs.length/\(Gl c held).2=0/\∃ e,E4 c held 120=.inl e/\m30 FF c held=some (zsp,e)/\m44 FF c held=some (zsp,e)):=by
 obtain ⟨b,hb',h⟩:=Sw c held;rw [hb] at hb';obtain rfl:=Option.some.inj hb';obtain ⟨hw,hs,hl,hne⟩:=h rfl;unfold m30 m44 m36;rcases Tq hw hs held with ⟨e,he,h1,h2,h4⟩ | ⟨hc,hll,h1,h2,h3⟩
 ·left;rw [h1,h2,ob_,ob_];dsimp only;rw [show (e != 0)=true by simpa using he,ct_,ct_];exact ⟨e,he,rfl,rfl⟩
 ·rw [h1,h2,ob_,ob_];try dsimp only
  by_cases h0:(Gl c held).2=0
  ·right;obtain ⟨hf,hq⟩:=h3 h0;have hbd:=hc.rt.bd;have hA:Al c [(Gl c held).1]:=λt ht=>by
    obtain rfl:t=_:=by simpa using ht
    exact ⟨hf,hq⟩
   have hx:=Dy hc.rt (most:=16384) om_ FF 0 [(Gl c held).1] [] hA smp_ om_ uF rfl;obtain ⟨k,hk,_⟩:=Mm hbd hf;have hK:Kn c [(Gl c held).1] (Ep Bu [] k (0:Int)):=(Kn.nil c).put hbd hf hk rfl;have hy:=Nv hc FF 0 [(Gl c held).1] [] (Ep Bu [] k (0:Int)) hA smp_ om_ uF rfl hK;rw [n0] at hx hy;have hm:=Tx FF 0 [(Gl c held).1] [] hA smp_ (hne hc hll h0);rw [hm,show Ry c 120 FF 0 [(Gl c held).1] []=E4 c held 120 from rfl] at hx hy;rw [h0,zf_,cf_,cf_,hk,ob_,show (16384:Int)=((16384:Nat):Int) from rfl];cases he:E4 c held 120 with
   | inl e=>
    right;rw [he] at hx hy;dsimp only at hx hy;rw [hx,hy];exact ⟨hc,hll,rfl,e,rfl,rfl,rfl⟩
   | inr sp=>
    left;rw [he] at hx hy;obtain ⟨z,hx⟩:=hx;obtain ⟨z',m',hy⟩:=hy;rw [hx,hy];exact ⟨sp,hc,hll,rfl,rfl,rfl,rfl,hf,hq⟩
  ·left;rw [show ((Gl c held).2 != 0)=true by simpa using h0,ct_,ct_];exact ⟨_,h0,rfl,rfl⟩
end Go.Pn
namespace Go.Pn
open Go
structure Xr (c:Aa) (s:Ac) (l:List Ae) (S:List Ac) (R:List Ac) (Y:L6):Prop where
 app:∃ X,R=S ++ X
 len:Y.length=l.length
 ev:∀ (j:Nat) x,l[j]?=some x->(aft c s x).2=0/\∃ k:Nat,Y[j]?=some (k:Int)/\R[k]?=some (aft c s x).1
 new:∀ k,S.length<=k->k < R.length->(k:Int)∈Y
def Nd (S:List Ac):Prop:=∀ (i j:Nat) s,S[i]?=some s->S[j]?=some s->i=j
theorem Nd.put {S:List Ac} {t:Ac} (h:Nd S) (hn:S.findIdx? (λx=>sst t x)=none):Nd (S ++ [t]):=by
 rw [HK] at hn;have hno:∀ (i:Nat),S[i]?≠some t:=λi hi=>by
  have:=hn t (GM hi);rw [Xn] at this;cases this
 have hg:∀ (i:Nat) s,(S ++ [t])[i]?=some s->S[i]?=some s\/(i=S.length/\s=t):=λi s hs=>by
  rcases H3 i S.length with h1 | h1
  ·rw [GP h1] at hs;exact .inl hs
  ·rw [G0 h1] at hs;rcases KO h1 with h2 | h2
   ·subst h2;simp at hs;exact .inr ⟨rfl,hs.symm⟩
   ·rw [HE so_] at hs;cases hs
 intro i j s hi hj;rcases hg i s hi with h1 | ⟨h1,h2⟩ <;> rcases hg j s hj with h3 | ⟨h3,h4⟩
 ·exact h i j s h1 h3
 ·subst h4;exact absurd h1 (hno i)
 ·subst h2;exact absurd h3 (hno j)
 ·omega
theorem Wu {c:Aa} {most:Nat} {s:Ac}:∀ (l:List Ae) (S:List Ac) (mv:L6) {r:List Ac×L6},Nd S->Jw c most s l S mv=.inr r->∃ Y,r.2=mv ++ Y/\Xr c s l S r.1 Y/\Nd r.1
 | [],S,mv,r,hN,h=>by
  unfold Jw at h;obtain rfl:=Sum.inr.inj h;exact ⟨[],by simp,⟨⟨[],by simp⟩,rfl,λj x hx=>by simp at hx,λk h1 h2=>by dsimp only at h2;omega⟩,hN⟩
 | x :: l,S,mv,r,hN,h=>by
  unfold Jw at h;by_cases h0:(aft c s x).2=0
  ·rw [if_pos h0] at h;by_cases hp:plc S (aft c s x).1 < 0
   ·rw [if_pos hp] at h;by_cases hM:S.length=most
    ·rw [if_pos hM] at h;cases h
    ·rw [if_neg hM] at h;obtain ⟨Y,e1,⟨⟨X,e2⟩,e3,e4,e5⟩,e6⟩:=Wu l _ _ (hN.put (BB hp)) h;refine ⟨(S.length:Int) :: Y,by rw [e1];simp,⟨⟨(aft c s x).1 :: X,by rw [e2];simp⟩,by simp [e3],λj y hy=>?_,λk h1 h2=>?_⟩,e6⟩
     ·cases j with
      | zero=>
       obtain rfl:x=y:=by simpa using hy
       exact ⟨h0,S.length,rfl,by rw [e2];simp⟩
      | succ j=>
       obtain ⟨a,k,b,d⟩:=e4 j y (by simpa using hy);exact ⟨a,k,by simpa using b,d⟩
     ·by_cases hk:k=S.length
      ·subst hk;simp
      ·exact GR _ (e5 k so_ h2)
   ·rw [if_neg hp] at h;obtain ⟨q,hq,hq2,hq3⟩:=Uh hp;obtain ⟨Y,e1,⟨⟨X,e2⟩,e3,e4,e5⟩,e6⟩:=Wu l _ _ hN h;refine ⟨(q:Int) :: Y,by rw [e1,hq2];simp,⟨⟨X,e2⟩,by simp [e3],λj y hy=>?_,λk h1 h2=>GR _ (e5 k h1 h2)⟩,e6⟩;cases j with
    | zero=>
     obtain rfl:x=y:=by simpa using hy
     refine ⟨h0,q,rfl,?_⟩;obtain ⟨g1,g2,_⟩:=G7.1 hq3;rw [e2,GP g1,gE_ g1,← Gw.1 g2]
    | succ j=>
     obtain ⟨a,k,b,d⟩:=e4 j y (by simpa using hy);exact ⟨a,k,by simpa using b,d⟩
  ·rw [if_neg h0] at h;cases h
structure Rwm (c:Aa) (S:List Ac) (s:Ac) (mv:L6):Prop where
 len:mv.length=(Jx s).length
 ev:∀ (j:Nat) x,(Jx s)[j]?=some x->(aft c s x).2=0/\∃ k:Nat,mv[j]?=some (k:Int)/\S[k]?=some (aft c s x).1
theorem Rwm.app {c:Aa} {S X:List Ac} {s:Ac} {mv:L6} (h:Rwm c S s mv):Rwm c (S ++ X) s mv:=
 ⟨h.len,λj x hx=>by
  obtain ⟨a,k,b,d⟩:=h.ev j x hx;exact ⟨a,k,b,by rw [GP (GE.1 d).1];exact d⟩⟩
structure Fnd (c:Aa) (s0:Ac) (i:Nat) (S:List Ac) (M:List L6):Prop where
 ml:M.length=i
 il:i<=S.length
 hd:S[0]?=some s0
 nd:Nd S
 row:∀ (j:Nat) s mv,j < i->S[j]?=some s->M[j]?=some mv->Rwm c S s mv
 par:∀ k,0 < k->k < S.length->∃ p mv,p < k/\M[p]?=some mv/\(k:Int)∈mv
theorem AV {c:Aa} {s0:Ac} {most:Nat}:∀ (n i:Nat) (S:List Ac) (M:List L6) {sp:Space},Fnd c s0 i S M->Ry c most n i S M=.inr sp->Fnd c s0 sp.States.length sp.States sp.Moves
 | 0,_,_,_,_,_,h=>by cases h
 | n + 1,i,S,M,sp,hF,h=>by
  unfold Ry at h;cases hs:S[i]? with
  | none=>
   rw [hs] at h;obtain rfl:=Sum.inr.inj h;have h1:=List.getElem?_eq_none_iff.1 hs;have h2:=hF.il;have:i=S.length:=by omega
   subst this;exact hF
  | some s=>
   rw [hs] at h;try dsimp only at h
   cases hx:Jw c most s (Jx s) S [] with
   | inl e=>rw [hx] at h;cases h
   | inr r=>
    rw [hx] at h;obtain ⟨Y,e1,⟨⟨X,e2⟩,e3,e4,e5⟩,e6⟩:=Wu _ _ _ hF.nd hx;have hil:=(GE.1 hs).1;have e1:r.2=Y:=by simpa using e1
    refine AV n (i + 1) r.1 _ ⟨by simp [hF.ml],by rw [e2];simp;omega,?_,e6,?_,?_⟩ h
    ·rw [e2,GP om_];exact hF.hd
    ·intro j t mv hj ht hm;by_cases hji:j=i
     ·subst hji;rw [G0 (by rw [hF.ml];omega),hF.ml,LL] at hm;have hm:r.2=mv:=by simpa using hm
      rw [e2,GP hil,hs] at ht;obtain rfl:=Option.some.inj ht;rw [← hm,e1];exact ⟨e3,e4⟩
     ·have hj2:j < i:=by omega
      rw [GP (by rw [hF.ml];exact hj2)] at hm;rw [e2,GP om_] at ht;rw [e2];exact (hF.row j t mv hj2 ht hm).app
    ·intro k h1 h2;by_cases hk:k < S.length
     ·obtain ⟨p,mv,a,b,d⟩:=hF.par k h1 hk;exact ⟨p,mv,a,by rw [GP (GE.1 b).1];exact b,d⟩
     ·refine ⟨i,r.2,by omega,?_,by rw [e1];exact e5 k om_ h2⟩;rw [G0 (by rw [hF.ml];omega),hF.ml,LL];rfl
structure Sp_ (c:Aa) (s0:Ac) (sp:Space):Prop where
 al:Al c sp.States
 le:sp.States.length<=120
 fd:Fnd c s0 sp.States.length sp.States sp.Moves
theorem expF_sp {c:Aa} {held:L7} {sp:Space} (hb:Bd_ c) (hf:Fit c (Gl c held).1) (hq:Qt c (Gl c held).1) (h:E4 c held 120=.inr sp):Sp_ c (Gl c held).1 sp:=by
 have hA:Al c [(Gl c held).1]:=λt ht=>by
  obtain rfl:t=_:=by simpa using ht
  exact ⟨hf,hq⟩
 obtain ⟨a1,a2,_⟩:=AU FF 0 _ [] hA smp_ rfl smp_ smp_ hb h;refine ⟨a1,a2,AV FF 0 _ [] ⟨rfl,by simp,rfl,?_,λj s mv hj=>by omega,λk h1 h2=>by simp at h2;omega⟩ h⟩;intro i j s hi hj;have h1:=(GE.1 hi).1;have h2:=(GE.1 hj).1;simp at h1 h2;omega
theorem D6 {c:Aa} {s:Ac} (hb:Bd_ c) (h:Fit c s):(Jx s).length<=22:=by
 have h1:=hb.a';have h3:=hb.s;have a:=Bx (g:=Tu s) (n:=s.Ends.length);have b:=Bx (g:=AT s) (n:=s.Timers.length);have he:=h.e;have ht:=h.t;unfold Jx;rw [GC];omega
theorem Sp_.get {c:Aa} {s0:Ac} {sp:Space} (h:Sp_ c s0 sp) {i:Nat} (hi:i < sp.States.length):∃ s mv,sp.States[i]?=some s/\sp.Moves[i]?=some mv/\Rwm c sp.States s mv/\Fit c s/\Qt c s:=by
 have hm:i < sp.Moves.length:=by rw [h.fd.ml];exact hi
 have h1:sp.States[i]?=some sp.States[i]:=gE_ hi;have h2:sp.Moves[i]?=some sp.Moves[i]:=gE_ hm;obtain ⟨hf,hq⟩:=h.al _ (GF hi);exact ⟨_,_,h1,h2,h.fd.row i _ _ hi h1 h2,hf,hq⟩
theorem Rwm.mem {c:Aa} {S:List Ac} {s:Ac} {mv:L6} (h:Rwm c S s mv) {k:Int} (hk:k∈mv):0<=k/\k < S.length:=by
 obtain ⟨j,hj⟩:=KE hk;have hl:=(GE.1 hj).1;rw [h.len] at hl;obtain ⟨_,q,h1,h2⟩:=h.ev j _ (gE_ hl);rw [hj] at h1;obtain rfl:=Option.some.inj h1;have:=(GE.1 h2).1;omega
theorem Sp_.pos {c:Aa} {s0:Ac} {sp:Space} (h:Sp_ c s0 sp):0 < sp.States.length:=(GE.1 h.fd.hd).1
theorem Sp_.rows {c:Aa} {s0:Ac} {sp:Space} (hb:Bd_ c) (h:Sp_ c s0 sp):∀ l∈sp.Moves,l.length<=22/\∀ k∈l,0<=k/\k < sp.States.length:=by
 intro l hl;obtain ⟨i,hi⟩:=KE hl;have hil:=(GE.1 hi).1;rw [h.fd.ml] at hil;obtain ⟨s,mv,h1,h2,h3,h4,h5⟩:=h.get hil;rw [hi] at h2;obtain rfl:=Option.some.inj h2;exact ⟨by rw [h3.len];exact D6 hb h4,λk hk=>h3.mem hk⟩
theorem Sp_.shp {c:Aa} {s0:Ac} {sp:Space} (hb:Bd_ c) (h:Sp_ c s0 sp):shp sp=0:=by
 have hp:=h.pos;have hl:=h.le;have hm:=h.fd.ml;unfold Pn.shp;rw [show (sp.States.length == 0)=false by rw [beq_eq_false_iff_ne];omega,cf_,show decide (sp.States.length > 16384)=false by simp;omega,cf_,show (sp.Moves.length != sp.States.length)=false by rw [hm];simp,cf_];have:sp.Moves.any (λl=>l.any (bad sp.States.length))=false:=by
  rw [HQ];intro l hl2;rw [Bool.not_eq_true,HQ];intro k hk;have:=(h.rows hb l hl2).2 k hk;unfold bad;simp;omega
 rw [this];rfl
end Go.Pn
namespace Go.Pn
open Go Go.Sort Go.Proofs
def Sb_ (s:Ab):Prop:=0<=s.Actuator/\s.Actuator<=1000
def Wq (x:Int):Int:=if x < 0 then -1 else if 0 < x then 1 else 0
theorem Xq {x:Int}:Wq x=0↔x=0:=by unfold Wq; split <;> (try split) <;> omega
theorem A5 {x:Int}:Wq x < 0↔x < 0:=by unfold Wq; split <;> (try split) <;> omega
def co:List Ab->List Ab->Option Int
 | a :: l,b :: m=>if sd a b=0 then co l m else some (Wq (sd a b))
 | _,_=>none
theorem FN:∀ (a b:List Ab),Wq (lcs a b)=match co a b with | some r=>r | none=>if a.length < b.length then -1 else if a.length > b.length then 1 else 0
 | [],[]=>rfl
 | [],_ :: _=>by simp [lcs,co,Wq]
 | _ :: _,[]=>by simp [lcs,co,Wq]
 | a :: l,b :: m=>by
  unfold lcs co;by_cases h:sd a b=0
  ·rw [if_pos h,if_pos h,FN l m];cases co l m with
   | some r=>rfl
   | none=>simp
  ·rw [if_neg h,if_neg h]
theorem Nf {v0 v1:List Ab} (hl:v0.length<=100000000):∀ (n i:Nat),i<=v0.length->v0.length - i < n ->
  ∃ k,Yh v0 v1 n i=some (match co (v0.drop i) (v1.drop i) with | some r=>.ret r | none=>.brk k)
 | 0,i,_,h=>by omega
 | n + 1,i,hi,hn=>by
  rw [Yh];by_cases hlt:i < v0.length/\i < v1.length
  ·obtain ⟨hlt,h2⟩:=hlt;rw [Aj,Aj,dt_ hlt,dt_ h2,LD,ct_];simp only [Ai,gE_ hlt,gE_ h2,ob_];rw [GG hlt,GG h2];unfold co;generalize ha:v0[i]=a;generalize hb:v1[i]=b;obtain ⟨x,p⟩:=a;obtain ⟨y,q⟩:=b;dsimp only;by_cases h3:x=y
   ·subst h3;rw [show (x != x)=false by simp,cf_];by_cases h4:p=q
    ·subst h4;rw [show (p != p)=false by simp,cf_,if_pos (Bq.2 rfl),Am om_];exact Nf hl n (i + 1) om_ om_
    ·rw [show (p != q)=true by simpa using h4,ct_];refine ⟨0,?_⟩;cases p <;> cases q <;> simp_all [sd,Wq]
   ·rw [show (x != y)=true by simpa using h3,ct_];refine ⟨0,?_⟩;have h5:sd ⟨x,p⟩ ⟨y,q⟩=x - y:=by unfold sd;rw [if_neg h3]
    rw [h5,if_neg om_];unfold Wq;by_cases h6:x < y
    ·rw [dt_ h6,ct_,if_pos om_]
    ·rw [df_ h6,cf_,if_neg om_,if_pos om_]
  ·refine ⟨(i:Int),?_⟩;have:(decide ((i:Int) < (v0.length:Int)) && decide ((i:Int) < (v1.length:Int)))=false:=by
    rw [Aj,Aj];rcases H3 i v0.length with h | h
    ·rw [df_ (show ¬ i < v1.length from λh'=>hlt ⟨h,h'⟩),K8]
    ·rw [df_ om_,JC]
   rw [this,cf_];have:co (v0.drop i) (v1.drop i)=none:=by
    rcases H3 i v0.length with h | h
    ·rw [GT (show v1.length<=i from Nat.le_of_not_lt λh'=>hlt ⟨h,h'⟩)];cases v0.drop i <;> rfl
    ·rw [GT h];rfl
   rw [this]
theorem Mk {v0 v1:List Ab} (hl:v0.length<=10000):m77 FF v0 v1=some (Wq (lcs v0 v1)):=by
 unfold m77;obtain ⟨k,hk⟩:=Nf (v0:=v0) (v1:=v1) om_ FF 0 om_ uF;rw [n0,GL,GL] at hk;rw [hk,FN];cases co v0 v1 with
 | some r=>rfl
 | none=>
  rw [ob_];dsimp only;rcases Nat.lt_trichotomy v0.length v1.length with h | h | h
  ·rw [if_pos h,show decide ((v0.length:Int) < (v1.length:Int))=true by simp;omega];rfl
  ·rw [if_neg om_,if_neg om_,show decide ((v0.length:Int) < (v1.length:Int))=false by simp;omega,show decide ((v0.length:Int) > (v1.length:Int))=false by simp;omega];rfl
  ·rw [if_neg om_,if_pos h,show decide ((v0.length:Int) < (v1.length:Int))=false by simp;omega,show decide ((v0.length:Int) > (v1.length:Int))=true by simp;omega];rfl
end Go.Pn
namespace Go.Pn
open Go Go.Sort Go.Proofs
instance:DecidableEq Ab:=λa b=>decidable_of_iff (sd a b=0) Bq
theorem Ld {a b:List Ab} {l:List (List Ab)}:Co (a :: b :: l)=if lcs a b=0 then Co (b :: l) else a :: Co (b :: l):=by rw [Co]
theorem DH {a:List Ab}:Co [a]=[a]:=rfl
theorem Qf:∀ (l:List (List Ab)) (y x:List Ab),Co (l ++ [y] ++ [x])=if y=x then Co (l ++ [y]) else Co (l ++ [y]) ++ [x]
 | [],y,x=>by
  show Co [y,x]=if y=x then Co [y] else Co [y] ++ [x]
  rw [Ld,DH,DH];by_cases h:y=x
  ·subst h;rw [if_pos (Ax.2 rfl),if_pos rfl]
  ·rw [if_neg λe=>h (Ax.1 e),if_neg h];rfl
 | [a],y,x=>by
  have h1:Co [y,x]=if y=x then Co [y] else Co [y] ++ [x]:=Qf [] y x
  show Co (a :: y :: [x])=if y=x then Co (a :: [y]) else Co (a :: [y]) ++ [x]
  rw [Ld (a:=a) (b:=y) (l:=[x]),Ld (a:=a) (b:=y) (l:=[]),h1];by_cases h:lcs a y=0
  ·rw [if_pos h,if_pos h]
  ·rw [if_neg h,if_neg h];split <;> rfl
 | a :: b :: l,y,x=>by
  have h1:Co (b :: (l ++ [y] ++ [x]))=if y=x then Co (b :: (l ++ [y])) else Co (b :: (l ++ [y])) ++ [x]:=Qf (b :: l) y x
  show Co (a :: b :: (l ++ [y] ++ [x]))=if y=x then Co (a :: b :: (l ++ [y])) else Co (a :: b :: (l ++ [y])) ++ [x]
  rw [Ld (a:=a) (b:=b) (l:=l ++ [y] ++ [x]),Ld (a:=a) (b:=b) (l:=l ++ [y]),h1];by_cases h:lcs a b=0
  ·rw [if_pos h,if_pos h]
  ·rw [if_neg h,if_neg h];split <;> rfl
theorem Wn {l:List (List Ab)} {i:Nat} (h0:0 < i) (h:i < l.length):Co (l.take (i + 1))=if l[i - 1]'om_=l[i] then Co (l.take i) else Co (l.take i) ++ [l[i]]:=by
 obtain ⟨k,rfl⟩:∃ k,i=k + 1:=⟨i - 1,by omega⟩;have h1:=Qf (l.take k) (l[k]'om_) l[k + 1];rw [show l.take k ++ [l[k]'om_]=l.take (k + 1) from KG om_,show l.take (k + 1) ++ [l[k + 1]]=l.take (k + 1 + 1) from KG h] at h1;exact h1
def EqT (E:List Ab->List Ab->Option Bool) (xs:List (List Ab)):Prop:=∀ x∈xs,∀ y∈xs,E x y=some (decide (x=y))
theorem C3 {α:Type} {xs:List α} {k n:Nat} {j:Nat} (hk:k + j < n) (hn:n<=xs.length):Wr xs (k,n) (j:Int)=some (xs[k + j]'om_):=by
 unfold Wr;rw [if_pos om_];show xs[k + (j:Int).toNat]?=_;rw [G1,gE_ om_]
structure Ci (v zs:List (List Ab)) (p kk:Nat):Prop where
 len:zs.length=v.length
 lt:kk < p
 hi:∀ j,p<=j + 1->zs[j]?=v[j]?
 tk:zs.take kk=Co (v.take p)
theorem Qg:∀ {v:List (List Ab)},(∀ j,0 < j->(h:j < v.length)->v[j]≠v[j - 1]'om_)->Co v=v
 | [],_=>rfl
 | [_],_=>rfl
 | a :: b :: l,h=>by
  have h1:=h 1 om_ smp_;have h1:b≠a:=h1;rw [Co,if_neg λe=>h1 (Ax.1 e).symm];congr 1;refine Qg λj hj hl=>?_;have:=h (j + 1) om_ (by simpa using hl);obtain ⟨i,rfl⟩:∃ i,j=i + 1:=⟨j - 1,by omega⟩;exact this
def nub (v:List (List Ab)):List (List Ab):=Co (Mi (ltOf lcs) v)
theorem nub_pw {v:List (List Ab)}:(nub v).Pairwise lL:=Xg (Sd C1 v)
end Go.Pn
namespace Go.Pn
open Go
theorem fi_any {α:Type} {l:List α} {q:α->Bool}:(∃ j,l.findIdx? q=some j/\l.any q=true)\/(l.findIdx? q=none/\l.any q=false):=by
 cases h:l.findIdx? q with
 | some j=>
  left;obtain ⟨h1,h2,_⟩:=G7.1 h;exact ⟨j,rfl,G8.2 ⟨_,GF h1,h2⟩⟩
 | none=>
  right;rw [HK] at h;exact ⟨rfl,HQ.2 λx hx=>by simpa using h x hx⟩
end Go.Pn
namespace Go.Pn
open Go
theorem exp_ne {c:Aa} {held:L7} (_:True):E4 c held 120≠.inl 0:=by
 intro h3;have key:∀ (n i:Nat) (S:List Ac) (M:List L6),Ry c 120 n i S M≠.inl 0:=by
  intro n
  induction n with
  | zero=>intro i S M h;cases h
  | succ n ih=>
   intro i S M h;unfold Ry at h;cases hs:S[i]? with
   | none=>rw [hs] at h;cases h
   | some s=>
    rw [hs] at h;try dsimp only at h
    have hx:∀ (l:List Ae) (S:List Ac) (mv:L6),Jw c 120 s l S mv≠.inl 0:=by
     intro l
     induction l with
     | nil=>intro S mv h;cases h
     | cons x l ihl=>
      intro S mv h;unfold Jw at h;split at h
      ·split at h
       ·split at h
        ·cases h
        ·exact ihl _ _ h
       ·exact ihl _ _ h
      ·rename_i h0;exact h0 (Sum.inl.inj h)
    cases hr:Jw c 120 s (Jx s) S [] with
    | inl e=>
     rw [hr] at h;have:=Sum.inl.inj h;subst this;exact hx _ _ _ hr
    | inr r=>rw [hr] at h;exact ih _ _ _ h
 exact key _ _ _ _ h3
end Go.Pn
namespace Go.Pn
open Go
def frE (s t:Ac) (i:Nat):Option Ab:=if (t.Ends.getD i 0=1\/t.Ends.getD i 0=3)/\s.Ends.getD i 0≠t.Ends.getD i 0 then some ⟨(i:Int),t.Ends.getD i 0 == 1⟩ else none
def frs (s t:Ac):List Ab:=(List.range s.Ends.length).filterMap (frE s t)
theorem FP {s t:Ac} {i:Nat} (h:i < s.Ends.length) (h':i < t.Ends.length):frE s t i=if (t.Ends[i]=1\/t.Ends[i]=3)/\s.Ends[i]≠t.Ends[i] then some ⟨(i:Int),t.Ends[i] == 1⟩ else none:=by
 unfold frE;rw [GU,GU,gE_ h,gE_ h'];rfl
theorem CU {s t:Ac} (he:t.Ends.length=s.Ends.length) (hl:s.Ends.length<=1000):RF FF s t=some (frs s t):=by
 unfold RF;obtain ⟨v,hv,hh⟩:=Qr (L:=Pg s t) (mk:=λi (v:List Ab)=>((i:Int),v)) (N:=s.Ends.length) (I:=λi v=>v=(List.range i).filterMap (frE s t)) (λn i v hi hI=>by
  subst hI;have hi':i < t.Ends.length:=by omega
  refine ⟨_,rfl,?_⟩;have hle:=Bx (g:=frE s t) (n:=i);rw [Pg];simp only [Aj,dt_ hi,ct_,Ai,gE_ hi,gE_ hi',ob_];rw [Am om_,Gf,FP hi hi'];have k1:(bif (t.Ends[i] == 1) then some true else some (t.Ends[i] == 3))=some (decide (t.Ends[i]=1\/t.Ends[i]=3)):=by
   by_cases a1:t.Ends[i]=1
   ·rw [show (t.Ends[i] == 1)=true by simpa using a1,dt_ (.inl a1)];rfl
   ·rw [show (t.Ends[i] == 1)=false by simpa using a1,cf_];by_cases a3:t.Ends[i]=3
    ·rw [show (t.Ends[i] == 3)=true by simpa using a3,dt_ (.inr a3)]
    ·rw [show (t.Ends[i] == 3)=false by simpa using a3,df_ om_]
  rw [k1,ob_];by_cases ha:t.Ends[i]=1\/t.Ends[i]=3
  ·rw [dt_ ha,ct_,ob_];by_cases hn:s.Ends[i]=t.Ends[i]
   ·rw [show (s.Ends[i] != t.Ends[i])=false by simpa using hn,cf_,ob_,if_neg (λh=>h.2 hn),HL]
   ·rw [show (s.Ends[i] != t.Ends[i])=true by simpa using hn,ct_,Ar so_,ob_,ob_,if_pos ⟨ha,hn⟩]
  ·rw [df_ ha,cf_,ob_,cf_,ob_,if_neg (λh=>ha h.1),HL]) (λn v _=>by
  rw [Pg];dsimp only;rw [Aj,df_ om_,cf_]) FF 0 [] om_ uF rfl
 subst hv;try dsimp only at hh
 rw [n0] at hh;rw [hh];rfl
theorem CV {s t:Ac} (he:t.Ends.length=s.Ends.length) (hl:s.Ends.length<=1000):Q7 FF s t=some (frs s t):=by
 unfold Q7;obtain ⟨v,hv,hh⟩:=Qr (L:=Lb s t) (mk:=λi (v:List Ab)=>((i:Int),v)) (N:=s.Ends.length) (I:=λi v=>v=(List.range i).filterMap (frE s t)) (λn i v hi hI=>by
  subst hI;have hi':i < t.Ends.length:=by omega
  refine ⟨_,rfl,?_⟩;have hle:=Bx (g:=frE s t) (n:=i);rw [Lb];simp only [he,Aj,dt_ hi,ct_,Ai,gE_ hi,gE_ hi',ob_];rw [Am om_,Gf,FP hi hi'];have k1:((t.Ends[i] != s.Ends[i]) && ((t.Ends[i] == 1) || (t.Ends[i] == 3)))=decide ((t.Ends[i]=1\/t.Ends[i]=3)/\s.Ends[i]≠t.Ends[i]):=by
   rw [HU];simp;omega
  rw [k1];by_cases ha:(t.Ends[i]=1\/t.Ends[i]=3)/\s.Ends[i]≠t.Ends[i]
  ·rw [dt_ ha,ct_,Ar so_,ob_,ob_,if_pos ha]
  ·rw [df_ ha,cf_,ob_,if_neg ha,HL]) (λn v _=>by
  rw [Lb];dsimp only;rw [he,Aj,df_ om_,cf_]) FF 0 [] om_ uF rfl
 subst hv;try dsimp only at hh
 rw [n0] at hh;rw [hh];rfl
theorem EM {c:Aa} {s t:Ac} (hb:Bd_ c) (hs:Fit c s) (ht:Fit c t):m71 FF s t=some (frs s t,0):=by
 have h6:=hb.a';have h1:=hs.e;have h2:=ht.e;unfold m71;rw [show ((s.Ends.length:Int) != (t.Ends.length:Int))=false by simp;omega,df_ om_,J6,cf_,Ph om_ om_,ob_];have e1:=AS (L:=Yi (s.Ends ++ t.Ends)) (xs:=s.Ends ++ t.Ends) (p:=λ_ x=>some (decide (x < 0) || decide (x>=4))) (q:=λx=>decide (x < 0) || decide (x>=4)) (r:=λ_=>(([]:List Ab),(1:Int))) (λ_ _=>rfl) so_ (λ_ _ _=>rfl) FF 0 smp_ (by simp;unfold FF;omega);rw [n0,GL] at e1;rcases fi_any (l:=s.Ends ++ t.Ends) (q:=λx=>decide (x < 0) || decide (x>=4)) with ⟨j,hj,ha⟩ | ⟨hj,ha⟩
 ·exfalso;obtain ⟨x,hx,h3⟩:=G8.1 ha;have:0<=x/\x < 4:=(GN.1 hx).elim (hs.ee x) (ht.ee x);simp at h3;omega
 ·rw [hj] at e1;rw [e1,ob_];dsimp only;rw [CV om_ om_];rfl
end Go.Pn
namespace Go.Pn
open Go
structure Sq (c:Aa) (sp:Space):Prop where
 bd:Bd_ c
 fit:∀ s∈sp.States,Fit c s
 ml:sp.Moves.length=sp.States.length
 pos:0 < sp.States.length
 le:sp.States.length<=120
 rows:∀ l∈sp.Moves,l.length<=22/\∀ k∈l,0<=k/\k < sp.States.length
theorem Sp_.sq {c:Aa} {s0:Ac} {sp:Space} (hb:Bd_ c) (h:Sp_ c s0 sp):Sq c sp:=
 ⟨hb,λs hs=>(h.al s hs).1,h.fd.ml,h.pos,h.le,h.rows hb⟩
def stw_ (sp:Space) (i:Int):Ac:=(idx sp.States i).getD default
theorem Px {sp:Space} {i:Int} (h0:0<=i) (h:i < sp.States.length):idx sp.States i=some (stw_ sp i)/\stw_ sp i∈sp.States:=by
 obtain ⟨x,hx,hm⟩:=Cu (xs:=sp.States) h0 h;unfold stw_;rw [hx];exact ⟨rfl,hm⟩
def lab (sp:Space) (i to:Int):List Ab:=frs (stw_ sp i) (stw_ sp to)
section
variable {c:Aa} {sp:Space}
theorem Nc {i:Nat} {mv:L6} (h:Sq c sp) (hi:sp.Moves[i]?=some mv):∀ (n k:Nat) (acc:List (List Ab)),k<=mv.length->acc.length<=k->mv.length - k < n ->
  Yg FF sp i n ((k:Int),acc)=some ((mv.length:Int),acc ++ (mv.drop k).map (lab sp i))
 | 0,_,_,_,_,h=>by omega
 | n + 1,k,acc,hk,ha,hn=>by
  have hil:=(GE.1 hi).1;obtain ⟨h22,hr⟩:=h.rows mv (GM hi);rw [Yg];dsimp only;rw [Ai,hi,ob_];by_cases hlt:k < mv.length
  ·obtain ⟨r1,r2⟩:=hr mv[k] (GF _);obtain ⟨e1,m1⟩:=Px (sp:=sp) (i:=(i:Int)) om_ (by have:=h.ml;omega);obtain ⟨e2,m2⟩:=Px (sp:=sp) r1 r2;have f1:=(h.fit _ m1).e;have f2:=(h.fit _ m2).e;have f3:=h.bd.a';rw [Aj,dt_ hlt,ct_,e1,ob_,ob_,Ai,gE_ hlt,ob_,e2,ob_,CU om_ om_,ob_,Ar so_,ob_,Am om_,
    Nc h hi n (k + 1) _ om_ so_ om_,GG hlt,GQ,G2]
   rfl
  ·obtain rfl:k=mv.length:=by omega
   rw [Aj,df_ om_,cf_,HP];simp
theorem Sr {i:Nat} {mv:L6} (h:Sq c sp) (hi:sp.Moves[i]?=some mv):m78 FF sp i=some (mv.map (lab sp i)):=by
 obtain ⟨h22,_⟩:=h.rows mv (GM hi);unfold m78;have:=Nc h hi FF 0 [] om_ smp_ uF;rw [n0,GL,JG] at this;rw [this];rfl
theorem frs_sb {s t:Ac} (hs:s.Ends.length<=6):(∀ x∈frs s t,Sb_ x)/\(frs s t).length<=6:=by
 constructor
 ·intro x hx;unfold frs at hx;obtain ⟨i,hi,he⟩:=J4.1 hx;unfold frE at he;split at he
  ·obtain rfl:=Option.some.inj he;have:=GX.1 hi;constructor
   ·show 0<=(i:Int);omega
   ·show (i:Int)<=1000;omega
  ·cases he
 ·have:=Bx (g:=frE s t) (n:=s.Ends.length);unfold frs;omega
theorem Pv (h:Sq c sp) {i to:Int} (h0:0<=i) (h1:i < sp.States.length):(∀ x∈lab sp i to,Sb_ x)/\(lab sp i to).length<=6:=by
 obtain ⟨_,m1⟩:=Px (sp:=sp) h0 h1;have f1:=(h.fit _ m1).e;have f3:=h.bd.a';exact frs_sb om_
end
end Go.Pn
namespace Go.Pn
open Go
inductive Sc (sp:Space) (S:Int->Prop):Int->Prop
 | base {i:Int}:S i->Sc sp S i
 | step {i j:Int} {mv:L6}:Sc sp S i->idx sp.Moves i=some mv->j∈mv->lab sp i j=[]->Sc sp S j
theorem Sc.bind {sp:Space} {S T:Int->Prop} (h:∀ i,S i->Sc sp T i):∀ {i:Int},Sc sp S i->Sc sp T i:=by
 intro i hi
 induction hi with
 | base h1=>exact h _ h1
 | step _ h2 h3 h4 ih=>exact .step ih h2 h3 h4
def mkd (a:L7) (i:Int):Prop:=idx a i=some true
theorem Wx {a:L7} {v i:Int} (h0:0<=v) (h:v < a.length):mkd (a.set v.toNat true) i↔i=v\/mkd a i:=by
 unfold mkd idx;by_cases hi:0<=i
 ·rw [if_pos hi,if_pos hi];by_cases e:i=v
  ·subst e;rw [HH om_];simp
  ·rw [HT om_];simp [e]
 ·rw [if_neg hi,if_neg hi];constructor
  ·intro h;cases h
  ·rintro (h | h)
   ·omega
   ·cases h
def unm (a:L7):Nat:=a.count false
theorem A0:∀ {a:L7} {v:Nat},a[v]?=some false->unm (a.set v true) + 1=unm a
 | [],_,h=>by simp at h
 | b :: a,0,h=>by
  obtain rfl:b=false:=by simpa using h
  simp [unm]
 | b :: a,v + 1,h=>by
  have:=A0 (a:=a) (v:=v) (by simpa using h);unfold unm at this ⊢;rw [List.set_cons_succ,List.count_cons,List.count_cons];omega
section
variable {c:Aa} {sp:Space}
end
end Go.Pn
namespace Go.Pn
open Go
theorem coll {L:Nat->Int×L6->Option (Int×L6)} {b:L7} (hl:b.length<=1000)
  (hL:∀ n z,L (n + 1) z=(bif decide (z.1 < (b.length:Int)) then (idx b z.1).bind λx=>(bif x then (app z.2 ([z.1]:L6)).bind λy=>some y else some z.2).bind λz'=>L n ((wr (z.1 + 1)),z') else some (z.1,z.2))) :
  ∃ l,L FF ((0:Int),[])=some ((b.length:Int),l)/\Cs l (mkd b):=by
 obtain ⟨v,hv,hh⟩:=Qr (L:=L) (mk:=λi (v:L6)=>((i:Int),v)) (N:=b.length) (I:=λi v=>v.length<=i/\Cs v λx=>mkd b x/\x < (i:Int)) (λn i v hi hI=>by
  obtain ⟨h1,h2⟩:=hI;have hg:b[i]?=some b[i]:=gE_ hi;rw [hL];dsimp only;rw [Aj,dt_ hi,ct_,Ai,hg,ob_,Am om_];have hm:mkd b (i:Int)↔b[i]=true:=by unfold mkd;rw [Ai,hg];simp
  cases hb:b[i] with
  | true=>
   rw [ct_,Ar so_,ob_,ob_];refine ⟨_,⟨by simp;omega,?_⟩,rfl⟩;refine (h2.snoc (y:=(i:Int)) λx hx=>hx.2).iff λx=>⟨λhx=>?_,λhx=>?_⟩
   ·rcases hx with hx | rfl
    ·exact ⟨hx.1,by omega⟩
    ·exact ⟨hm.2 hb,by omega⟩
   ·by_cases e:x=i
    ·exact .inr e
    ·exact .inl ⟨hx.1,by omega⟩
  | false=>
   rw [cf_,ob_];refine ⟨_,⟨by omega,h2.iff λx=>⟨λhx=>⟨hx.1,by omega⟩,λhx=>⟨hx.1,?_⟩⟩⟩,rfl⟩;have:x≠i:=λe=>by rw [e,hm,hb] at hx;cases hx.1
   omega) (λn v _=>by
  rw [hL];dsimp only;rw [Aj,df_ om_,cf_]) FF 0 [] om_ uF ⟨by simp,Cs.nil λx hx=>by
   obtain ⟨h1,h2⟩:=hx;unfold mkd idx at h1;split at h1
   ·omega
   ·cases h1⟩
 refine ⟨v,hh,hv.2.iff λx=>⟨λhx=>hx.1,λhx=>⟨hx,?_⟩⟩⟩;unfold mkd idx at hx;split at hx
 ·have:=(GE.1 hx).1;omega
 ·cases hx
theorem BF {n:Nat} {i:Int}:¬ mkd (List.replicate n false) i:=by
 unfold mkd idx;split
 ·rw [J2];split <;> simp
 ·simp
section
variable {c:Aa} {sp:Space}
end
end Go.Pn
namespace Go.Pn
open Go
structure Ps (sp:Space) (a b:L7) (m m':Bool):Prop where
 len:b.length=a.length
 un:unm b<=unm a
 up:∀ i,mkd a i->mkd b i
 so:∀ i,mkd b i->Sc sp (mkd a) i
 no:m'=false->m=false/\b=a
 ye:m'=true->m=true\/unm b < unm a
theorem Ps.refl {sp:Space} {a:L7} {m:Bool}:Ps sp a a m m:=⟨rfl,GS _,λ_ h=>h,λ_ h=>.base h,λh=>⟨h,rfl⟩,λh=>.inl h⟩
theorem Ps.trans {sp:Space} {a b c:L7} {m m' m'':Bool} (h:Ps sp a b m m') (k:Ps sp b c m' m''):Ps sp a c m m'' where
 len:=k.len.trans h.len
 un:=G3 k.un h.un
 up:=λi hi=>k.up i (h.up i hi)
 so:=λi hi=>(k.so i hi).bind h.so
 no:=λe=>by
  obtain ⟨e1,e2⟩:=k.no e;obtain ⟨e3,e4⟩:=h.no e1;exact ⟨e3,e2.trans e4⟩
 ye:=λe=>by
  rcases k.ye e with h1 | h1
  ·rcases h.ye h1 with h2 | h2
   ·exact .inl h2
   ·have:=k.un;exact .inr om_
  ·have:=h.un;exact .inr om_
section
variable {c:Aa} {sp:Space}
theorem Mc (h:Sq c sp) {i:Nat} {mv:L6} {z:Bool×Int×L7} (hz:z.2.1=(i:Int)) (hi:sp.Moves[i]?=some mv):∀ (n k:Nat) (m:Bool) (a:L7),k<=mv.length->mv.length - k < n->a.length=sp.States.length->mkd a i ->
  ∃ m' b,Dm sp z (mv.map (lab sp i)) n (m,(k:Int),a)=some (m',(mv.length:Int),b)/\Ps sp a b m m'/\∀ j∈mv.drop k,lab sp i j=[]->mkd b j
 | 0,_,_,_,_,h,_,_=>by omega
 | n + 1,k,m,a,hk,hn,ha,hm=>by
  obtain ⟨h22,hr⟩:=h.rows mv (GM hi);have hml:=h.ml;have hle:=h.le;rw [Dm];dsimp only;rw [hz,JJ];by_cases hlt:k < mv.length
  ·obtain ⟨r1,r2⟩:=hr mv[k] (GF _);obtain ⟨x,hx,hxm⟩:=Cu (xs:=a) r1 om_;have hlk:(mv.map (lab sp i))[k]?=some (lab sp i mv[k]):=by rw [GW,gE_ hlt];rfl
   rw [Aj,dt_ hlt,ct_,Ai,hi,ob_,Ai,gE_ hlt,ob_,Ai,hlk,ob_,Am om_];have goon:∀ (m1:Bool) (a1:L7),Ps sp a a1 m m1->(lab sp i mv[k]=[]->mkd a1 mv[k])->∃ m' b,Dm sp z (mv.map (lab sp i)) n (m1,((k + 1:Nat):Int),a1)=some (m',(mv.length:Int),b)/\Ps sp a b m m'/\∀ j∈mv.drop k,lab sp i j=[]->mkd b j:=by
    intro m1 a1 p1 q1;obtain ⟨m',b,e2,p2,q2⟩:=Mc h hz hi n (k + 1) m1 a1 om_ om_ (p1.len.trans ha) (p1.up _ hm);refine ⟨m',b,e2,p1.trans p2,λj hj hl=>?_⟩;rw [GG hlt] at hj;rcases GK.1 hj with rfl | hj
    ·exact p2.up _ (q1 hl)
    ·exact q2 j hj hl
   by_cases hs:lab sp i mv[k]=[]
   ·rw [hs,show (((([]:List Ab).length:Int)) == 0)=true from rfl,ct_,hx,ob_,ob_];cases x with
    | true=>
     rw [HS,cf_,ob_];exact goon m a Ps.refl λ_=>hx
    | false=>
     rw [JB,ct_,ob_,ob_];have hx':a[mv[k].toNat]?=some false:=by
      unfold idx at hx;rw [if_pos r1] at hx;exact hx
     have hu:=A0 hx';have hmk:∀ y,mkd (a.set mv[k].toNat true) y↔y=mv[k]\/mkd a y:=λy=>Wx r1 om_;refine goon true (a.set mv[k].toNat true) ⟨by simp,by omega,λy hy=>(hmk y).2 (.inr hy),λy hy=>?_,λe=>(by cases e),λ_=>.inr om_⟩ λ_=>(hmk _).2 (.inl rfl);rcases (hmk y).1 hy with rfl | hy
     ·exact .step (.base hm) (by rw [Ai];exact hi) (GF _) hs
     ·exact .base hy
   ·have:(((lab sp i mv[k]).length:Int) == 0)=false:=by
     cases hq:lab sp i mv[k] with
     | nil=>exact (hs hq).elim
     | cons y ys=>simp;omega
    rw [this,cf_,ob_,cf_,ob_];exact goon m a Ps.refl λe=>(hs e).elim
  ·obtain rfl:k=mv.length:=by omega
   rw [Aj,df_ om_,cf_];exact ⟨m,a,rfl,Ps.refl,λj hj=>by rw [HP] at hj;simp at hj⟩
def Cld (sp:Space) (a:L7) (i:Int):Prop:=mkd a i->∀ mv j,idx sp.Moves i=some mv->j∈mv->lab sp i j=[]->mkd a j
theorem Fi (h:Sq c sp):∀ (n i:Nat) (m:Bool) (a:L7),i<=sp.States.length->sp.States.length - i < n->a.length=sp.States.length ->
  ∃ m' b,Dn FF sp n (m,(i:Int),a)=some (m',(sp.States.length:Int),b)/\Ps sp a b m m'/\(m'=false->∀ j:Nat,i<=j->j < sp.States.length->Cld sp a j)
 | 0,_,_,_,_,h,_=>by omega
 | n + 1,i,m,a,hi,hn,ha=>by
  have hml:=h.ml;have hle:=h.le;rw [Dn];dsimp only;by_cases hlt:i < sp.States.length
  ·have hg:sp.Moves[i]?=some (sp.Moves[i]'om_):=gE_ om_;generalize sp.Moves[i]'om_=mv at hg;obtain ⟨h22,_⟩:=h.rows mv (GM hg);have hx:a[i]?=some (a[i]'om_):=gE_ om_;rw [Aj,dt_ hlt,ct_,Ai,hx,ob_];cases hb:a[i]'om_ with
   | false=>
    rw [JB,ct_,Am om_];obtain ⟨m',b,e2,p2,q2⟩:=Fi h n (i + 1) m a om_ om_ ha;refine ⟨m',b,e2,p2,λe j hj hjl=>?_⟩;rcases KO hj with rfl | hj
    ·intro hm;unfold mkd at hm;rw [Ai,hx,hb] at hm;cases hm
    ·exact q2 e j hj hjl
   | true=>
    rw [HS,cf_,Sr h hg,ob_];have hm:mkd a (i:Int):=by unfold mkd;rw [Ai,hx,hb]
    obtain ⟨m1,b1,e1,p1,q1⟩:=Mc (z:=(m,(i:Int),a)) h rfl hg FF 0 m a om_ uF ha hm;have e1:Dm sp (m,(i:Int),a) (mv.map (lab sp i)) FF (m,(0:Int),a)=some (m1,(mv.length:Int),b1):=e1;rw [e1,ob_,Am om_];dsimp only;obtain ⟨m',b,e2,p2,q2⟩:=Fi h n (i + 1) m1 b1 om_ om_ (p1.len.trans ha);refine ⟨m',b,e2,p1.trans p2,λe j hj hjl=>?_⟩;obtain ⟨x1,x2⟩:=p2.no e;obtain ⟨x3,x4⟩:=p1.no x1;rcases KO hj with rfl | hj
    ·intro _ mv' y hm' hy hl;rw [Ai,hg] at hm';obtain rfl:=Option.some.inj hm';have:=q1 y (by rw [GL];exact hy) hl;rw [x4] at this;exact this
    ·have:=q2 e j hj hjl;rw [x4] at this;exact this
  ·obtain rfl:i=sp.States.length:=by omega
   rw [Aj,df_ om_,cf_];exact ⟨m,a,rfl,Ps.refl,λ_ j hj hjl=>by omega⟩
theorem cld_all {a:L7} (ha:a.length=sp.States.length) (h:∀ j:Nat,j < sp.States.length->Cld sp a j):∀ i,Cld sp a i:=by
 intro i hm;have hm':=hm;unfold mkd idx at hm;split at hm
 ·rename_i h0;have h1:=(GE.1 hm).1;obtain ⟨n,rfl⟩:=LH h0;exact h n (by simp at h1;omega) hm'
 ·cases hm
theorem Md (h:Sq c sp):∀ (n k:Nat) (m:Bool) (a:L7),k<=sp.States.length->sp.States.length - k < n->a.length=sp.States.length ->
  (m=false->∀ i,Cld sp a i)->(m=true->unm a + k + 1<=sp.States.length\/∀ i,¬ mkd a i) ->
  ∃ (z:Bool×Int) (b:L7),Fj FF sp n (m,(k:Int),a)=some (z.1,z.2,b)/\b.length=a.length/\(∀ i,mkd a i->mkd b i)/\(∀ i,mkd b i->Sc sp (mkd a) i)/\∀ i,Cld sp b i
 | 0,_,_,_,_,h,_,_,_=>by omega
 | n + 1,k,m,a,hk,hn,ha,hf,ht=>by
  have hml:=h.ml;have hle:=h.le;have stop:(∀ i,Cld sp a i)->∃ (z:Bool×Int) (b:L7),some (m,(k:Int),a)=some (z.1,z.2,b)/\b.length=a.length/\(∀ i,mkd a i->mkd b i)/\(∀ i,mkd b i->Sc sp (mkd a) i)/\∀ i,Cld sp b i:=
   λhc=>⟨(m,(k:Int)),a,rfl,rfl,λ_ h=>h,λ_ h=>.base h,hc⟩
  rw [Fj];dsimp only;cases m with
  | false=>
   rw [K8,cf_];exact stop (hf rfl)
  | true=>
   by_cases hlt:k < sp.States.length
   ·rw [Aj,dt_ hlt,HY,ct_];obtain ⟨m',b,e1,p1,q1⟩:=Fi h FF 0 false a om_ uF ha;have e1:Dn FF sp FF (false,(0:Int),a)=some (m',(sp.States.length:Int),b):=e1;rw [e1,ob_,Am om_];dsimp only;obtain ⟨z,b2,e2,l2,u2,s2,c2⟩:=Md h n (k + 1) m' b om_ om_ (p1.len.trans ha) (λe=>by
     have:=(p1.no e).2;rw [this];exact cld_all ha λj hj=>q1 e j (JD _) hj) (λe=>by
     rcases p1.ye e with h1 | h1
     ·cases h1
     ·rcases ht rfl with h2 | h2
      ·exact .inl om_
      ·refine .inr λi hi=>?_;have:=p1.so i hi;clear hi
       induction this with
       | base h3=>exact h2 _ h3
       | step _ _ _ _ ih=>exact ih)
    exact ⟨z,b2,e2,l2.trans p1.len,λi hi=>u2 i (p1.up i hi),λi hi=>(s2 i hi).bind p1.so,c2⟩
   ·rw [Aj,df_ hlt,JC,cf_];refine stop λi hi=>?_;rcases ht rfl with h2 | h2
    ·omega
    ·exact (h2 i hi).elim
theorem Wd (h:Sq c sp) {a:L7} (ha:a.length=sp.States.length):∃ r b,Yy FF sp a=some (r,b)/\Cs r (Sc sp (mkd a)):=by
 have hml:=h.ml;have hle:=h.le;have hu:(∀ i,¬ mkd a i)\/unm a + 1<=sp.States.length:=by
  by_cases hc:a.count false=a.length
  ·left;intro i hi;have hall:=List.count_eq_length.1 hc;have:=hall true (Aw hi);cases this
  ·right;have:=JS (a:=false) (l:=a);unfold unm;omega
 obtain ⟨z,b,e1,l1,u1,s1,c1⟩:=Md h FF 0 true a om_ uF ha (λe=>by cases e) (λ_=>hu.elim .inr λh1=>.inl om_);obtain ⟨r,e2,hr⟩:=coll (L:=Ji (z.1,z.2,b)) (b:=b) om_ (λn z=>by rw [Ji]);have e1:Fj FF sp FF (true,(0:Int),a)=some (z.1,z.2,b):=e1;refine ⟨r,b,?_,hr.iff λx=>⟨s1 x,λhx=>?_⟩⟩
 ·unfold Yy;rw [e1,ob_,e2];rfl
 ·induction hx with
  | base h1=>exact u1 _ h1
  | step _ h2 h3 h4 ih=>exact c1 _ ih _ _ h2 h3 h4
end
end Go.Pn
namespace Go.Pn
open Go
section
variable {c:Aa} {sp:Space}
theorem Sc.iff {S T:Int->Prop} (h:∀ i,S i↔T i) (i:Int):Sc sp S i↔Sc sp T i:=
 ⟨λk=>k.bind λj hj=>.base ((h j).1 hj),λk=>k.bind λj hj=>.base ((h j).2 hj)⟩
theorem Sc.rng (h:Sq c sp) {S:Int->Prop} (hS:∀ i,S i->0<=i/\i < sp.States.length) {i:Int} (hi:Sc sp S i):0<=i/\i < sp.States.length:=by
 induction hi with
 | base h1=>exact hS _ h1
 | step _ h2 h3 _ _=>exact (h.rows _ (Aw h2)).2 _ h3
def zF (sp:Space):L6:=(m83 FF sp).getD []
theorem Gv (h:Sq c sp):m83 FF sp=some (zF sp)/\True/\Cs (zF sp) (Sc sp (·=0)):=by
 have hpos:=h.pos;have hle:=h.le;have hm:∀ i,mkd ((List.replicate sp.States.length false).set (0:Int).toNat true) i↔i=0:=λi=>by
  rw [Wx om_ so_];exact ⟨λe=>e.elim id λe=>(BF e).elim,.inl⟩
 obtain ⟨r,b,e1,hr⟩:=Wd (a:=(List.replicate sp.States.length false).set (0:Int).toNat true) h smp_;have e2:m83 FF sp=some r:=by
  unfold m83;rw [Eq om_,ob_];have:idx (List.replicate sp.States.length false) (0:Int)=some false:=by
   rw [← n0,Ai,J2,if_pos hpos]
  rw [this,ob_,e1];rfl
 have hz:zF sp=r:=by unfold zF;rw [e2];rfl
 rw [hz];have hr':Cs r (Sc sp (·=0)):=hr.iff λi=>Sc.iff hm i;exact ⟨e2,trivial,hr'⟩
def Bh (sp:Space) (front:L6) (l:List Ab) (j:Int):Prop:=∃ i∈front,∃ mv,idx sp.Moves i=some mv/\j∈mv/\l≠[]/\lab sp i j=l
theorem Bh.rng (h:Sq c sp) {front:L6} {l:List Ab} {j:Int} (hj:Bh sp front l j):0<=j/\j < sp.States.length:=by
 obtain ⟨i,_,mv,h1,h2,_⟩:=hj;exact (h.rows _ (Aw h1)).2 _ h2
theorem Ha (h:Sq c sp) {front:L6} {l:List Ab} {z:Int×L7} {i:Int} {mv:L6} (hq:idx front z.1=some i) (hi:idx sp.Moves i=some mv):∀ (n k:Nat) (a:L7),k<=mv.length->mv.length - k < n->a.length=sp.States.length ->
  ∃ b,Um FF sp front l z (mv.map (lab sp i)) n ((k:Int),a)=some ((mv.length:Int),b)/\b.length=a.length/\∀ y,mkd b y↔mkd a y\/(y∈mv.drop k/\l≠[]/\lab sp i y=l)
 | 0,_,_,_,h,_=>by omega
 | n + 1,k,a,hk,hn,ha=>by
  obtain ⟨h22,hr⟩:=h.rows mv (Aw hi);have hml:=h.ml;have hle:=h.le;have hi0:0<=i/\i < sp.Moves.length:=by
   have hi':=hi;unfold idx at hi';split at hi'
   ·rename_i h0;have:=(GE.1 hi').1;omega
   ·cases hi'
  rw [Um];dsimp only;rw [JJ];by_cases hlt:k < mv.length
  ·obtain ⟨r1,r2⟩:=hr mv[k] (GF _);obtain ⟨x,hx,hxm⟩:=Cu (xs:=a) r1 om_;have hlk:(mv.map (lab sp i))[k]?=some (lab sp i mv[k]):=by rw [GW,gE_ hlt];rfl
   obtain ⟨_,l6⟩:=Pv h (i:=i) (to:=mv[k]) hi0.1 om_;rw [Aj,dt_ hlt,ct_,Am om_,Ai,hlk];have hd:mv.drop k=mv[k] :: mv.drop (k + 1):=GG hlt;by_cases hc:l≠[]/\lab sp i mv[k]=l
   ·obtain ⟨c1,c2⟩:=hc;have hl0:decide ((l.length:Int) > 0)=true:=by
     cases l with
     | nil=>exact (c1 rfl).elim
     | cons y ys=>simp
    rw [hl0,ct_,ob_,Mk om_,ob_,ob_,c2,Ax.2 rfl,show (Wq 0 == 0)=true from rfl,ct_,hq,ob_,hi,ob_,Ai,gE_ hlt,ob_,hx,ob_,ob_];obtain ⟨b,e2,l2,q2⟩:=Ha h hq hi n (k + 1) (a.set mv[k].toNat true) om_ om_ (by simpa using ha);refine ⟨b,e2,by rw [l2];simp,λy=>?_⟩;rw [q2,Wx r1 om_,hd];constructor
    ·rintro ((rfl | h1) | ⟨h1,h2⟩)
     ·exact .inr ⟨List.mem_cons_self ..,c1,c2⟩
     ·exact .inl h1
     ·exact .inr ⟨List.mem_cons_of_mem _ h1,h2⟩
    ·rintro (h1 | ⟨h1,h2⟩)
     ·exact .inl (.inr h1)
     ·rcases GK.1 h1 with rfl | h1
      ·exact .inl (.inl rfl)
      ·exact .inr ⟨h1,h2⟩
   ·have ht:(bif (decide ((l.length:Int) > 0)) then (some (lab sp i mv[k])).bind λx9=>(m77 FF x9 l).bind λx10=>some (x10 == 0) else some false)=some false:=by
     cases hl:l with
     | nil=>rfl
     | cons y ys=>
      rw [show decide ((((y :: ys).length:Nat):Int) > 0)=true by simp,ct_,ob_,Mk om_,ob_];congr 1;have:lab sp i mv[k]≠y :: ys:=λe=>hc ⟨by rw [hl];simp,by rw [e,hl]⟩;simp only [beq_eq_false_iff_ne,ne_eq,Xq,Ax];exact this
    rw [ht,ob_,cf_,ob_];obtain ⟨b,e2,l2,q2⟩:=Ha h hq hi n (k + 1) a om_ om_ ha;refine ⟨b,e2,l2,λy=>?_⟩;rw [q2,hd];constructor
    ·rintro (h1 | ⟨h1,h2⟩)
     ·exact .inl h1
     ·exact .inr ⟨List.mem_cons_of_mem _ h1,h2⟩
    ·rintro (h1 | ⟨h1,h2⟩)
     ·exact .inl h1
     ·rcases GK.1 h1 with rfl | h1
      ·exact (hc h2).elim
      ·exact .inr ⟨h1,h2⟩
  ·obtain rfl:k=mv.length:=by omega
   rw [Aj,df_ om_,cf_];exact ⟨a,rfl,rfl,λy=>by rw [HP];simp⟩
theorem Na (h:Sq c sp) {front:L6} {l:List Ab} (hf:∀ i∈front,0<=i/\i < sp.States.length) (hfl:front.length<=10000):∀ (n k:Nat) (a:L7),k<=front.length->front.length - k < n->a.length=sp.States.length ->
  ∃ b,Un FF sp front l n ((k:Int),a)=some ((front.length:Int),b)/\b.length=a.length/\∀ y,mkd b y↔mkd a y\/Bh sp (front.drop k) l y
 | 0,_,_,_,h,_=>by omega
 | n + 1,k,a,hk,hn,ha=>by
  have hml:=h.ml;have hle:=h.le;rw [Un];dsimp only;by_cases hlt:k < front.length
  ·obtain ⟨r1,r2⟩:=hf front[k] (GF _);have hg:sp.Moves[front[k].toNat]?=some (sp.Moves[front[k].toNat]'om_):=gE_ om_;generalize sp.Moves[front[k].toNat]'om_=mv at hg;have hfk:front[k]=((front[k].toNat:Nat):Int):=by omega
   have hi:idx sp.Moves front[k]=some mv:=by rw [hfk,Ai];exact hg
   have h85:=Sr h hg;rw [← hfk] at h85;have hq:idx front (k:Int)=some front[k]:=by rw [Ai,gE_ hlt]
   obtain ⟨h22,_⟩:=h.rows mv (Aw hi);obtain ⟨b1,e1,l1,q1⟩:=Ha (z:=((k:Int),a)) (l:=l) h hq hi FF 0 a om_ uF ha;have e1:Um FF sp front l ((k:Int),a) (mv.map (lab sp front[k])) FF ((0:Int),a)=some ((mv.length:Int),b1):=e1;rw [Aj,dt_ hlt,ct_,hq,ob_,h85,ob_,e1,ob_,Am om_];obtain ⟨b2,e2,l2,q2⟩:=Na h hf hfl n (k + 1) b1 om_ om_ (l1.trans ha);refine ⟨b2,e2,l2.trans l1,λy=>?_⟩;rw [q2,q1,GL,GG hlt];constructor
   ·rintro ((h1 | ⟨h1,h2⟩) | ⟨i,h1,h2⟩)
    ·exact .inl h1
    ·exact .inr ⟨_,GO ..,mv,hi,h1,h2⟩
    ·exact .inr ⟨i,GR _ h1,h2⟩
   ·rintro (h1 | ⟨i,h1,mv',h2,h3⟩)
    ·exact .inl (.inl h1)
    ·rcases GK.1 h1 with rfl | h1
     ·rw [hi] at h2;obtain rfl:=Option.some.inj h2;exact .inl (.inr h3)
     ·exact .inr ⟨i,h1,mv',h2,h3⟩
  ·obtain rfl:k=front.length:=by omega
   rw [Aj,df_ om_,cf_];refine ⟨a,rfl,rfl,λy=>⟨.inl,λe=>e.elim id ?_⟩⟩;rw [HP];rintro ⟨i,h1,_⟩;simp at h1
def bF (sp:Space) (front:L6) (l:List Ab):L6:=(m84 FF sp front l).getD []
theorem Qk (h:Sq c sp) {front:L6} {l:List Ab} (hf:∀ i∈front,0<=i/\i < sp.States.length) (hfl:front.length<=10000):m84 FF sp front l=some (bF sp front l)/\Cs (bF sp front l) (Sc sp (Bh sp front l)):=by
 have hle:=h.le;obtain ⟨b,e1,l1,q1⟩:=Na (l:=l) h hf hfl FF 0 (List.replicate sp.States.length false) om_ uF smp_;obtain ⟨r,b2,e2,hr⟩:=Wd (a:=b) h (by rw [l1];simp);have e1:Un FF sp front l FF ((0:Int),List.replicate sp.States.length false)=some ((front.length:Int),b):=e1;have e3:m84 FF sp front l=some r:=by
  unfold m84;rw [Eq om_,ob_,e1,ob_,e2];rfl
 have hz:bF sp front l=r:=by unfold bF;rw [e3];rfl
 rw [hz];refine ⟨e3,hr.iff λi=>Sc.iff (λj=>?_) i⟩;rw [q1,GL];exact ⟨λe=>e.elim (λe=>(BF e).elim) id,.inr⟩
end
end Go.Pn
namespace Go.Pn
open Go
section
variable {c:Aa} {sp:Space}
theorem Rs (h:Sq c sp) {i:Int} (h0:0<=i) (h1:i < sp.States.length):∃ mv,idx sp.Moves i=some mv/\sp.Moves[i.toNat]?=some mv/\True/\mv.length<=22/\∀ k∈mv,0<=k/\k < sp.States.length:=by
 have hml:=h.ml;have hg:sp.Moves[i.toNat]?=some (sp.Moves[i.toNat]'om_):=gE_ om_;generalize sp.Moves[i.toNat]'om_=mv at hg;have hi:i=((i.toNat:Nat):Int):=by omega
 obtain ⟨h22,hr⟩:=h.rows mv (GM hg);refine ⟨mv,by rw [hi,Ai];exact hg,hg,trivial,h22,hr⟩
end
end Go.Pn
namespace Go.Pn
open Go Go.Sort Go.Proofs
section
variable {c:Aa} {sp:Space}
def F6 (sp:Space) (front:L6) (x:List Ab):Prop:=∃ i∈front,∃ mv,idx sp.Moves i=some mv/\∃ j∈mv,x=lab sp i j/\x≠[]
theorem F6.sb (h:Sq c sp) {front:L6} (hf:∀ i∈front,0<=i/\i < sp.States.length) {x:List Ab} (hx:F6 sp front x):(∀ s∈x,Sb_ s)/\x.length<=6:=by
 obtain ⟨i,hi,mv,_,j,_,rfl,_⟩:=hx;exact Pv h (hf i hi).1 (hf i hi).2
theorem Nl {z1:Int×List (List Ab)} {x4:Int} {x5:List (List Ab)} {z6:Int×List (List Ab)} {x:List Ab} (hx:idx x5 z6.1=some x) (hl:∀ y∈z6.2,y.length<=10000) (hll:z6.2.length<=1000000):∀ (n p:Nat),p<=z6.2.length->z6.2.length - p < n->(∀ j (h:j < z6.2.length),j < p->lL z6.2[j] x) ->
  ∃ q:Nat,Us FF z1 x4 x5 z6 n (p:Int)=some (q:Int)/\q<=z6.2.length/\(∀ j (h:j < z6.2.length),j < q->lL z6.2[j] x)/\∀ h:q < z6.2.length,¬ lL z6.2[q] x
 | 0,_,_,h,_=>by omega
 | n + 1,p,hp,hn,hb=>by
  rw [Us];by_cases hlt:p < z6.2.length
  ·rw [Aj,dt_ hlt,ct_,Ai,gE_ hlt,ob_,hx,ob_,Mk (hl _ (GF _)),ob_,ob_];by_cases hc:lL z6.2[p] x
   ·have:decide (Wq (lcs z6.2[p] x) < 0)=true:=dt_ (A5.2 hc);rw [this,ct_,Am om_];refine Nl hx hl hll n (p + 1) om_ om_ λj h1 h2=>?_;rcases JR (JU h2) with h3 | rfl
    ·exact hb j h1 h3
    ·exact hc
   ·have:decide (Wq (lcs z6.2[p] x) < 0)=false:=df_ λe=>hc (A5.1 e);rw [this,cf_];exact ⟨p,rfl,hp,hb,λ_=>hc⟩
  ·rw [Aj,df_ hlt,cf_,ob_,cf_];exact ⟨p,rfl,hp,hb,λh=>(hlt h).elim⟩
theorem ins_pw {out:List (List Ab)} {x:List Ab} {q:Nat} (ho:out.Pairwise lL) (hq:q<=out.length) (hb:∀ j (h:j < out.length),j < q->lL out[j] x) (hn:∀ h:q < out.length,¬ lL out[q] x/\out[q]≠x):(out.take q ++ (x :: out.drop q)).Pairwise lL:=by
 have h1:∀ y∈out.drop q,lL x y:=λy hy=>by
  obtain ⟨j,hj⟩:=KE hy;rw [JV] at hj;obtain ⟨hl,rfl⟩:=GE.1 hj;obtain ⟨n1,n2⟩:=hn om_;have h2:lL x out[q]:=by
   rcases Mf.tot out[q] x with e | e | e
   ·exact (n2 e).elim
   ·exact (n1 e).elim
   ·exact e
  rcases KN j with rfl | hj0
  ·exact h2
  ·exact Mf.tr _ _ _ h2 (JX.1 ho q (q + j) om_ hl om_)
 have h2:∀ y∈out.take q,lL y x:=λy hy=>by
  obtain ⟨j,hj⟩:=KE hy;rw [JK] at hj;split at hj
  ·obtain ⟨hl,rfl⟩:=GE.1 hj;exact hb j hl om_
  ·cases hj
 refine KW.2 ⟨ho.sublist (List.take_sublist ..),HM.2 ⟨h1,ho.sublist (List.drop_sublist ..)⟩,λa ha b hb'=>?_⟩;rcases GK.1 hb' with rfl | hb'
 ·exact h2 a ha
 ·exact Mf.tr _ _ _ (h2 a ha) (h1 b hb')
end
end Go.Pn
namespace Go.Pn
open Go Go.Sort Go.Proofs
section
variable {c:Aa} {sp:Space}
theorem Te {α:Type} {xs:List α} {q:Nat} (h:q<=xs.length):lsl xs 0 (q:Int)=some (xs.take q):=by
 unfold lsl;rw [if_pos ⟨by omega,by omega,by omega⟩];simp
theorem Yz {α:Type} {xs:List α} {q:Nat} (h:q<=xs.length):lsl xs (q:Int) (xs.length:Int)=some (xs.drop q):=by
 unfold lsl;rw [if_pos ⟨by omega,by omega,by omega⟩,G1,G1,HG smp_]
theorem Hb {z1:Int×List (List Ab)} {x4:Int} {i:Int} {mv:L6} (hm:mv.length<=1000) (hL:∀ j∈mv,(lab sp i j).length<=6):∀ (n k:Nat) (out:List (List Ab)),k<=mv.length->mv.length - k < n->out.length + (mv.length - k)<=90000->out.Pairwise lL->(∀ y∈out,y.length<=6) ->
  ∃ o,Nm FF z1 x4 (mv.map (lab sp i)) n ((k:Int),out)=some ((mv.length:Int),o)/\o.length<=out.length + (mv.length - k)/\o.Pairwise lL/\(∀ y∈o,y.length<=6)/\∀ y,y∈o↔y∈out\/∃ j∈mv.drop k,y=lab sp i j/\y≠[]
 | 0,_,_,_,h,_,_,_=>by omega
 | n + 1,k,out,hk,hn,ho,hpw,hlen=>by
  rw [Nm];dsimp only;rw [JJ];by_cases hlt:k < mv.length
  ·have hlk:(mv.map (lab sp i))[k]?=some (lab sp i mv[k]):=by rw [GW,gE_ hlt];rfl
   have hd:mv.drop k=mv[k] :: mv.drop (k + 1):=GG hlt;rw [Aj,dt_ hlt,ct_,Am om_,Ai,hlk,ob_];by_cases hc:lab sp i mv[k]=[]
   ·obtain ⟨o,e3,l3,p3,b3,q3⟩:=Hb (z1:=z1) (x4:=x4) hm hL n (k + 1) out om_ om_ om_ hpw hlen;rw [hc,show (((([]:List Ab).length:Int)) == 0)=true from rfl,ct_];refine ⟨o,e3,by omega,p3,b3,λy=>?_⟩;rw [q3,hd];constructor
    ·rintro (h1 | ⟨j,h1,h2⟩)
     ·exact .inl h1
     ·exact .inr ⟨j,GR _ h1,h2⟩
    ·rintro (h1 | ⟨j,h1,h2,h3⟩)
     ·exact .inl h1
     ·rcases GK.1 h1 with rfl | h1
      ·exact (h3 (h2.trans hc)).elim
      ·exact .inr ⟨j,h1,h2,h3⟩
   ·have hl0:(((lab sp i mv[k]).length:Int) == 0)=false:=by
     cases hq:lab sp i mv[k] with
     | nil=>exact (hc hq).elim
     | cons y ys=>simp;omega
    have h6:(lab sp i mv[k]).length<=6:=hL _ (GF _);generalize hx:lab sp i mv[k]=x at hl0 hlk hc h6;obtain ⟨q,e1,hq,hb,hnl⟩:=Nl (z1:=z1) (x4:=x4) (x5:=mv.map (lab sp i)) (z6:=((k:Int),out)) (x:=x) (by rw [Ai];exact hlk) (λy hy=>by have:=hlen y hy;omega) (by show out.length<=_;omega) FF 0 om_ (by show out.length - 0 < _;unfold FF;omega) (λj _ h=>by omega);have e1:Us FF z1 x4 (mv.map (lab sp i)) ((k:Int),out) FF (0:Int)=some (q:Int):=e1;have hq:q<=out.length:=hq;rw [hl0,cf_,e1,ob_];have goon:∀ (o1:List (List Ab)),o1.Pairwise lL->o1.length<=out.length + 1->(∀ y,y∈o1↔y∈out\/y=x)->∃ o,Nm FF z1 x4 (mv.map (lab sp i)) n (((k + 1:Nat):Int),o1)=some ((mv.length:Int),o)/\o.length<=out.length + (mv.length - k)/\o.Pairwise lL/\(∀ y∈o,y.length<=6)/\∀ y,y∈o↔y∈out\/∃ j∈mv.drop k,y=lab sp i j/\y≠[]:=by
     intro o1 p1 l1 q1;obtain ⟨o,e3,l3,p3,b3,q3⟩:=Hb (z1:=z1) (x4:=x4) hm hL n (k + 1) o1 om_ om_ om_ p1 (λy hy=>by
      rcases (q1 y).1 hy with h1 | rfl
      ·exact hlen y h1
      ·exact h6)
     refine ⟨o,e3,by omega,p3,b3,λy=>?_⟩;rw [q3,q1,hd];constructor
     ·rintro ((h1 | rfl) | ⟨j,h1,h2⟩)
      ·exact .inl h1
      ·exact .inr ⟨_,GO ..,hx.symm,hc⟩
      ·exact .inr ⟨j,GR _ h1,h2⟩
     ·rintro (h1 | ⟨j,h1,h2,h3⟩)
      ·exact .inl (.inl h1)
      ·rcases GK.1 h1 with rfl | h1
       ·exact .inl (.inr (h2.trans hx))
       ·exact .inr ⟨j,h1,h2,h3⟩
    have hnew:(q=out.length\/∃ h:q < out.length,out[q]≠x)->(out.take q ++ (x :: out.drop q)).Pairwise lL/\∀ y,y∈out.take q ++ (x :: out.drop q)↔y∈out\/y=x:=by
     intro hcase;refine ⟨ins_pw hpw hq hb λh=>⟨hnl h,?_⟩,λy=>?_⟩
     ·rcases hcase with rfl | ⟨_,h1⟩
      ·omega
      ·exact h1
     ·have:y∈out↔y∈out.take q\/y∈out.drop q:=by rw [← GN,LP]
      rw [GN,GK,this];constructor
      ·rintro (h1 | rfl | h1)
       ·exact .inl (.inl h1)
       ·exact .inr rfl
       ·exact .inl (.inr h1)
      ·rintro ((h1 | h1) | rfl)
       ·exact .inl h1
       ·exact .inr (.inr h1)
       ·exact .inr (.inl rfl)
    have put:(bif true then (lsl out 0 (q:Int)).bind λx20=>(some x).bind λx21=>(lsl out (q:Int) (out.length:Int)).bind λx23=>(app ([x21]:List (List Ab)) x23).bind λx24=>(appn x20 x24).bind λx26=>some x26 else some out)=some (out.take q ++ (x :: out.drop q)):=by
     rw [ct_,Te hq,ob_,ob_,Yz hq,ob_,Ar so_,ob_];show (app _ _).bind _=_;rw [Ar so_];rfl
    by_cases hql:q=out.length
    ·rw [show ((q:Int) == (out.length:Int))=true by rw [hql];simp,ct_,ob_,put,ob_];obtain ⟨h1,h2⟩:=hnew (.inl hql);exact goon _ h1 so_ h2
    ·have hqlt:q < out.length:=by omega
     rw [show ((q:Int) == (out.length:Int))=false by simp;omega,cf_,Ai,gE_ hqlt,ob_,ob_,Mk (by have:=hlen _ (GF hqlt);omega),ob_,ob_];by_cases he:out[q]=x
     ·rw [show (Wq (lcs out[q] x) != 0)=false by rw [he,Ax.2 rfl];rfl,cf_,ob_];exact goon out hpw om_ λy=>⟨.inl,λe=>e.elim id λe=>by rw [e,← he];exact GF hqlt⟩
     ·have:(Wq (lcs out[q] x) != 0)=true:=by
       rw [bne_iff_ne];intro e;rw [Xq,Ax] at e;exact he e
      rw [this,put,ob_];obtain ⟨h1,h2⟩:=hnew (.inr ⟨hqlt,he⟩);exact goon _ h1 so_ h2
  ·obtain rfl:k=mv.length:=by omega
   rw [Aj,df_ om_,cf_];exact ⟨out,rfl,by omega,hpw,hlen,λy=>by rw [HP];simp⟩
theorem Nn (h:Sq c sp) {front:L6} (hf:∀ i∈front,0<=i/\i < sp.States.length) (hfl:front.length<=400):∀ (n k:Nat) (out:List (List Ab)),k<=front.length->front.length - k < n->out.length<=22 * k->out.Pairwise lL->(∀ y∈out,y.length<=6) ->
  ∃ o,Ut FF sp front n ((k:Int),out)=some ((front.length:Int),o)/\o.Pairwise lL/\∀ y,y∈o↔y∈out\/F6 sp (front.drop k) y
 | 0,_,_,_,h,_,_,_=>by omega
 | n + 1,k,out,hk,hn,ho,hpw,hlen=>by
  rw [Ut];dsimp only;by_cases hlt:k < front.length
  ·obtain ⟨r1,r2⟩:=hf front[k] (GF _);obtain ⟨mv,m1,m2,m3,m4,m5⟩:=Rs h r1 r2;have h85:=Sr h m2;rw [show ((front[k].toNat:Nat):Int)=front[k] by omega] at h85;obtain ⟨o1,e1,l1,p1,b1,q1⟩:=Hb (sp:=sp) (z1:=((k:Int),out)) (x4:=front[k]) (i:=front[k]) (mv:=mv) om_ (λj hj=>(Pv h r1 r2).2) FF 0 out om_ uF om_ hpw hlen;have e1:Nm FF ((k:Int),out) front[k] (mv.map (lab sp front[k])) FF ((0:Int),out)=some ((mv.length:Int),o1):=e1;obtain ⟨o2,e2,p2,q2⟩:=Nn h hf hfl n (k + 1) o1 om_ om_ om_ p1 b1;rw [Aj,dt_ hlt,ct_,Ai,gE_ hlt,ob_,h85,ob_,e1,ob_,Am om_];refine ⟨o2,e2,p2,λy=>?_⟩;rw [q2,q1,GL,GG hlt];constructor
   ·rintro ((h1 | ⟨j,h1,h2⟩) | ⟨i,h1,h2⟩)
    ·exact .inl h1
    ·exact .inr ⟨_,GO ..,mv,m1,j,h1,h2⟩
    ·exact .inr ⟨i,GR _ h1,h2⟩
   ·rintro (h1 | ⟨i,h1,mv',h2,h3⟩)
    ·exact .inl (.inl h1)
    ·rcases GK.1 h1 with rfl | h1
     ·rw [m1] at h2;obtain rfl:=Option.some.inj h2;exact .inl (.inr h3)
     ·exact .inr ⟨i,h1,mv',h2,h3⟩
  ·obtain rfl:k=front.length:=by omega
   rw [Aj,df_ om_,cf_];refine ⟨out,rfl,hpw,λy=>⟨.inl,λe=>e.elim id ?_⟩⟩;rw [HP];rintro ⟨i,h1,_⟩;simp at h1
def nF (sp:Space) (front:L6):List (List Ab):=(m54 FF sp front).getD []
theorem My (h:Sq c sp) {front:L6} (hf:∀ i∈front,0<=i/\i < sp.States.length) (hfl:front.length<=400):m54 FF sp front=some (nF sp front)/\(nF sp front).Pairwise lL/\∀ x,x∈nF sp front↔F6 sp front x:=by
 obtain ⟨o,e1,p1,q1⟩:=Nn h hf hfl FF 0 [] om_ uF smp_ .nil smp_;have e1:Ut FF sp front FF ((0:Int),[])=some ((front.length:Int),o):=e1;have e2:m54 FF sp front=some o:=by
  unfold m54;rw [e1];rfl
 have hz:nF sp front=o:=by unfold nF;rw [e2];rfl
 rw [hz];exact ⟨e2,p1,λx=>by rw [q1,GL];simp⟩
end
end Go.Pn
namespace Go.Pn
section
variable {L S:Type} {lt:L->L->Prop} {nx:S->List L} {st:S->L->S} {bad:S->Bool} {s0:S}
end
section
variable {L A B:Type} {lt:L->L->Prop} {na:A->List L} {nb:B->List L} {sa:A->L->A} {sb:B->L->B} {ea:A->Bool} {eb:B->Bool}
def Sd_ (na:A->List L) (sa:A->L->A) (ea:A->Bool):Prop:=∀ s a,a∈na s↔ea (sa s a)=false
@[reducible] def bdU_ (ea:A->Bool) (eb:B->Bool):A×B->Bool:=λs=>ea s.1 || eb s.2
variable {nu:A×B->List L}
section
variable {s0:A×B} (h0:Ord_ lt) (hA:Sd_ na sa ea) (hB:Sd_ nb sb eb) (hu:∀ s a,a∈nu s↔a∈na s.1\/a∈nb s.2) (hs:bdU_ ea eb s0=false)
include hA hB hu hs
include h0
omit h0
end
end
section
variable {L S:Type} {lt:L->L->Prop} {nx:S->List L} {st:S->L->S} {bad:S->Bool} {s0:S} {l l':List S} {tr tr':List (List L)} {i i':Nat} {done done':List L} {nx':S->List L} {bad':S->Bool}
end
end Go.Pn
namespace Go.Pn
open Go Go.Sort Go.Proofs
structure Fr_ (sp:Space) (l:L6):Prop where
 pw:l.Pairwise (· < ·)
 rg:∀ i∈l,0<=i/\i < sp.States.length
section
variable {c:Aa} {sp:Space}
theorem Fr_.len (h:Sq c sp) {l:L6} (k:Fr_ sp l):l.length<=400:=by
 have h1:l.Nodup:=k.pw.imp λhab e=>by omega
 have:=Gb sp.States.length h1 k.rg;have:=h.le;omega
theorem Cs.fr (h:Sq c sp) {l:L6} {S:Int->Prop} (hS:∀ i,S i->0<=i/\i < sp.States.length) (k:Cs l (Sc sp S)):Fr_ sp l:=⟨k.1,λi hi=>Sc.rng h hS ((k.2 i).1 hi)⟩
theorem zF_fr (h:Sq c sp):Fr_ sp (zF sp):=Cs.fr h (λi hi=>by have:=h.pos;subst hi;omega) (Gv h).2.2
theorem bF_fr (h:Sq c sp) {l:L6} (k:Fr_ sp l) (a:List Ab):Fr_ sp (bF sp l a):=Cs.fr h (λ_ hi=>hi.rng h) (Qk (l:=a) h k.rg (by have:=k.len h;omega)).2
def FrT (sp:Space):Type:={l:L6 // Fr_ sp l}
def zT (h:Sq c sp):FrT sp:=⟨zF sp,zF_fr h⟩
def bT (h:Sq c sp) (s:FrT sp) (a:List Ab):FrT sp:=⟨bF sp s.1 a,bF_fr h s.2 a⟩
def nT (s:FrT sp):List (List Ab):=nF sp s.1
def eT (s:FrT sp):Bool:=s.1.isEmpty
theorem zT_ne (h:Sq c sp):eT (zT h)=false:=by
 have:(0:Int)∈zF sp:=((Gv h).2.2.2 0).2 (.base rfl);show (zF sp).isEmpty=false;cases hz:zF sp with
 | nil=>rw [hz] at this;simp at this
 | cons y ys=>rfl
theorem sd_T (h:Sq c sp):Sd_ (nT (sp:=sp)) (bT h) eT:=by
 intro s a;have h1:=(My h s.2.rg (s.2.len h)).2.2 a;have h2:=(Qk (l:=a) h s.2.rg (by have:=s.2.len h;omega)).2;have h3:F6 sp s.1 a↔∃ j,Bh sp s.1 a j:=by
  constructor
  ·rintro ⟨i,hi,mv,hm,j,hj,rfl,hne⟩;exact ⟨j,i,hi,mv,hm,hj,hne,rfl⟩
  ·rintro ⟨j,i,hi,mv,hm,hj,hne,rfl⟩;exact ⟨i,hi,mv,hm,j,hj,rfl,hne⟩
 show a∈nF sp s.1↔(bF sp s.1 a).isEmpty=false;rw [h1,h3];constructor
 ·rintro ⟨j,hj⟩;have:j∈bF sp s.1 a:=(h2.2 j).2 (.base hj);cases hz:bF sp s.1 a with
  | nil=>rw [hz] at this;simp at this
  | cons y ys=>rfl
 ·intro he;cases hz:bF sp s.1 a with
  | nil=>rw [hz] at he;cases he
  | cons y ys=>
   have hy:Sc sp (Bh sp s.1 a) y:=(h2.2 y).1 (by rw [hz];exact GO ..);clear hz he
   induction hy with
   | base h4=>exact ⟨_,h4⟩
   | step _ _ _ _ ih=>exact ih
theorem nT_sb (h:Sq c sp) {s:FrT sp} {a:List Ab} (ha:a∈nT s):(∀ x∈a,Sb_ x)/\a.length<=6:=((My h s.2.rg (s.2.len h)).2.2 a |>.1 ha).sb h s.2.rg
end
section
variable {c d:Aa} {sa sb:Space}
end
end Go.Pn
namespace Go.Pn
open Go Go.Sort Go.Proofs
section
variable {c d:Aa} {sa sb:Space}
theorem Zn:∀ l:List (List Ab),(Co l).length<=l.length
 | []=>GS _
 | [_]=>GS _
 | a :: b :: l=>by
  have:=Zn (b :: l);rw [Ld];split
  ·simp at this ⊢;omega
  ·simp at this ⊢;omega
end
end Go.Pn
namespace Go.Pn
open Go Go.Sort Go.Proofs
section
variable {c d:Aa} {sa sb:Space}
def emT (sp:Space):FrT sp:=⟨[],.nil,by simp⟩
theorem eT_em {s:FrT sa} (h:eT s=true):s=emT sa:=by
 obtain ⟨l,hl⟩:=s;have h:l.isEmpty=true:=h;cases l with
 | nil=>rfl
 | cons y ys=>cases h
end
end Go.Pn
namespace Go.Pn
open Go Go.Sort Go.Proofs
theorem nbb {e:Int} (h:e≠0):(e != 0)=true:=by simpa using h
theorem m36_tot {c:Aa} {held:L7} (hb:m35 FF c held=some true) {most:Nat} (h1:1<=most) (h2:most<=16384):∃ r,m36 FF c held (most:Int)=some r:=by
 obtain ⟨b,hb',h⟩:=Sw c held;rw [hb] at hb';obtain rfl:=Option.some.inj hb';obtain ⟨hw,hs,hl,hne⟩:=h rfl;unfold m36;rcases Tq hw hs held with ⟨e,he,h3,h4,h5⟩ | ⟨hc,hll,h3,h4,h5⟩
 ·rw [h4,ob_];dsimp only;rw [nbb he,ct_];exact ⟨_,rfl⟩
 ·rw [h4,ob_];try dsimp only
  by_cases h0:(Gl c held).2=0
  ·obtain ⟨hf,hq⟩:=h5 h0;have hA:Al c [(Gl c held).1]:=λt ht=>by
    obtain rfl:t=_:=by simpa using ht
    exact ⟨hf,hq⟩
   have hx:=Dy hc.rt (most:=most) h2 FF 0 [(Gl c held).1] [] hA so_ smp_ uF rfl;rw [n0] at hx;rw [h0,zf_,cf_];cases he:Ry c most FF 0 [(Gl c held).1] [] with
   | inl e=>
    rw [he] at hx;rw [hx];exact ⟨_,rfl⟩
   | inr sp=>
    rw [he] at hx;obtain ⟨z,hx⟩:=hx;rw [hx];exact ⟨_,rfl⟩
  ·rw [nbb h0,ct_];exact ⟨_,rfl⟩
theorem m9_spec (c:Aa) (held:L7):∃ b,m9 FF c held=some b/\(b=true->m35 FF c held=some true):=by
 obtain ⟨b,hb,_⟩:=Sw c held;unfold m9;cases b with
 | false=>
  rw [hb,ob_];exact ⟨false,rfl,λe=>by cases e⟩
 | true=>
  obtain ⟨r,hr⟩:=m36_tot hb (most:=50) om_ om_;refine ⟨r.2 != 12,?_,λ_=>hb⟩;rw [hb,ob_,nt_,cf_,show (50:Int)=((50:Nat):Int) from rfl,hr];rfl
theorem EZ {c:Aa} {held:L7} (hb:m35 FF c held=some true):(∃ e,e≠0/\m30 FF c held=some (zsp,e)/\m44 FF c held=some (zsp,e))\/(∃ sp,Sq c sp/\(∃ s0,Sp_ c s0 sp)/\m30 FF c held=some (sp,0)/\m44 FF c held=some (sp,0)):=by
 rcases E3 hb with ⟨e,he,h1,h2⟩ | ⟨sp,hc,hhl,h1,h2,h3,h4,h5,h6⟩ | ⟨hc,hhl,h0,e,h3,h1,h2⟩
 ·exact .inl ⟨e,he,h1,h2⟩
 ·have hS:=expF_sp hc.rt.bd h5 h6 h3;exact .inr ⟨sp,hS.sq hc.rt.bd,⟨_,hS⟩,h1,h2⟩
 ·by_cases he:e=0
  ·subst he;exact absurd h3 (exp_ne trivial)
  ·exact .inl ⟨e,he,h1,h2⟩
end Go.Pn
namespace Go.Pn
open Go Go.Sort Go.Proofs
theorem Wm (x y:Ab):DC x y=(x == y):=by
 rw [HU,beq_iff_eq];obtain ⟨a,b⟩:=x;obtain ⟨c,d⟩:=y;simp [DC]
theorem Oo {a b:List (List Ab)} (hl:a.length=b.length) (ha:a.length<=90000) (hx:∀ x∈a,x.length<=90000):∀ (n i:Nat),i<=a.length->a.length - i < n ->
  Vx FF a b n (i:Int)=if a.drop i=b.drop i then some (.brk (a.length:Int)) else some (.ret false)
 | 0,i,_,h=>by omega
 | n + 1,i,hi,hn=>by
  rw [Vx];by_cases hlt:i < a.length
  ·have hlt2:i < b.length:=by omega
   have da:=GG hlt;have db:=GG hlt2;have hxl:=hx _ (GF hlt);rw [Aj,dt_ hlt,ct_,Ai,gE_ hlt,ob_,Ai,gE_ hlt2,ob_,da,db];have ia:idx a (i:Int)=some a[i]:=by rw [Ai,gE_ hlt]
   have ib:idx b (i:Int)=some b[i]:=by rw [Ai,gE_ hlt2]
   generalize a[i]=x at *;generalize b[i]=y at *;by_cases hxy:x.length=y.length
   ·rw [show ((x.length:Int) != (y.length:Int))=false by rw [hxy];simp,cf_];have e1:=eqls (L:=Vw a b (i:Int)) (xs:=x) (ys:=y) (λn z=>by
     rw [Vw,ia,ob_];cases decide (z < (x.length:Int)) with
     | false=>rfl
     | true=>
      rw [ct_,ct_,ob_,ib];cases idx x z with
      | none=>rfl
      | some u=>
       rw [ob_,ob_,ob_];cases idx y z with
       | none=>rfl
       | some v=>
        rw [ob_,ob_,Wm];rfl) om_ hxy FF 0 om_ uF
    rw [n0,GL,GL] at e1;rw [e1];by_cases he:x=y
    ·rw [if_pos (by simpa using he),ob_];dsimp only;rw [Am om_,Oo hl ha hx n (i + 1) om_ om_,he];simp
    ·rw [if_neg (by simpa using he),if_neg λe=>he (List.cons.inj e).1];rfl
   ·rw [show ((x.length:Int) != (y.length:Int))=true by simp;omega,ct_,if_neg λe=>hxy (by rw [(List.cons.inj e).1])]
  ·obtain rfl:i=a.length:=by omega
   rw [Aj,df_ om_,cf_,HP,if_pos (by rw [hl,HP])]
theorem Yv {a b:List (List Ab)} (ha:a.length<=90000) (hx:∀ x∈a,x.length<=90000):m15 FF a b=some (decide (a=b)):=by
 unfold m15;by_cases hl:a.length=b.length
 ·rw [show ((a.length:Int) != (b.length:Int))=false by rw [hl];simp,cf_];have:=Oo hl ha hx FF 0 om_ uF;rw [n0,GL,GL] at this;rw [this];by_cases he:a=b
  ·rw [if_pos he,dt_ he];rfl
  ·rw [if_neg he,df_ he];rfl
 ·rw [show ((a.length:Int) != (b.length:Int))=true by simp;omega,ct_,df_ λe=>hl (by rw [e])]
end Go.Pn
namespace Go.Pn
open Go Go.Sort Go.Proofs
theorem awkF:m10 100000=some true:=by kernel_rfl
end Go.Pn
namespace Go.Pn
open Go Go.Sort Go.Proofs
section
variable {c d:Aa} {sa sb:Space}
theorem bT_em (h:Sq c sa) {s:FrT sa} {a:List Ab} (he:eT s=true):eT (bT h s a)=true:=by
 cases hq:eT (bT h s a) with
 | true=>rfl
 | false=>
  have h1:=(sd_T h s a).2 hq;rw [eT_em he] at h1;obtain ⟨i,hi,_⟩:=((My h (emT sa).2.rg ((emT sa).2.len h)).2.2 a).1 h1;exact absurd hi (by show ¬ i∈([]:L6);simp)
theorem DA (h:Sq c sa):∀ (l:List (List Ab)) {s:FrT sa},eT s=true->eT (l.foldl (bT h) s)=true
 | [],_,he=>he
 | _ :: l,_,he=>DA h l (bT_em h he)
end
end Go.Pn
namespace Go.Pn
open Go Go.Sort Go.Proofs
def Wt (sp:Space):Int->L6->List (List Ab)->Prop
 | _,[],t=>t=[]
 | i,k :: p,t=>∃ mv j t',idx sp.Moves i=some mv/\idx mv k=some j/\t=(if lab sp i j=[] then t' else lab sp i j :: t')/\Wt sp j p t'
def Vp_ (sp:Space):Int->L6->Prop
 | _,[]=>True
 | i,k :: p=>∃ mv j,idx sp.Moves i=some mv/\idx mv k=some j/\Vp_ sp j p
theorem Wt.len {sp:Space}:∀ {p:L6} {i:Int} {t:List (List Ab)},Wt sp i p t->t.length<=p.length
 | [],_,t,h=>by
  have h:t=[]:=h;rw [h];simp
 | k :: p,i,t,⟨mv,j,t',_,_,h3,h4⟩=>by
  have:=h4.len;rw [h3];split
  ·simp;omega
  ·simp;omega
section
variable {c:Aa} {sp:Space}
def Tw (sp:Space):List (List (List Ab)):=(List.range sp.Moves.length).map λi:Nat=>(sp.Moves.getD i []).map (lab sp i)
theorem DN:(Tw sp).length=sp.Moves.length:=by simp [Tw]
theorem Xi {i:Nat} {mv:L6} (h:sp.Moves[i]?=some mv):(Tw sp)[i]?=some (mv.map (lab sp i)):=by
 have hi:=(GE.1 h).1;unfold Tw;rw [GW,HR hi,GZ,GU,h];rfl
theorem Nr {i:Nat} {mv:L6} {z:List (List (List Ab))} (h:Sq c sp) (hi:sp.Moves[i]?=some mv):∀ (n k:Nat) (acc:List (List Ab)),k<=mv.length->acc.length<=k->mv.length - k < n ->
  Ux FF (sp,(0:Int)) ((i:Int),z) mv n ((k:Int),acc)=some (.brk ((mv.length:Int),acc ++ (mv.drop k).map (lab sp i)))
 | 0,_,_,_,_,h=>by omega
 | n + 1,k,acc,hk,ha,hn=>by
  have hil:=(GE.1 hi).1;obtain ⟨h22,hr⟩:=h.rows mv (GM hi);rw [Ux];dsimp only;by_cases hlt:k < mv.length
  ·obtain ⟨r1,r2⟩:=hr mv[k] (GF _);obtain ⟨e1,m1⟩:=Px (sp:=sp) (i:=(i:Int)) om_ (by have:=h.ml;omega);obtain ⟨e2,m2⟩:=Px (sp:=sp) r1 r2;rw [Aj,dt_ hlt,ct_,Ai,gE_ hlt,ob_,e1,ob_,e2,ob_,EM h.bd (h.fit _ m1) (h.fit _ m2),ob_];dsimp only;rw [zf_,cf_,Ar so_,ob_,Am om_,Nr h hi n (k + 1) _ om_ so_ om_,GG hlt];rw [GQ,G2];rfl
  ·obtain rfl:k=mv.length:=by omega
   rw [Aj,df_ om_,cf_,HP];simp
theorem Ns (h:Sq c sp):∀ (n i:Nat),i<=sp.Moves.length->sp.Moves.length - i < n ->
  Uy FF (sp,(0:Int)) n ((i:Int),(Tw sp).take i)=some (.brk ((sp.Moves.length:Int),Tw sp))
 | 0,_,_,h=>by omega
 | n + 1,i,hi,hn=>by
  have hml:=h.ml;have hle:=h.le;rw [Uy];dsimp only;by_cases hlt:i < sp.Moves.length
  ·have hg:sp.Moves[i]?=some sp.Moves[i]:=gE_ hlt;obtain ⟨h22,_⟩:=h.rows _ (GM hg);have e1:=Nr (z:=(Tw sp).take i) h hg FF 0 [] om_ smp_ uF;rw [n0,GL,JG] at e1;have e2:=Xi hg;have hs:i < (Tw sp).length:=by rw [DN];exact hlt
   rw [gE_ hs] at e2;have e2:=Option.some.inj e2;rw [Aj,dt_ hlt,ct_,Ai,hg,ob_,e1,ob_];dsimp only;rw [Ar so_,ob_,Am om_,← e2,KG hs];exact Ns h n (i + 1) om_ om_
  ·obtain rfl:i=sp.Moves.length:=by omega
   rw [Aj,df_ om_,cf_,HG (by rw [DN];exact GS _)]
theorem ER {held:L7} (h:Sq c sp) (hx:m30 FF c held=some (sp,0)):m39 FF c held=some (some ⟨sp,Tw sp⟩,0):=by
 have hml:=h.ml;have hle:=h.le;unfold m39;rw [hx,ob_];dsimp only;have:=Ns h FF 0 om_ uF;rw [n0,KP] at this;rw [zf_,cf_,this];rfl
theorem Hr {α:Type} {l:List α} {i:Int} {x:α} (h:idx l i=some x):0<=i/\i < l.length:=by
 unfold idx at h;split at h
 ·have:=(GE.1 h).1;omega
 ·cases h
theorem Nu (h:Sq c sp) {path:L6} (hl:path.length<=1000000000):∀ (n k:Nat) (i:Int),k<=path.length->path.length - k < n->0<=i->i < sp.States.length ->
  Gn sp path n (i,(k:Int))=some (.ret (0,6))\/(∃ z,Gn sp path n (i,(k:Int))=some (.brk z)/\Vp_ sp i (path.drop k))
 | 0,_,_,_,h,_,_=>by omega
 | n + 1,k,i,hk,hn,h0,h1=>by
  rw [Gn];dsimp only;by_cases hlt:k < path.length
  ·obtain ⟨mv,m1,m2,m3,m4,m5⟩:=Rs h h0 h1;rw [Aj,dt_ hlt,ct_,Ai,gE_ hlt,ob_,m1,ob_,ob_,GG hlt];generalize path[k]=x;by_cases hx:x < 0
   ·rw [dt_ hx,ct_,ob_,ct_];exact .inl rfl
   ·rw [df_ hx,cf_,ob_];by_cases hx2:x>=(mv.length:Int)
    ·rw [dt_ hx2,ct_];exact .inl rfl
    ·rw [df_ hx2,cf_];obtain ⟨j,hj,hjm⟩:=Cu (xs:=mv) (i:=x) om_ om_;obtain ⟨j0,j1⟩:=m5 j hjm;rw [hj,ob_,Am om_];rcases Nu h hl n (k + 1) j om_ om_ j0 j1 with e | ⟨z,e,hv⟩
     ·exact .inl e
     ·exact .inr ⟨z,e,mv,j,m1,hj,hv⟩
  ·rw [Aj,df_ hlt,cf_];refine .inr ⟨_,rfl,?_⟩;rw [GT om_];trivial
theorem Hc (h:Sq c sp) {path:L6} (hl:path.length<=1000000000):∀ (n k:Nat) (i:Int) (acc:List (List Ab)),k<=path.length->path.length - k < n->0<=i->i < sp.States.length->Vp_ sp i (path.drop k)->acc.length<=k ->
  ∃ z z' t,Uw FF (some ⟨sp,Tw sp⟩) path n (i,(k:Int),acc)=some (z,z',acc ++ t)/\Wt sp i (path.drop k) t
 | 0,_,_,_,_,h,_,_,_,_=>by omega
 | n + 1,k,i,acc,hk,hn,h0,h1,hv,ha=>by
  rw [Uw];dsimp only;by_cases hlt:k < path.length
  ·rw [GG hlt] at hv ⊢;obtain ⟨mv,j,v1,v2,v3⟩:=hv;have hi:i=((i.toNat:Nat):Int):=by omega
   have v1':sp.Moves[i.toNat]?=some mv:=by rw [hi,Ai] at v1;exact v1
   have hb:idx (Tw sp) i=some (mv.map (lab sp i)):=by
    have:=Xi v1';rw [← hi] at this;rw [hi,Ai,← hi];exact this
   obtain ⟨b0,b1⟩:=Hr v2;have hlb:idx (mv.map (lab sp i)) path[k]=some (lab sp i j):=by
    have e:path[k]=((path[k].toNat:Nat):Int):=by omega
    rw [e,Ai] at v2 ⊢;rw [GW,v2];rfl
   obtain ⟨j0,j1⟩:=(h.rows mv (GM v1')).2 j (Aw v2);rw [Aj,dt_ hlt,ct_,Ai,gE_ hlt,ob_,ob_];dsimp only;rw [hb,ob_,hlb,ob_];by_cases he:lab sp i j=[]
   ·rw [he,show decide ((([]:List Ab).length:Int) > 0)=false from rfl,cf_,ob_,ob_];dsimp only;rw [v1,ob_,v2,ob_,Am om_];obtain ⟨z,z',t,e1,e2⟩:=Hc h hl n (k + 1) j acc om_ om_ j0 j1 v3 om_;exact ⟨z,z',t,e1,mv,j,t,v1,v2,by rw [if_pos he],e2⟩
   ·have hg:decide (((lab sp i j).length:Int) > 0)=true:=by
     cases hq:lab sp i j with
     | nil=>exact (he hq).elim
     | cons y ys=>simp
    obtain ⟨_,l6⟩:=Pv h (i:=i) (to:=j) h0 h1;have h78:m72 FF (lab sp i j)=some (lab sp i j):=by
     unfold m72;rw [Ar so_];rfl
    rw [hg,ct_,h78,ob_,Ar so_,ob_,ob_,ob_];dsimp only;rw [v1,ob_,v2,ob_,Am om_];obtain ⟨z,z',t,e1,e2⟩:=Hc h hl n (k + 1) j (acc ++ [lab sp i j]) om_ om_ j0 j1 v3 so_;refine ⟨z,z',lab sp i j :: t,?_,mv,j,t,v1,v2,by rw [if_neg he],e2⟩;rw [e1,G2];rfl
  ·rw [Aj,df_ hlt,cf_];refine ⟨_,_,[],by rw [HL],?_⟩;rw [GT om_];rfl
def Clo_ (sp:Space) (l:L6):Prop:=∀ i∈l,∀ mv j,idx sp.Moves i=some mv->j∈mv->lab sp i j=[]->j∈l
theorem Cs.clo {l:L6} {S:Int->Prop} (h:Cs l (Sc sp S)):Clo_ sp l:=λi hi mv j h1 h2 h3=>(h.2 j).2 (.step ((h.2 i).1 hi) h1 h2 h3)
theorem Wt.tr (h:Sq c sp):∀ {p:L6} {i:Int} {t:List (List Ab)} {s:FrT sp},Wt sp i p t->i∈s.1->Clo_ sp s.1->Tr nT (bT h) (λ_=>false) s t (t.foldl (bT h) s)/\eT (t.foldl (bT h) s)=false
 | [],i,t,s,hp,hi,_=>by
  have hp:t=[]:=hp;subst hp;refine ⟨rfl,?_⟩;show s.1.isEmpty=false;cases hs:s.1 with
  | nil=>rw [hs] at hi;simp at hi
  | cons y ys=>rfl
 | k :: p,i,t,s,⟨mv,j,t',v1,v2,v3,v4⟩,hi,hc=>by
  by_cases he:lab sp i j=[]
  ·rw [if_pos he] at v3;subst v3;exact v4.tr h (hc i hi mv j v1 (Aw v2) he) hc
  ·rw [if_neg he] at v3;subst v3;obtain ⟨_,hcs⟩:=Qk (l:=lab sp i j) h s.2.rg (by have:=s.2.len h;omega);have hj:j∈(bT h s (lab sp i j)).1:=(hcs.2 j).2 (.base ⟨i,hi,mv,v1,Aw v2,he,rfl⟩);obtain ⟨k1,k2⟩:=v4.tr h (s:=bT h s (lab sp i j)) hj hcs.clo;refine ⟨⟨(sd_T h s _).2 ?_,rfl,k1⟩,k2⟩;show (bT h s (lab sp i j)).1.isEmpty=false;cases hs:(bT h s (lab sp i j)).1 with
   | nil=>rw [hs] at hj;simp at hj
   | cons y ys=>rfl
end
section
variable {c d:Aa} {sa sb:Space}
end
end Go.Pn
namespace Go.Pn
open Go Go.Sort Go.Proofs
theorem EK {f:Nat} (a b:Int):m75 f a b=some (if a < b then -1 else if b < a then 1 else 0):=by
 unfold m75 N7;simp only [bne_self_eq_false,ob_,cf_];by_cases h:a < b
 ·rw [dt_ h,ct_,if_pos h]
 ·rw [df_ h,cf_,if_neg h];by_cases h2:b < a
  ·rw [show decide (a > b)=true from dt_ h2,ct_,if_pos h2]
  ·rw [show decide (a > b)=false from df_ h2,cf_,if_neg h2]
def sdz (a b:Ab):Int:=if sd a b < 0 then -1 else if 0 < sd a b then 1 else 0
theorem Xs {a b:Ab}:sdz a b=0↔sd a b=0:=by unfold sdz; split <;> (try split) <;> omega
theorem EL {f:Nat} (a b:Ab):m74 f a b=some (sdz a b):=by
 obtain ⟨x,p⟩:=a;obtain ⟨y,q⟩:=b;unfold m74;rw [EK,ob_];dsimp only;by_cases h:x=y
 ·subst h;cases p <;> cases q <;> simp [sdz,sd]
 ·have h0:sd ⟨x,p⟩ ⟨y,q⟩=x - y:=by unfold sd;rw [if_neg h]
  unfold sdz;rw [h0];by_cases h1:x < y
  ·rw [if_pos h1,if_pos om_];rfl
  ·rw [if_neg h1,if_pos om_,if_neg om_,if_pos om_];rfl
def clz:List Ab->List Ab->Option Int
 | [],_=>none
 | _ :: _,[]=>some 1
 | a :: l,b :: m=>if sd a b=0 then clz l m else some (sdz a b)
theorem FM:∀ (a b:List Ab),lcz a b=match clz a b with | some r=>r | none=>if a.length < b.length then -1 else 0
 | [],[]=>rfl
 | [],_ :: _=>by simp [lcz,lcs,clz]
 | _ :: _,[]=>rfl
 | a :: l,b :: m=>by
  have ih:=FM l m;unfold clz;by_cases h:sd a b=0
  ·have h1:lcz (a :: l) (b :: m)=lcz l m:=by unfold lcz;rw [show lcs (a :: l) (b :: m)=lcs l m by rw [lcs,if_pos h]]
   rw [if_pos h,h1,ih];cases clz l m with
   | some r=>rfl
   | none=>simp
  ·have h1:lcs (a :: l) (b :: m)=sd a b:=by rw [lcs,if_neg h]
   rw [if_neg h];unfold lcz sdz;rw [h1]
theorem EV {a b:List Ab}:lcz a b=0↔a=b:=by
 rw [← Ax];unfold lcz;split <;> (try split) <;> omega
theorem Ng {f:Nat} {v0 v1:List Ab} (hl:v0.length<=100000000):∀ (n i:Nat),i<=v0.length->v0.length - i < n ->
  Up f v0 v1 n i=some (match clz (v0.drop i) (v1.drop i) with | some r=>.ret r | none=>.brk (v0.length:Int))
 | 0,i,_,h=>by omega
 | n + 1,i,hi,hn=>by
  rw [Up];by_cases hlt:i < v0.length
  ·rw [Aj,dt_ hlt,ct_,Ai,gE_ hlt,ob_,GG hlt];by_cases h2:i < v1.length
   ·rw [show decide ((i:Int)>=(v1.length:Int))=false by simp;omega,cf_,Ai,gE_ h2,ob_,EL,ob_,GG h2];unfold clz;by_cases h3:sd v0[i] v1[i]=0
    ·rw [Xs.2 h3,if_pos h3,zf_,cf_,Am om_,Ng hl n (i + 1) om_ om_]
    ·rw [if_neg h3,show (sdz v0[i] v1[i] != 0)=true by rw [bne_iff_ne];exact λe=>h3 (Xs.1 e),ct_]
   ·rw [show decide ((i:Int)>=(v1.length:Int))=true by simp;omega,ct_,GT (by omega:v1.length<=i)];rfl
  ·obtain rfl:i=v0.length:=by omega
   rw [Aj,df_ om_,cf_,HP];rfl
theorem Sv {v0 v1:List Ab} (hl:v0.length<=10000):m42 FF v0 v1=some (lcz v0 v1):=by
 unfold m42 m73;have:=Ng (f:=FF) (v0:=v0) (v1:=v1) om_ FF 0 om_ uF;rw [n0,GL,GL] at this;rw [this,FM];cases clz v0 v1 with
 | some r=>rfl
 | none=>
  rw [ob_];dsimp only;by_cases h:v0.length < v1.length
  ·rw [if_pos h,show decide ((v0.length:Int) < (v1.length:Int))=true by simp;omega];rfl
  ·rw [if_neg h,show decide ((v0.length:Int) < (v1.length:Int))=false by simp;omega];rfl
theorem beq0 {a b:List Ab}:(lcz a b == 0)=decide (a=b):=by rw [HU];simp [EV]
theorem m88_eqT {xs:List (List Ab)} (h:∀ x∈xs,x.length<=10000):EqT (m88 FF) xs:=λx hx y hy=>by
 unfold m88;rw [Sv (h x hx),ob_,beq0]
theorem EG {v:List (List Ab)} (h:∀ x∈v,x.length<=10000) (hl:v.length<=10000):m86 FF v=some (Mi (ltOf lcs) v):=by
 unfold m86;rw [dt_ om_,HY];have:v.all (λx=>v.all λy=>m42 FF x y == some (lcz x y))=true:=by
  rw [GJ];intro x hx;rw [GJ];intro y hy;rw [Sv (h x hx)];simp
 rw [this,ct_,Mo]
theorem cpl2 {E:List Ab->List Ab->Option Bool} {L:Nat->(Int×Int×List (List Ab))->Option (Int×Int×List (List Ab))} {v:List (List Ab)} {k:Nat} (hE:EqT E v) (hl:v.length<=10000000)
  (hL:∀ n z7,L (n + 1) z7=(bif (decide (z7.2.1 < ((v.length - k:Nat):Int))) then (Wr z7.2.2 (k,v.length) z7.2.1).bind λx9=>(Wr z7.2.2 (k,v.length) (wr (z7.2.1 - 1))).bind λx10=>(E x9 x10).bind λx11=>(bif (!x11) then (Wr z7.2.2 (k,v.length) z7.2.1).bind λx13=>(idx z7.2.2 z7.1).bind λx14=>some ((wr (z7.1 + 1)),(z7.2.2.set z7.1.toNat x13)) else some (z7.1,z7.2.2)).bind λz12=>L n (z12.1,(wr (z7.2.1 + 1)),z12.2) else some (z7.1,z7.2.1,z7.2.2))) :
  ∀ (n k2 kk:Nat) (zs:List (List Ab)),1<=k2->k + k2<=v.length->v.length - (k + k2) < n->Ci v zs (k + k2) kk->∃ (kk':Nat) (zs':List (List Ab)) (j:Int),L n ((kk:Int),(k2:Int),zs)=some ((kk':Int),j,zs')/\Ci v zs' v.length kk'
 | 0,_,_,_,_,_,h,_=>by omega
 | n + 1,k2,kk,zs,h1,h2,h3,hI=>by
  rw [hL];dsimp only;have hzl:=hI.len;have hkk:=hI.lt;by_cases hlt:k + k2 < v.length
  ·have e1:zs[k + k2]'om_=v[k + k2]:=by
    have:=hI.hi (k + k2) om_;rw [gE_ om_,gE_ hlt] at this;exact Option.some.inj this
   have e2:zs[k + (k2 - 1)]'om_=v[k + k2 - 1]'om_:=by
    have:=hI.hi (k + (k2 - 1)) om_;rw [gE_ om_,gE_ om_] at this;have h4:=Option.some.inj this;rw [h4];congr 1;omega
   have hw:wr ((k2:Int) - 1)=((k2 - 1:Nat):Int):=by rw [As om_ om_];omega
   have i1:Wr zs (k,v.length) (k2:Int)=some v[k + k2]:=by
    have:=C3 (xs:=zs) (k:=k) (n:=v.length) (j:=k2) om_ om_;rw [this,e1]
   have i2:Wr zs (k,v.length) ((k2 - 1:Nat):Int)=some (v[k + k2 - 1]'om_):=by
    have:=C3 (xs:=zs) (k:=k) (n:=v.length) (j:=k2 - 1) om_ om_;rw [this,e2]
   rw [show decide ((k2:Int) < ((v.length - k:Nat):Int))=true by simp;omega,ct_,i1,ob_,hw,i2,ob_,hE _ (GF _) _ (GF _),ob_];have hst:=Wn (l:=v) (i:=k + k2) om_ hlt;by_cases he:v[k + k2]=v[k + k2 - 1]'om_
   ·rw [dt_ he,HS,cf_,ob_,Am om_];refine cpl2 hE hl hL n (k2 + 1) kk zs om_ om_ om_ ⟨hzl,by omega,λj hj=>hI.hi j om_,?_⟩;rw [show k + (k2 + 1)=k + k2 + 1 by omega,hst,if_pos he.symm];exact hI.tk
   ·rw [df_ he,JB,ct_,ob_,Ai,gE_ om_,ob_,ob_,Am om_,Am om_,G1];refine cpl2 hE hl hL n (k2 + 1) (kk + 1) (zs.set kk v[k + k2]) om_ om_ om_ ⟨by simp [hzl],by omega,λj hj=>?_,?_⟩
    ·rw [HT om_];exact hI.hi j om_
    ·rw [show k + (k2 + 1)=k + k2 + 1 by omega,hst,if_neg λe=>he e.symm,← hI.tk];have hk:kk < (zs.set kk v[k + k2]).length:=by simp;omega
     rw [← KG hk];have e3:(zs.set kk v[k + k2]).take kk=zs.take kk:=by
      refine HV λj=>?_;rw [JK,JK];split
      ·rw [HT om_]
      ·rfl
     rw [e3];simp
  ·have hN:k + k2=v.length:=by omega
   rw [show decide ((k2:Int) < ((v.length - k:Nat):Int))=false by simp;omega,cf_];rw [hN] at hI;exact ⟨kk,zs,(k2:Int),rfl,hI⟩
theorem cpg {E:List Ab->List Ab->Option Bool} {L1:Nat->Int->Option (Lo Int (List (List Ab)×List (List Ab)))} {L2:Nat×Nat->Nat->(Int×Int×List (List Ab))->Option (Int×Int×List (List Ab))} {v:List (List Ab)} (hE:EqT E v) (hl:v.length<=10000)
  (hL2:∀ x6 n z7,L2 x6 (n + 1) z7=(bif (decide (z7.2.1 < ((x6.2 - x6.1:Nat):Int))) then (Wr z7.2.2 x6 z7.2.1).bind λx9=>(Wr z7.2.2 x6 (wr (z7.2.1 - 1))).bind λx10=>(E x9 x10).bind λx11=>(bif (!x11) then (Wr z7.2.2 x6 z7.2.1).bind λx13=>(idx z7.2.2 z7.1).bind λx14=>some ((wr (z7.1 + 1)),(z7.2.2.set z7.1.toNat x13)) else some (z7.1,z7.2.2)).bind λz12=>L2 x6 n (z12.1,(wr (z7.2.1 + 1)),z12.2) else some (z7.1,z7.2.1,z7.2.2)))
  (hL1:∀ n z1,L1 (n + 1) z1=(bif (decide (z1 < (v.length:Int))) then (idx v z1).bind λx3=>(idx v (wr (z1 - 1))).bind λx4=>(E x3 x4).bind λx5=>(bif x5 then (lsr z1 (v.length:Int) (v.length:Int)).bind λx6=>(L2 x6 FF (z1,(1:Int),v)).bind λo8s=>(lsr o8s.1 (o8s.2.2.length:Int) (o8s.2.2.length:Int)).bind λx15=>(lsl (o8s.2.2.take x15.1 ++ (List.replicate (x15.2 - x15.1) ([]:List Ab) ++ o8s.2.2.drop (x15.1 + (x15.2 - x15.1)))) 0 o8s.1).bind λx16=>some (.ret (x16,x16)) else L1 n (wr (z1 + 1))) else some (.brk z1))) :
  ∀ (n i:Nat),1<=i->i<=v.length->v.length - i < n->(∀ j,0 < j->j < i->(h:j < v.length)->v[j]≠v[j - 1]'om_)->((∃ z,L1 n (i:Int)=some (.brk z))/\Co v=v)\/L1 n (i:Int)=some (.ret (Co v,Co v))
 | 0,_,_,_,h,_=>by omega
 | n + 1,i,h1,h2,h3,hn=>by
  rw [hL1];by_cases hlt:i < v.length
  ·have hw:wr ((i:Int) - 1)=((i - 1:Nat):Int):=by rw [As om_ om_];omega
   rw [Aj,dt_ hlt,ct_,Ai,gE_ hlt,ob_,hw,Ai,gE_ om_,ob_,hE _ (GF _) _ (GF _),ob_];by_cases he:v[i]=v[i - 1]'om_
   ·right;have hr:lsr (i:Int) (v.length:Int) (v.length:Int)=some (i,v.length):=by
     unfold lsr;rw [if_pos ⟨by omega,by omega,by omega⟩,G1,G1]
    have hself:Co (v.take i)=v.take i:=Qg λj hj hl=>by
     rw [List.getElem_take,List.getElem_take];rw [H6] at hl;exact hn j hj om_ om_
    obtain ⟨kk,zs,j,e1,hI⟩:=cpl2 (k:=i) hE om_ (λn z7=>hL2 (i,v.length) n z7) FF 1 i v om_ om_ uF ⟨rfl,by omega,λ_ _=>rfl,by rw [Wn om_ hlt,if_pos he.symm,hself]⟩;have e1:L2 (i,v.length) FF ((i:Int),(1:Int),v)=some ((kk:Int),j,zs):=e1;have hzl:=hI.len;have hkk:=hI.lt;rw [dt_ he,ct_,hr,ob_,e1,ob_];dsimp only;have hr2:lsr (kk:Int) (zs.length:Int) (zs.length:Int)=some (kk,zs.length):=by
     unfold lsr;rw [if_pos ⟨by omega,by omega,by omega⟩,G1,G1]
    rw [hr2,ob_];dsimp only;have hs:lsl (zs.take kk ++ (List.replicate (zs.length - kk) ([]:List Ab) ++ zs.drop (kk + (zs.length - kk)))) 0 (kk:Int)=some (zs.take kk):=by
     have hl1:(zs.take kk).length=kk:=by rw [H6];omega
     unfold lsl;rw [if_pos ⟨by omega,by omega,by simp;omega⟩];simp only [Int.toNat_zero,GL,G1,LK];rw [List.take_append_of_le_length om_,HG om_]
    rw [hs,ob_,hI.tk,KS]
   ·rw [df_ he,cf_,Am om_];refine cpg hE hl hL2 hL1 n (i + 1) om_ om_ om_ λj hj hji hjl=>?_;rcases JR (JU hji) with h | h
    ·exact hn j hj h hjl
    ·subst h;exact he
  ·left;rw [Aj,df_ hlt,cf_];exact ⟨⟨_,rfl⟩,Qg λj hj hjl=>hn j hj om_ hjl⟩
theorem EF {v:List (List Ab)} (h:∀ x∈v,x.length<=10000) (hl:v.length<=10000):m87 FF v=some (Co v,Co v):=by
 unfold m87;by_cases h2:v.length < 2
 ·rw [show decide ((v.length:Int) < 2)=true by simp;omega,ct_]
  match v,h2 with
  | [],_=>rfl
  | [_],_=>rfl
 ·rw [show decide ((v.length:Int) < 2)=false by simp;omega,cf_];rcases cpg (L1:=Ra FF v) (L2:=Yf FF) (m88_eqT h) hl (λ_ _ _=>rfl) (λ_ _=>rfl) FF 1 om_ om_ uF (λj hj hj1=>by omega) with ⟨⟨z,hz⟩,hc⟩ | hz
  ·have hz:Ra FF v FF 1=some (.brk z):=hz;rw [hz,hc];rfl
  ·have hz:Ra FF v FF 1=some (.ret (Co v,Co v)):=hz;rw [hz];rfl
end Go.Pn
namespace Go.Pn
open Go Go.Sort Go.Proofs
def Pw_ (sp:Space):Int->L6->List (List Ab)->Int->Prop
 | i,[],t,j=>t=[]/\j=i
 | i,k :: p,t,j=>∃ mv m t',idx sp.Moves i=some mv/\idx mv k=some m/\t=(if lab sp i m=[] then t' else lab sp i m :: t')/\Pw_ sp m p t' j
theorem Pw_.pth {sp:Space}:∀ {p:L6} {i j:Int} {t:List (List Ab)},Pw_ sp i p t j->Wt sp i p t
 | [],_,_,_,h=>h.1
 | _ :: _,_,_,_,⟨mv,m,t',h1,h2,h3,h4⟩=>⟨mv,m,t',h1,h2,h3,h4.pth⟩
theorem Wt.pw {sp:Space}:∀ {p:L6} {i:Int} {t:List (List Ab)},Wt sp i p t->∃ j,Pw_ sp i p t j
 | [],i,_,h=>⟨i,h,rfl⟩
 | _ :: _,_,_,⟨mv,m,t',h1,h2,h3,h4⟩=>let ⟨j,h5⟩:=h4.pw;⟨j,mv,m,t',h1,h2,h3,h5⟩
theorem Pw_.snoc {sp:Space} {k m:Int} {mv:L6}:∀ {p:L6} {i j:Int} {t:List (List Ab)},Pw_ sp i p t j->idx sp.Moves j=some mv->idx mv k=some m->Pw_ sp i (p ++ [k]) (if lab sp j m=[] then t else t ++ [lab sp j m]) m
 | [],i,j,t,⟨h1,h2⟩,h3,h4=>by
  subst h1 h2;exact ⟨mv,m,[],h3,h4,by split <;> rfl,rfl,rfl⟩
 | a :: p,i,j,t,⟨mv',m',t',h1,h2,h3,h4⟩,h5,h6=>by
  refine ⟨mv',m',_,h1,h2,?_,h4.snoc h5 h6⟩;subst h3;by_cases e:lab sp j m=[]
  ·rw [if_pos e,if_pos e]
  ·rw [if_neg e,if_neg e];split
   ·rfl
   ·rfl
theorem Wt.uniq {sp:Space}:∀ {p:L6} {i:Int} {t t':List (List Ab)},Wt sp i p t->Wt sp i p t'->t=t'
 | [],_,_,_,h,h'=>h.trans h'.symm
 | _ :: _,_,_,_,⟨mv,m,t1,h1,h2,h3,h4⟩,⟨mv',m',t2,k1,k2,k3,k4⟩=>by
  rw [h1] at k1;obtain rfl:=Option.some.inj k1;rw [h2] at k2;obtain rfl:=Option.some.inj k2;rw [h3,k3,h4.uniq k4]
theorem Pw_.vp {sp:Space}:∀ {p:L6} {i j:Int} {t:List (List Ab)},Pw_ sp i p t j->Vp_ sp i p
 | [],_,_,_,_=>trivial
 | _ :: _,_,_,_,⟨mv,m,_,h1,h2,_,h4⟩=>⟨mv,m,h1,h2,h4.vp⟩
theorem Vp_.pth {sp:Space}:∀ {p:L6} {i:Int},Vp_ sp i p->∃ t,Wt sp i p t
 | [],_,_=>⟨[],rfl⟩
 | _ :: _,i,⟨mv,m,h1,h2,h3⟩=>let ⟨t,h4⟩:=h3.pth;⟨_,mv,m,t,h1,h2,rfl,h4⟩
theorem Gc {ν:Type} {k:Int}:∀ {m:List (Int×ν)} {i:Nat},Bk Dp k m i=none↔k ∉ m.map (·.1)
 | [],_=>by simp [Bk]
 | (a,v) :: m,i=>by
  unfold Bk Dp;by_cases h:k=a
  ·subst h;simp
  ·have ih:=Gc (k:=k) (m:=m) (i:=i + 1);rw [show (k == a)=false by simpa using h];simp only [Bool.false_eq_true,if_false];rw [show (λa b:Int=>a == b)=Dp from rfl] at *;rw [ih];simp [h]
theorem EB {ν:Type} {k:Int} {m:List (Int×ν)}:mat Dp m k=none↔k ∉ m.map (·.1):=by
 unfold mat
 rw [Option.map_eq_none_iff,Gc]
theorem Sj {ν:Type} {k:Int} {m:List (Int×ν)} {y:ν} (h:k ∉ m.map (·.1)):Ep Dp m k y=m ++ [(k,y)]:=by
 unfold Ep;rw [Gc.2 h]
theorem Wz {ν:Type} {k:Int} {m:List (Int×ν)} (h:k∈m.map (·.1)):∃ y,mat Dp m k=some y/\(k,y)∈m:=by
 unfold mat
 cases hf:Bk Dp k m 0 with
 | none=>exact absurd h (Gc.1 hf)
 | some q=>
  obtain ⟨j,y⟩:=q;obtain ⟨k',_,h2,h3⟩:=Di hf;have:k=k':=by
   unfold Dp at h3;simpa using h3
  subst this;exact ⟨y,rfl,GM h2⟩
theorem Ki {ν:Type} {k:Int} {m:List (Int×ν)}:(mat Dp m k).isSome=decide (k∈m.map (·.1)):=by
 by_cases h:k∈m.map (·.1)
 ·obtain ⟨y,h1,_⟩:=Wz h;rw [h1,dt_ h];rfl
 ·rw [EB.2 h,df_ h];rfl
structure Fq (sp:Space) (t:List (List Ab)) (B:Nat) (m:List (Int×L6)):Prop where
 nd:(m.map (·.1)).Nodup
 pw:∀ e∈m,Pw_ sp 0 e.2 t e.1/\e.2.length<=B
section
variable {c:Aa} {sp:Space}
theorem Fq.get {t:List (List Ab)} {B:Nat} {m:List (Int×L6)} (h:Fq sp t B m) {k:Int} (hk:k∈m.map (·.1)):∃ p,mat Dp m k=some p/\Pw_ sp 0 p t k/\p.length<=B:=by
 obtain ⟨p,h1,h2⟩:=Wz hk;exact ⟨p,h1,h.pw _ h2⟩
theorem Fq.len {t:List (List Ab)} {B:Nat} {m:List (Int×L6)} (h:Fq sp t B m) (hr:∀ k:Int,k∈m.map (·.1)->0<=k/\k < sp.States.length):m.length<=sp.States.length:=by
 have:=Gb sp.States.length h.nd hr;simpa using this
theorem EW {l:L6} (h:l.Nodup):Cs (isort l) (·∈l):=by
 have h1:=isort_pw l;have h2:(isort l).Nodup:=(isort_perm l).nodup_iff.2 h;refine ⟨?_,λx=>(isort_perm l).mem_iff⟩;refine List.Pairwise.imp_of_mem ?_ (h1.and h2);intro a b _ _ hab;obtain ⟨h3,h4⟩:=hab;have:a≠b:=h4;omega
theorem Yo {m:List (Int×L6)} {S:Int->Prop} (hn:(m.map (·.1)).Nodup) (hl:m.length<=400) (hS:∀ j,j∈m.map (·.1)↔S j):∃ l,m51 FF m=some l/\Cs l S:=by
 refine ⟨isort (m.map (·.1)),?_,(EW hn).iff hS⟩;unfold m51;rw [if_pos uF];unfold m82;rw [if_pos so_]
theorem Pb {σ:Type} {gy:(Int×Int)×List Ab->σ->Option (Bool×σ)} (h:Sq c sp) {i:Int} {mv:L6} (hi:idx sp.Moves i=some mv) {I:Nat->σ->Prop} {J:σ->Prop}
  (step:∀ (k:Nat) (m:Int) (s:σ),mv[k]?=some m->I k s->∃ b s',gy (((k:Int),m),lab sp i m) s=some (b,s')/\(b=true->I (k + 1) s')/\(b=false->J s')) :
  ∀ (n k:Nat) (s:σ),k<=mv.length->mv.length - k < n->I k s->(∃ s',La gy (some ⟨sp,Tw sp⟩) i mv n ((k:Int),s)=some (.brk ((mv.length:Int),s'))/\I mv.length s')\/∃ s',La gy (some ⟨sp,Tw sp⟩) i mv n ((k:Int),s)=some (.ret s')/\J s'
 | 0,_,_,_,h,_=>by omega
 | n + 1,k,s,hk,hn,hI=>by
  have hml:=h.ml;obtain ⟨h22,_⟩:=h.rows mv (Aw hi);obtain ⟨i0,i1⟩:=Hr hi;rw [La];dsimp only;by_cases hlt:k < mv.length
  ·have hg:mv[k]?=some mv[k]:=gE_ hlt;have hb:idx (Tw sp) i=some (mv.map (lab sp i)):=by
    have e:i=((i.toNat:Nat):Int):=by omega
    have hm:sp.Moves[i.toNat]?=some mv:=by
     rw [e,Ai] at hi;exact hi
    have:=Xi hm;rw [← e] at this;rw [e,Ai,← e];exact this
   have hlk:(mv.map (lab sp i))[k]?=some (lab sp i mv[k]):=by rw [GW,hg];rfl
   obtain ⟨b,s',e1,e2,e3⟩:=step k mv[k] s hg hI;rw [Aj,dt_ hlt,ct_,Ai,hg,ob_,ob_];dsimp only;rw [hb,ob_,Ai,hlk,ob_,e1,ob_];dsimp only;cases b with
   | true=>
    rw [HS,cf_,Am om_];exact Pb h hi step n (k + 1) s' om_ om_ (e2 rfl)
   | false=>
    rw [JB,ct_];exact .inr ⟨s',rfl,e3 rfl⟩
  ·obtain rfl:k=mv.length:=by omega
   rw [Aj,df_ om_,cf_];exact .inl ⟨s,rfl,hI⟩
theorem Td {σ:Type} {gy:(Int×Int)×List Ab->σ->Option (Bool×σ)} (h:Sq c sp) {i:Int} {mv:L6} (hi:idx sp.Moves i=some mv) (I:Nat->σ->Prop) (J:σ->Prop)
  (step:∀ (k:Nat) (m:Int) (s:σ),mv[k]?=some m->I k s->∃ b s',gy (((k:Int),m),lab sp i m) s=some (b,s')/\(b=true->I (k + 1) s')/\(b=false->J s'))
  {s:σ} (h0:I 0 s):∃ s',Q8 gy FF (some ⟨sp,Tw sp⟩) i s=some s'/\(I mv.length s'\/J s'):=by
 obtain ⟨h22,_⟩:=h.rows mv (Aw hi);unfold Q8;rw [ob_];dsimp only;rw [hi,ob_];rcases Pb h hi step FF 0 s om_ uF h0 with ⟨s',e,hI⟩ | ⟨s',e,hJ⟩
 ·rw [n0] at e;rw [e];exact ⟨s',rfl,.inl hI⟩
 ·rw [n0] at e;rw [e];exact ⟨s',rfl,.inr hJ⟩
end
end Go.Pn

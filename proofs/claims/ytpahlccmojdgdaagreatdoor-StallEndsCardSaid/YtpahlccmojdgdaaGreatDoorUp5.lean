import Derived.Test.YtpahlccmojdgdaaGreatDoorUp4
set_option synthInstance.checkSynthOrder false
set_option synthInstance.maxSize 10000
set_option synthInstance.maxHeartbeats 400000
set_option maxRecDepth 100000
set_option maxHeartbeats 4000000
set_option linter.unusedVariables false
set_option linter.unusedSimpArgs false
namespace Go.Pn
open Go
theorem cs_ {α:Type} {c:Bool} {a b:α}:(bif c then some a else some b)=some (bif c then a else b):=by cases c <;> rfl
theorem n0:((0:Nat):Int)=0:=rfl
def szd:Nat->Expr->Nat
 | 0,_=>0
 | d + 1,x=>1 + (x.Args.map (szd d)).sum
def Szb (x:Expr) (n:Nat):Prop:=∀ d,szd d x<=n
def dp:Nat->Expr->Prop
 | 0,_=>False
 | d + 1,x=>x.Args.length<=256/\∀ y∈x.Args,dp d y
theorem le_sum:∀ {l:List Nat} {n:Nat},n∈l->n<=l.sum
 | a :: l,n,h=>by
  rw [List.sum_cons];rcases List.mem_cons.1 h with rfl | h
  ·omega
  ·have:=le_sum h;omega
theorem Szb.arg {x y:Expr} {n:Nat} (h:Szb x n) (hy:y∈x.Args):Szb y n:=fun d=>by
 have h1:=h (d + 1);have h2:=le_sum (List.mem_map.2 ⟨y,hy,rfl⟩:szd d y∈x.Args.map (szd d));unfold szd at h1;omega
theorem sum_ones:∀ {l:List Expr},l.length<=(l.map (szd 1)).sum
 | []=>by simp
 | x :: l=>by
  have:=sum_ones (l:=l);have h1:1<=szd 1 x:=by unfold szd;omega
  simp only [List.map_cons,List.sum_cons,List.length_cons];omega
theorem szd_succ {d:Nat} {x:Expr}:szd (d + 1) x=1 + (x.Args.map (szd d)).sum:=rfl
theorem Szb.len {x:Expr} {n:Nat} (h:Szb x n):x.Args.length < n:=by
 have h1:=h 2;rw [szd_succ] at h1;have:=sum_ones (l:=x.Args);omega
theorem sum_take {l:List Nat} {i:Nat} (h:i < l.length):(l.take (i + 1)).sum=(l.take i).sum + l[i]:=by
 rw [List.take_add_one,gE_ h,List.sum_append];simp
theorem m141_spec:∀ (k f:Nat) (x:Expr),k<=256->k + 300<=f->∃ r:Nat,m141 f x k=some (r:Int)/\1<=r/\r<=k + 1/\(r<=k->Szb x r):=by
 intro k
 induction k using Nat.strongRecOn with
 | ind k ih=>
  intro f x hk hf;obtain ⟨f,rfl⟩:∃ f',f=f' + 1:=⟨f - 1,by omega⟩;have loop:∀ (n i z:Nat),i<=x.Args.length->i + 1<=z->z<=k + 1->k + 1 - z < n->(z<=k->∀ d,1 + ((x.Args.map (szd d)).take i).sum<=z) ->
    ∃ r e:Nat,m141_l1 (m141 f) x k n ((z:Int),(i:Int))=some ((r:Int),(e:Int))/\1<=r/\r<=k + 1/\(r<=k->Szb x r):=by
   intro n
   induction n with
   | zero=>intro i z _ _ _ h;omega
   | succ n ihn=>
    intro i z hi hz1 hz2 hn hs;unfold m141_l1;dsimp only;rw [lt_dec];have hle:decide ((z:Int)<=(k:Int))=decide (z<=k):=by simp
    rw [hle];by_cases h1:i < x.Args.length
    ·by_cases h2:z<=k
     ·rw [dt_ h1,dt_ h2,Bool.and_true,ct_,idx_nat,gE_ h1,ob_,wr_id (by omega) (by omega)];obtain ⟨r,hr,hr1,hr2,hr3⟩:=ih (k - z) (by omega) f x.Args[i] (by omega) (by omega);rw [show (k:Int) - (z:Int)=((k - z:Nat):Int) by omega,hr,ob_,wr_id (by omega) (by omega),show wr ((i:Int) + 1)=((i + 1:Nat):Int) from wr_nat (by omega)];rw [show (z:Int) + (r:Int)=((z + r:Nat):Int) by omega];refine ihn (i + 1) (z + r) (by omega) (by omega) (by omega) (by omega) fun hle d=>?_;rw [sum_take (by simpa using h1)];have h5:=hs h2 d;have h6:=hr3 (by omega) d;simp only [List.getElem_map];omega
     ·rw [df_ h2,Bool.and_false,cf_];exact ⟨z,i,rfl,by omega,hz2,fun h=>absurd h h2⟩
    ·rw [df_ h1,Bool.false_and,cf_];refine ⟨z,i,rfl,by omega,hz2,fun h d=>?_⟩;cases d with
     | zero=>unfold szd;omega
     | succ d=>
      have:=hs h d;rw [List.take_of_length_le (by simp;omega)] at this;unfold szd;omega
  unfold m141;obtain ⟨r,e,h1,h2⟩:=loop f 0 1 (by omega) (by omega) (by omega) (by omega) (fun _ d=>by simp);have e1:((1:Nat):Int)=1:=rfl;rw [n0,e1] at h1;rw [h1];exact ⟨r,rfl,h2⟩
theorem m142_spec:∀ (k f:Nat) (x:Expr),Szb x 256->k<=256->k + 300<=f->∃ b,m142 f x k=some b/\(b=true->dp k x)
 | 0,f,x,_,_,hf=>by
  obtain ⟨f,rfl⟩:∃ f',f=f' + 1:=⟨f - 1,by omega⟩;exact ⟨false,rfl,by simp⟩
 | k + 1,f,x,hs,hk,hf=>by
  obtain ⟨f,rfl⟩:∃ f',f=f' + 1:=⟨f - 1,by omega⟩;have hl:=hs.len;unfold m142;rw [show decide (((k + 1:Nat):Int) < 1)=false by simp;omega,cf_];by_cases h1:k=0
  ·subst h1;rw [show ((((0 + 1:Nat):Int)) == 1)=true by simp,ct_];refine ⟨_,rfl,fun h=>⟨by omega,fun y hy=>?_⟩⟩;have:x.Args.length=0:=by simpa using h
   rw [List.eq_nil_of_length_eq_zero this] at hy;simp at hy
  ·rw [show ((((k + 1:Nat):Int)) == 1)=false by simp;omega,cf_];have loop:∀ (n i:Nat),i<=x.Args.length->x.Args.length - i < n ->
     m142_l1 (m142 f) x ((k + 1:Nat):Int) n (i:Int)=some (.ret false)\/((∃ e,m142_l1 (m142 f) x ((k + 1:Nat):Int) n (i:Int)=some (.brk e))/\∀ y∈x.Args.drop i,dp k y):=by
    intro n
    induction n with
    | zero=>intro i _ h;omega
    | succ n ihn=>
     intro i hi hn;unfold m142_l1;by_cases h2:i < x.Args.length
     ·rw [lt_dec,dt_ h2,ct_,idx_nat,gE_ h2,ob_,wr_id (by omega) (by omega),show ((k + 1:Nat):Int) - 1=(k:Int) by omega];obtain ⟨b,hb,hb2⟩:=m142_spec k f x.Args[i] (hs.arg (List.getElem_mem h2)) (by omega) (by omega);rw [hb,ob_];cases b with
      | false=>exact .inl rfl
      | true=>
       rw [nt_,cf_,wr_nat (by omega)];rcases ihn (i + 1) (by omega) (by omega) with h | ⟨h,h3⟩
       ·exact .inl h
       ·refine .inr ⟨h,?_⟩;rw [List.drop_eq_getElem_cons h2];exact fun y hy=>(List.mem_cons.1 hy).elim (fun e=>e ▸ hb2 rfl) (h3 y)
     ·rw [lt_dec,df_ h2,cf_];refine .inr ⟨⟨_,rfl⟩,?_⟩;rw [List.drop_eq_nil_of_le (by omega)];simp
   have h0:((0:Nat):Int)=0:=rfl;rcases loop f 0 (by omega) (by omega) with h | ⟨⟨e,h⟩,h3⟩
   ·rw [h0] at h;rw [h];exact ⟨false,rfl,by simp⟩
   ·rw [h0] at h;rw [h];exact ⟨true,rfl,fun _=>⟨by omega,by simpa using h3⟩⟩
structure Lt_ (x:Expr):Prop where
 sz:Szb x 256
 dp:dp 16 x
theorem m78_spec {f:Nat} (hf:600<=f) (x:Expr):∃ b,m78 f x=some b/\(b=true->Lt_ x):=by
 unfold m78;obtain ⟨r,hr,hr1,hr2,hr3⟩:=m141_spec 256 f x (by omega) (by omega);rw [show (256:Int)=((256:Nat):Int) from rfl,hr,ob_];by_cases h:r<=256
 ·rw [show decide ((r:Int)<=((256:Nat):Int))=true by simpa using (by omega:(r:Int)<=256),ct_];have hs:Szb x 256:=fun d=>Nat.le_trans (hr3 h d) h;obtain ⟨b,hb,hb2⟩:=m142_spec 16 f x hs (by omega) (by omega);rw [show (16:Int)=((16:Nat):Int) from rfl,hb];exact ⟨b,rfl,fun h=>⟨hs,hb2 h⟩⟩
 ·rw [show decide ((r:Int)<=((256:Nat):Int))=false by simpa using (by omega:¬ (r:Int)<=256),cf_];exact ⟨false,rfl,by simp⟩
def nod (n:Int) (v0:Expr):Int:=bif ((decide ((v0).Op < (0:Int))) || (decide ((v0).Op>=(5:Int)))) then (1:Int) else (bif ((((decide ((v0).Op<=(1:Int))) && ((((v0).Args).length:Int) != (0:Int))) || (((v0).Op == (2:Int)) && ((((v0).Args).length:Int) != (1:Int)))) || ((decide ((v0).Op>=(3:Int))) && (decide ((((v0).Args).length:Int) < (2:Int))))) then (3:Int) else (bif ((decide ((v0).Index < (0:Int))) || (decide ((v0).Index>=(bif ((v0).Op == (1:Int)) then n else bif ((v0).Op == (0:Int)) then (2:Int) else (1:Int))))) then (2:Int) else (0:Int)))
theorem m267_spec (f:Nat) (x:Expr) (n:Int):m267 f x n=some (nod n x):=by
 unfold m267 nod;simp only [cs_,ob_]
theorem nod_zero {n:Int} {x:Expr} (h:nod n x=0):0<=x.Op/\x.Op < 5/\(x.Op<=1->x.Args=[])/\(x.Op=2->x.Args.length=1)/\(3<=x.Op->2<=x.Args.length)/\0<=x.Index/\(x.Op=1->x.Index < n):=by
 unfold nod at h;cases h1:((decide ((x).Op < (0:Int))) || (decide ((x).Op>=(5:Int)))) with
 | true=>rw [h1] at h;cases h
 | false=>
  rw [h1,cf_] at h;cases h2:((((decide ((x).Op<=(1:Int))) && ((((x).Args).length:Int) != (0:Int))) || (((x).Op == (2:Int)) && ((((x).Args).length:Int) != (1:Int)))) || ((decide ((x).Op>=(3:Int))) && (decide ((((x).Args).length:Int) < (2:Int))))) with
  | true=>rw [h2] at h;cases h
  | false=>
   rw [h2,cf_] at h;cases h3:((decide ((x).Index < (0:Int))) || (decide ((x).Index>=(bif ((x).Op == (1:Int)) then n else bif ((x).Op == (0:Int)) then (2:Int) else (1:Int))))) with
   | true=>rw [h3] at h;cases h
   | false=>
    simp only [Bool.or_eq_false_iff,Bool.and_eq_false_iff,decide_eq_false_iff_not,bne_eq_false_iff_eq,beq_eq_false_iff_ne,ne_eq] at h1 h2 h3;obtain ⟨h1a,h1b⟩:=h1;obtain ⟨⟨h2a,h2b⟩,h2c⟩:=h2;obtain ⟨h3a,h3b⟩:=h3;refine ⟨by omega,by omega,fun h=>?_,fun h=>?_,fun h=>?_,by omega,fun h=>?_⟩
    ·refine List.eq_nil_of_length_eq_zero ?_;rcases h2a with h4 | h4 <;> omega
    ·rcases h2b with h4 | h4 <;> omega
    ·rcases h2c with h4 | h4 <;> omega
    ·rw [h] at h3b;simp at h3b;omega
def fnz:List Int->Int
 | []=>0
 | a :: l=>if a=0 then fnz l else a
theorem fnz_zero:∀ {l:List Int},fnz l=0->∀ a∈l,a=0
 | a :: l,h,b,hb=>by
  unfold fnz at h;split at h
  ·rename_i h0;rcases List.mem_cons.1 hb with rfl | hb
   ·exact h0
   ·exact fnz_zero h b hb
  ·contradiction
def chE:Nat->Int->Expr->Int
 | 0,_,_=>0
 | d + 1,n,x=>if nod n x=0 then fnz (x.Args.map (chE d n)) else nod n x
def okE:Nat->Int->Expr->Prop
 | 0,_,_=>False
 | d + 1,n,x=>nod n x=0/\x.Args.length<=256/\∀ y∈x.Args,okE d n y
theorem okE.of:∀ {d:Nat} {n:Int} {x:Expr},dp d x->chE d n x=0->okE d n x
 | 0,_,_,h,_=>h
 | d + 1,n,x,h,hc=>by
  unfold chE at hc;split at hc
  ·rename_i h0;refine ⟨h0,h.1,fun y hy=>okE.of (h.2 y hy) (fnz_zero hc _ (List.mem_map.2 ⟨y,hy,rfl⟩))⟩
  ·contradiction
theorem fnzl {α:Type} {L:Nat->Int->Option (Lo Int Int)} {xs:List α} {p:Int->α->Option Int} {q:α->Int}
  (h:∀ n z,L (n + 1) z=(bif decide (z < (xs.length:Int)) then (idx xs z).bind fun x=>(p z x).bind fun b=>bif b != (0:Int) then some (.ret b) else L n (wr (z + (1:Int))) else some (.brk z)))
  (hl:xs.length < 4611686018427387904) (hq:∀ (i:Nat) x,xs[i]?=some x->p i x=some (q x)) :
  ∀ (n i:Nat),i<=xs.length->xs.length - i < n->L n i=if fnz ((xs.drop i).map q)=0 then some (.brk (xs.length:Int)) else some (.ret (fnz ((xs.drop i).map q)))
 | 0,i,_,h=>by omega
 | n + 1,i,h1,h2=>by
  rw [h];by_cases hi:i < xs.length
  ·have hx:xs[i]?=some xs[i]:=gE_ hi;rw [lt_dec,dt_ hi,ct_,idx_nat,hx,ob_,hq i _ hx,ob_,List.drop_eq_getElem_cons hi,List.map_cons];unfold fnz;by_cases h0:q xs[i]=0
   ·rw [h0,if_pos rfl,zf_,cf_,wr_nat (by omega),fnzl h hl hq n (i + 1) (by omega) (by omega)]
   ·rw [if_neg h0,show (q xs[i] != 0)=true by simpa using h0,ct_,if_neg h0]
  ·rw [lt_dec,df_ hi,cf_,List.drop_eq_nil_of_le (by omega)];have:i=xs.length:=by omega
   subst this;rfl
theorem fnzl0 {α:Type} {L:Nat->Int->Option (Lo Int Int)} {xs:List α} {p:Int->α->Option Int} {q:α->Int} {f:Nat}
  (h:∀ n z,L (n + 1) z=(bif decide (z < (xs.length:Int)) then (idx xs z).bind fun x=>(p z x).bind fun b=>bif b != (0:Int) then some (.ret b) else L n (wr (z + (1:Int))) else some (.brk z)))
  (hl:xs.length < 4611686018427387904) (hf:xs.length < f) (hq:∀ (i:Nat) x,xs[i]?=some x->p i x=some (q x)) :
  L f (0:Int)=if fnz (xs.map q)=0 then some (.brk (xs.length:Int)) else some (.ret (fnz (xs.map q))):=by
 have:=fnzl h hl hq f 0 (by omega) (by omega);rw [n0,List.drop_zero] at this;exact this
theorem m239_spec:∀ (d f:Nat) (n:Int) (x:Expr),dp d x->d + 300<=f->m239 f x n=some (chE d n x)
 | 0,_,_,_,h,_=>h.elim
 | d + 1,f,n,x,h,hf=>by
  obtain ⟨f,rfl⟩:∃ f',f=f' + 1:=⟨f - 1,by omega⟩;unfold m239 chE;rw [m267_spec,ob_];by_cases h0:nod n x=0
  ·rw [h0,if_pos rfl,zf_,cf_];have hl:=h.1;rw [fnzl0 (L:=m239_l1 (m239 f) x n) (xs:=x.Args) (p:=fun _ y=>m239 f y n) (q:=chE d n) (fun _ _=>rfl) (by omega) (by omega) (fun i y hy=>m239_spec d f n y (h.2 y (List.mem_of_getElem? hy)) (by omega))];split
   ·rename_i h1;rw [h1];rfl
   ·rfl
  ·rw [if_neg h0,show (nod n x != 0)=true by simpa using h0,ct_]
theorem m178_spec {f:Nat} {n:Int} {x:Expr} (hx:Lt_ x) (hm:m78 f x=some true) (hn:0<=n) (hn2:n<=256) (hf:600<=f):m178 f x n=some (chE 16 n x):=by
 unfold m178;rw [df_ (by omega),df_ (by omega),Bool.or_false,cf_,hm,ob_,nt_,cf_,m239_spec 16 f n x hx.dp (by omega),ob_]
theorem m289_spec {f:Nat} {n:Int} {x:Expr} (hn:0<=n) (hn2:n<=256) (hl:x.Args.length<=256):m289 f x n=some (nod n x):=by
 unfold m289 nod;by_cases h1:x.Op < 0\/5<=x.Op
 ·have:((decide ((x).Op < (0:Int))) || (decide ((x).Op>=(5:Int))))=true:=by simpa using h1
  rw [this];rfl
 ·have:((decide ((x).Op < (0:Int))) || (decide ((x).Op>=(5:Int))))=false:=by simp;omega
  rw [this,cf_,cf_];unfold m298 m315;simp only [ob_,cs_];rw [wr_id (by omega) (by omega)];have hl1:∀ b:Bool,(bif decide (0 < x.Args.length) then (3:Int) else bif b then 2 else 0)=(bif (x.Args.length:Int) != 0 then 3 else bif b then 2 else 0):=fun b=>by
   have:decide (0 < x.Args.length)=((x.Args.length:Int) != 0):=by
    rcases Nat.eq_zero_or_pos x.Args.length with h | h
    ·rw [h];rfl
    ·rw [dt_ h];symm;rw [bne_iff_ne];omega
   rw [this]
  have key:(x.Index > n - 1)↔(x.Index>=n):=by omega
  have k1:(x.Index > 1)↔(x.Index>=2):=by omega
  have k0:(x.Index > 0)↔(x.Index>=1):=by omega
  have hop:x.Op=0\/x.Op=1\/x.Op=2\/x.Op=3\/x.Op=4:=by omega
  have e0:decide ((x.Args.length:Int) < 0)=false:=by simp
  have e1:decide ((x.Args.length:Int) > 256)=false:=by simp;omega
  have e3:(decide ((x.Args.length:Int) < 1) || decide ((x.Args.length:Int) > 1))=((x.Args.length:Int) != 1):=by
   rw [Bool.eq_iff_iff];simp;omega
  rcases hop with h | h | h | h | h <;> rw [h]
  ·simp only [show idx (List.range 5) 0=some 0 by rfl,ob_];simp [e0,k1];exact hl1 _
  ·simp only [show idx (List.range 5) 1=some 1 by rfl,ob_];simp [e0,key];exact hl1 _
  ·simp only [show idx (List.range 5) 2=some 2 by rfl,ob_];simp [e3,k0]
  ·simp only [show idx (List.range 5) 3=some 3 by rfl,ob_];simp [e1,k0]
  ·simp only [show idx (List.range 5) 4=some 4 by rfl,ob_];simp [e1,k0]
theorem m309c_spec:∀ (d f:Nat) (x:Expr) (k:Int) (cnt:Nat) (mx:Int),dp d x->1<=k->k + d<=17->cnt + szd d x<=256->d + 300<=f ->
  ∃ mx',m309 m287_r1 f x k (((cnt:Int),mx),0)=some (true,((((cnt + szd d x:Nat):Int),mx'),0))
 | 0,_,_,_,_,_,h,_,_,_,_=>h.elim
 | d + 1,f,x,k,cnt,mx,h,hk,hkd,hc,hf=>by
  obtain ⟨f,rfl⟩:∃ f',f=f' + 1:=⟨f - 1,by omega⟩;have hl:=h.1;have hsz:szd (d + 1) x=1 + (x.Args.map (szd d)).sum:=by rw [szd]
  have hr1:m287_r1 (k,x) (((cnt:Int),mx),0)=some (true,((((cnt + 1:Nat):Int),(if k > mx then k else mx)),0)):=by
   unfold m287_r1;dsimp only;rw [wr_nat (by omega),show (decide (((cnt + 1:Nat):Int) > 256) || decide (k > 16))=false by simp;omega,cf_]
  unfold m309;rw [hr1,ob_];dsimp only;rw [nt_,cf_];have loop:∀ (n i:Nat) (mx:Int),i<=x.Args.length->x.Args.length - i < n ->
    ∃ e mx',m309_l1 (m309 m287_r1 f) x k n ((i:Int),(((cnt + 1 + ((x.Args.map (szd d)).take i).sum:Nat):Int),mx),0)=some (.brk (e,((((cnt + szd (d + 1) x:Nat):Int),mx'),0))):=by
   intro n
   induction n with
   | zero=>intro i _ _ h;omega
   | succ n ihn=>
    intro i mx hi hn;unfold m309_l1;dsimp only;by_cases h2:i < x.Args.length
    ·rw [lt_dec,dt_ h2,ct_,idx_nat,gE_ h2,ob_,show decide (k<=16)=true by simp;omega,ct_,wr_id (by omega) (by omega)];have hst:=sum_take (l:=x.Args.map (szd d)) (i:=i) (by simpa using h2);have hle:((x.Args.map (szd d)).take (i + 1)).sum<=(x.Args.map (szd d)).sum:=by
      conv=>rhs;rw [← List.take_append_drop (i + 1) (x.Args.map (szd d))]
      rw [List.sum_append];omega
     simp only [List.getElem_map] at hst;obtain ⟨mx',h3⟩:=m309c_spec d f x.Args[i] (k + 1) (cnt + 1 + ((x.Args.map (szd d)).take i).sum) mx (h.2 _ (List.getElem_mem h2)) (by omega) (by omega) (by omega) (by omega);rw [h3,ob_,ct_];dsimp only;rw [nt_,cf_,wr_nat (by omega),show cnt + 1 + ((x.Args.map (szd d)).take i).sum + szd d x.Args[i]=cnt + 1 + ((x.Args.map (szd d)).take (i + 1)).sum by omega];exact ihn (i + 1) mx' (by omega) (by omega)
    ·rw [lt_dec,df_ h2,cf_];rw [List.take_of_length_le (by simp;omega)];exact ⟨_,mx,by rw [show cnt + 1 + (x.Args.map (szd d)).sum=cnt + szd (d + 1) x by omega]⟩
  obtain ⟨e,mx',h3⟩:=loop f 0 (if k > mx then k else mx) (by omega) (by omega)
  rw [n0,List.take_zero,List.sum_nil,Nat.add_zero] at h3;rw [h3];exact ⟨mx',rfl⟩
theorem m287_spec {f:Nat} {x:Expr} (hx:Lt_ x) (hf:600<=f):∃ a b,m287 f x=some (a,b,true):=by
 unfold m287 m288 m308;have h1:=hx.sz 16;obtain ⟨mx,h⟩:=m309c_spec 16 f x 1 0 0 hx.dp (by omega) (by omega) (by omega) (by omega);rw [n0] at h;rw [ob_,h];exact ⟨_,_,rfl⟩
theorem m309e_spec {F:Nat} {m:Int} (hm:0<=m) (hm2:m<=256):∀ (d f:Nat) (x:Expr) (k z:Int),dp d x->1<=k->k + d<=17->d + 300<=f ->
  m309 (m260_r1 F m) f x k (z,0)=some (if chE d m x=0 then (true,(z,0)) else (false,(chE d m x,1)))
 | 0,_,_,_,_,h,_,_,_=>h.elim
 | d + 1,f,x,k,z,h,hk,hkd,hf=>by
  obtain ⟨f,rfl⟩:∃ f',f=f' + 1:=⟨f - 1,by omega⟩;have hl:=h.1;have hr1:m260_r1 F m (k,x) (z,0)=some (if nod m x=0 then (true,(z,0)) else (false,(nod m x,1))):=by
   unfold m260_r1;dsimp only;rw [m289_spec hm hm2 hl,ob_];by_cases h0:nod m x=0
   ·rw [h0,if_pos rfl];rfl
   ·rw [if_neg h0,show (nod m x != 0)=true by simpa using h0,ct_]
  unfold m309 chE;rw [hr1,ob_];by_cases h0:nod m x=0
  ·rw [if_pos h0,if_pos h0];dsimp only;rw [nt_,cf_];have loop:∀ (n i:Nat),i<=x.Args.length->x.Args.length - i < n ->
     m309_l1 (m309 (m260_r1 F m) f) x k n ((i:Int),(z,0))=if fnz ((x.Args.drop i).map (chE d m))=0 then some (.brk ((x.Args.length:Int),(z,0))) else some (.ret (false,(fnz ((x.Args.drop i).map (chE d m)),1))):=by
    intro n
    induction n with
    | zero=>intro i _ h;omega
    | succ n ihn=>
     intro i hi hn;unfold m309_l1;dsimp only;by_cases h2:i < x.Args.length
     ·rw [lt_dec,dt_ h2,ct_,idx_nat,gE_ h2,ob_,show decide (k<=16)=true by simp;omega,ct_,wr_id (by omega) (by omega),m309e_spec hm hm2 d f x.Args[i] (k + 1) z (h.2 _ (List.getElem_mem h2)) (by omega) (by omega) (by omega),ob_,ct_,List.drop_eq_getElem_cons h2,List.map_cons];unfold fnz;by_cases h3:chE d m x.Args[i]=0
      ·rw [if_pos h3,if_pos h3];dsimp only;rw [nt_,cf_,wr_nat (by omega)];exact ihn (i + 1) (by omega) (by omega)
      ·rw [if_neg h3,if_neg h3,if_neg h3];rfl
     ·rw [lt_dec,df_ h2,cf_,List.drop_eq_nil_of_le (by omega)];have:i=x.Args.length:=by omega
      subst this;rfl
   have h3:=loop f 0 (by omega) (by omega);rw [n0,List.drop_zero] at h3;rw [h3];split <;> rfl
  ·rw [if_neg h0,if_neg h0,if_neg h0];rfl
theorem m260_spec {f:Nat} {n:Int} {x:Expr} (hx:Lt_ x) (hn:0<=n) (hn2:n<=256) (hf:600<=f):m260 f x n=some (chE 16 n x):=by
 unfold m260;obtain ⟨a,b,h⟩:=m287_spec hx hf;rw [df_ (by omega),df_ (by omega),Bool.or_false,cf_,h,ob_];unfold m288 m308;dsimp only;rw [nt_,cf_,ob_,m309e_spec hn hn2 16 f x 1 0 hx.dp (by omega) (by omega) (by omega)];by_cases h0:chE 16 n x=0
 ·rw [if_pos h0,h0];rfl
 ·rw [if_neg h0];rfl
def ev:Nat->List Bool->Expr->Bool
 | 0,_,_=>false
 | d + 1,ls,x=>if x.Op=0 then x.Index == 1 else if x.Op=1 then (idx ls x.Index).getD false else if x.Op=2 then !(x.Args.any (ev d ls)) else if x.Op=3 then x.Args.all (ev d ls) else x.Args.any (ev d ls)
theorem m264_spec:∀ (d f:Nat) (ls:List Bool) (x:Expr),okE d ls.length x->d + 300<=f->m264 f x ls=some (ev d ls x)
 | 0,_,_,_,h,_=>h.elim
 | d + 1,f,ls,x,h,hf=>by
  obtain ⟨f,rfl⟩:∃ f',f=f' + 1:=⟨f - 1,by omega⟩;obtain ⟨hn,hl,ha⟩:=h;obtain ⟨o1,o2,o3,o4,o5,i1,i2⟩:=nod_zero hn;have hev:∀ y∈x.Args,m264 f y ls=some (ev d ls y):=fun y hy=>m264_spec d f ls y (ha y hy) (by omega);unfold m264 ev;by_cases h0:x.Op=0
  ·rw [if_pos h0,show (x.Op == 0)=true by simpa using h0,ct_]
  ·rw [if_neg h0,show (x.Op == 0)=false by simpa using h0,cf_];by_cases h1:x.Op=1
   ·rw [if_pos h1,show (x.Op == 1)=true by simpa using h1,ct_];obtain ⟨b,hb,_⟩:=idx_of i1 (i2 h1);rw [hb];rfl
   ·rw [if_neg h1,show (x.Op == 1)=false by simpa using h1,cf_];by_cases h2:x.Op=2
    ·rw [if_pos h2,show (x.Op == 2)=true by simpa using h2,ct_];obtain ⟨y,hy⟩:=List.length_eq_one_iff.1 (o4 h2);rw [hy,show idx [y] 0=some y by rfl,ob_,hev y (by rw [hy];simp)];simp
    ·rw [if_neg h2,show (x.Op == 2)=false by simpa using h2,cf_];have loop:∀ (n i:Nat) (a b:Bool),i<=x.Args.length->x.Args.length - i < n ->
       m264_l1 (m264 f) x ls n (a,b,(i:Int))=some (a && (x.Args.drop i).all (ev d ls),b || (x.Args.drop i).any (ev d ls),(x.Args.length:Int)):=by
      intro n
      induction n with
      | zero=>intro i _ _ _ h;omega
      | succ n ihn=>
       intro i a b hi hnn;unfold m264_l1;dsimp only;by_cases h3:i < x.Args.length
       ·rw [lt_dec,dt_ h3,ct_,idx_nat,gE_ h3,ob_,hev _ (List.getElem_mem h3),ob_,wr_nat (by omega),ihn (i + 1) _ _ (by omega) (by omega),List.drop_eq_getElem_cons h3,List.all_cons,List.any_cons,Bool.and_assoc,Bool.or_assoc]
       ·rw [lt_dec,df_ h3,cf_,List.drop_eq_nil_of_le (by omega)];have:i=x.Args.length:=by omega
        subst this;simp
     have h3:=loop f 0 true false (by omega) (by omega);rw [n0,List.drop_zero] at h3;rw [h3,ob_];by_cases h4:x.Op=3
     ·simp [h4]
     ·have h5:x.Op=4:=by omega
      simp [h5]
theorem m320_spec:∀ (d f:Nat) (ls:List Bool) (x:Expr),okE d ls.length x->d + 300<=f->m320 f x ls=some (ev d ls x)
 | 0,_,_,_,h,_=>h.elim
 | d + 1,f,ls,x,h,hf=>by
  obtain ⟨f,rfl⟩:∃ f',f=f' + 1:=⟨f - 1,by omega⟩;obtain ⟨hn,hl,ha⟩:=h;obtain ⟨o1,o2,o3,o4,o5,i1,i2⟩:=nod_zero hn;have hev:∀ y∈x.Args,m320 f y ls=some (ev d ls y):=fun y hy=>m320_spec d f ls y (ha y hy) (by omega);unfold m320 ev;by_cases h0:x.Op=0
  ·rw [if_pos h0,show (x.Op == 0)=true by simpa using h0,ct_]
  ·rw [if_neg h0,show (x.Op == 0)=false by simpa using h0,cf_];by_cases h1:x.Op=1
   ·rw [if_pos h1,show (x.Op == 1)=true by simpa using h1,ct_];obtain ⟨b,hb,_⟩:=idx_of i1 (i2 h1);rw [hb];rfl
   ·rw [if_neg h1,show (x.Op == 1)=false by simpa using h1,cf_];by_cases h2:x.Op=2
    ·rw [if_pos h2,show (x.Op == 2)=true by simpa using h2,ct_];obtain ⟨y,hy⟩:=List.length_eq_one_iff.1 (o4 h2);rw [hy,show idx [y] 0=some y by rfl,ob_,hev y (by rw [hy];simp)];simp
    ·rw [if_neg h2,show (x.Op == 2)=false by simpa using h2,cf_];by_cases h3:x.Op=3
     ·rw [if_pos h3,show (x.Op == 3)=true by simpa using h3,ct_];unfold m329 m333;have h5:=srch (L:=m333_l1 (m320 f) f x.Args ls) (xs:=x.Args) (p:=fun _ y=>m330 f (m320 f) y ls) (q:=fun y=>!ev d ls y) (r:=fun z=>z) (fun _ _=>rfl) (by omega) (fun i y hy=>by
       unfold m330;rw [hev y (List.mem_of_getElem? hy)];rfl) f 0 (by omega) (by omega)
      rw [n0,List.drop_zero] at h5;rw [h5];cases h6:x.Args.findIdx? (fun y=>!ev d ls y) with
      | none=>
       rw [List.findIdx?_eq_none_iff] at h6;have:x.Args.all (ev d ls)=true:=List.all_eq_true.2 fun y hy=>by simpa using h6 y hy
       rw [this];rfl
      | some j=>
       obtain ⟨hj,hj2,_⟩:=List.findIdx?_eq_some_iff_getElem.1 h6;have:x.Args.all (ev d ls)=false:=List.all_eq_false.2 ⟨_,List.getElem_mem hj,by simpa using hj2⟩;rw [this];simp
     ·rw [if_neg h3,show (x.Op == 3)=false by simpa using h3,cf_];unfold m329_1 m333_1;have h5:=srch (L:=m333_1_l1 (m320 f) f x.Args ls) (xs:=x.Args) (p:=fun _ y=>m331 f (m320 f) y ls) (q:=fun y=>ev d ls y) (r:=fun z=>z) (fun _ _=>rfl) (by omega) (fun i y hy=>by
       unfold m331;rw [hev y (List.mem_of_getElem? hy)];rfl) f 0 (by omega) (by omega)
      rw [n0,List.drop_zero] at h5;rw [h5];cases h6:x.Args.findIdx? (fun y=>ev d ls y) with
      | none=>
       rw [List.findIdx?_eq_none_iff] at h6;have:x.Args.any (ev d ls)=false:=List.any_eq_false.2 fun y hy=>by simpa using h6 y hy
       rw [this];rfl
      | some j=>
       obtain ⟨hj,hj2,_⟩:=List.findIdx?_eq_some_iff_getElem.1 h6;have:x.Args.any (ev d ls)=true:=List.any_eq_true.2 ⟨_,List.getElem_mem hj,by simpa using hj2⟩;rw [this];simp
def occ:Nat->Int->Expr->Bool
 | 0,_,_=>false
 | d + 1,k,x=>if x.Op=1 then x.Index == k else x.Args.any (occ d k)
theorem m240_spec:∀ (d f:Nat) (k:Int) (x:Expr),dp d x->d + 300<=f->m240 f x k=some (occ d k x)
 | 0,_,_,_,h,_=>h.elim
 | d + 1,f,k,x,h,hf=>by
  obtain ⟨f,rfl⟩:∃ f',f=f' + 1:=⟨f - 1,by omega⟩;have hl:=h.1;unfold m240 occ;by_cases h1:x.Op=1
  ·rw [if_pos h1,show (x.Op == 1)=true by simpa using h1,ct_]
  ·rw [if_neg h1,show (x.Op == 1)=false by simpa using h1,cf_];have h5:=srch (L:=m240_l1 (m240 f) x k) (xs:=x.Args) (p:=fun _ y=>m240 f y k) (q:=fun y=>occ d k y) (r:=fun _=>true) (fun _ _=>rfl) (by omega) (fun i y hy=>m240_spec d f k y (h.2 y (List.mem_of_getElem? hy)) (by omega)) f 0 (by omega) (by omega);rw [n0,List.drop_zero] at h5;rw [h5];cases h6:x.Args.findIdx? (fun y=>occ d k y) with
   | none=>
    rw [List.findIdx?_eq_none_iff] at h6;have:x.Args.any (occ d k)=false:=List.any_eq_false.2 fun y hy=>by simpa using h6 y hy
    rw [this];rfl
   | some j=>
    obtain ⟨hj,hj2,_⟩:=List.findIdx?_eq_some_iff_getElem.1 h6;have:x.Args.any (occ d k)=true:=List.any_eq_true.2 ⟨_,List.getElem_mem hj,by simpa using hj2⟩;rw [this];rfl
def anyv:Nat->(Int->Bool)->Expr->Bool
 | 0,_,_=>false
 | d + 1,p,x=>if x.Op=1 then p x.Index else x.Args.any (anyv d p)
theorem anyv_iff:∀ {d:Nat} {p:Int->Bool} {x:Expr},anyv d p x=true↔∃ k,p k=true/\occ d k x=true
 | 0,p,x=>by simp [anyv,occ]
 | d + 1,p,x=>by
  unfold anyv occ;by_cases h1:x.Op=1
  ·simp only [if_pos h1,beq_iff_eq];exact ⟨fun h=>⟨_,h,rfl⟩,fun ⟨k,h,e⟩=>e ▸ h⟩
  ·simp only [if_neg h1,List.any_eq_true];constructor
   ·rintro ⟨y,hy,h⟩;obtain ⟨k,hk,ho⟩:=anyv_iff.1 h;exact ⟨k,hk,y,hy,ho⟩
   ·rintro ⟨k,hk,y,hy,ho⟩;exact ⟨y,hy,anyv_iff.2 ⟨k,hk,ho⟩⟩
theorem occ_lt:∀ {d:Nat} {n k:Int} {x:Expr},okE d n x->occ d k x=true->0<=k/\k < n
 | 0,_,_,_,h,_=>h.elim
 | d + 1,n,k,x,h,ho=>by
  obtain ⟨hn,hl,ha⟩:=h;obtain ⟨o1,o2,o3,o4,o5,i1,i2⟩:=nod_zero hn;unfold occ at ho;split at ho
  ·rename_i h1;have:x.Index=k:=by simpa using ho
   have:=i2 h1;omega
  ·obtain ⟨y,hy,h⟩:=List.any_eq_true.1 ho;exact occ_lt (ha y hy) h
end Go.Pn
namespace Go.Pn
open Go
theorem srchI {β:Type} {L:Nat->Int->Option (Lo Int β)} {N:Nat} {Q:Nat->Bool} {r:Int->β}
  (h:∀ (n i:Nat),i < N->L (n + 1) (i:Int)=bif Q i then some (.ret (r (i:Int))) else L n ((i + 1:Nat):Int)) (h':∀ (n:Nat),L (n + 1) (N:Int)=some (.brk (N:Int))) :
  ∀ (n i:Nat),i<=N->N - i < n->(∃ k,i<=k/\k < N/\Q k=true/\L n (i:Int)=some (.ret (r (k:Int))))\/(L n (i:Int)=some (.brk (N:Int))/\∀ k,i<=k->k < N->Q k=false)
 | 0,i,_,h=>by omega
 | n + 1,i,h1,h2=>by
  by_cases hi:i < N
  ·rw [h n i hi];cases hq:Q i with
   | true=>exact .inl ⟨i,Nat.le_refl _,hi,hq,rfl⟩
   | false=>
    rw [cf_];rcases srchI h h' n (i + 1) (by omega) (by omega) with ⟨k,h3,h4,h5,h6⟩ | ⟨h3,h4⟩
    ·exact .inl ⟨k,by omega,h4,h5,h6⟩
    ·refine .inr ⟨h3,fun k hk hk2=>?_⟩;rcases Nat.eq_or_lt_of_le hk with rfl | h5
     ·exact hq
     ·exact h4 k h5 hk2
  ·obtain rfl:i=N:=by omega
   exact .inr ⟨h' n,fun k hk hk2=>by omega⟩
def small (b:UInt8):Bool:=decide (97<=b.toNat) && decide (b.toNat<=122)
def great (b:UInt8):Bool:=decide (65<=b.toNat) && decide (b.toNat<=90)
def digit (b:UInt8):Bool:=decide (48<=b.toNat) && decide (b.toNat<=57)
def partb (b:UInt8):Bool:=small b || great b || digit b || (b.toNat == 95)
def wd (s:ByteArray):Bool:=match s.data.toList with
 | []=>false
 | b :: l=>small b && (b :: l).all partb
theorem size_len (s:ByteArray):s.size=s.data.toList.length:=rfl
theorem sidx_nat {s:ByteArray} {i:Nat} (h:i < s.data.toList.length):sidx s (i:Int)=some s.data.toList[i]:=by
 unfold sidx;rw [if_pos (by omega),Int.toNat_natCast];have h1:i < s.size:=by rw [size_len];exact h
 rw [getElem?_pos s i h1];congr 1
theorem dec_lt {s:ByteArray} {i:Nat} (h:i < s.data.toList.length):(s.data.toList[i].toNat < 128->Utf8.decode s i=(s.data.toList[i].toNat,1))/\(128<=s.data.toList[i].toNat->128<=(Utf8.decode s i).1):=by
 have hg:s.get! (i + 0)=s.data.toList[i]:=by
  have h1:i < s.data.size:=by simpa using h
  show s.data[i + 0]! = _;rw [Nat.add_zero,getElem!_pos s.data i h1];simp
 constructor
 ·intro hb;unfold Utf8.decode;simp only [hg];rw [if_pos (by omega)]
 ·intro hb;unfold Utf8.decode;simp only [hg];rw [if_neg (by omega)];split
  ·split
   ·rename_i hx;exact hx
   ·decide
  ·split
   ·split
    ·rename_i hx;simp only [Bool.and_eq_true,decide_eq_true_eq] at hx;exact Nat.le_trans (by decide) hx.1
    ·decide
   ·split
    ·split
     ·rename_i hx;simp only [Bool.and_eq_true,decide_eq_true_eq] at hx;exact Nat.le_trans (by decide) hx.1
     ·decide
    ·decide
theorem u8n {n:Nat} (hn:n < 256):(UInt8.ofNat n).toNat=n:=by
 rw [UInt8.toNat_ofNat'];omega
theorem m263_spec (f:Nat) (b:UInt8):m263 f b=some (partb b):=by
 unfold m263 partb small great digit;simp only [u8n (show 97 < 256 by omega),u8n (show 122 < 256 by omega),u8n (show 65 < 256 by omega),u8n (show 90 < 256 by omega),u8n (show 48 < 256 by omega),u8n (show 57 < 256 by omega),u8n (show 95 < 256 by omega)];congr 1;rw [Bool.eq_iff_iff];simp;omega
theorem partb_le {b:UInt8} (h:partb b=true):b.toNat<=122:=by
 unfold partb small great digit at h;simp at h;omega
theorem m262_spec {f:Nat} {s:ByteArray} {i:Nat} (h:i < s.data.toList.length):m262 f (srn s (i:Int))=some (!partb s.data.toList[i]):=by
 obtain ⟨h1,h2⟩:=dec_lt h;unfold m262 srn;rw [Int.toNat_natCast];simp only [Ik.toI];by_cases hb:s.data.toList[i].toNat < 128
 ·rw [h1 hb];dsimp only;by_cases hc:((s.data.toList[i].toNat:Nat):Int) > 122
  ·rw [dt_ hc,ct_];have:partb s.data.toList[i]=false:=by
    cases hp:partb s.data.toList[i] with
    | false=>rfl
    | true=>have:=partb_le hp;omega
   rw [this];rfl
  ·rw [df_ hc,cf_];have:(Ik.ofI ((s.data.toList[i].toNat:Nat):Int):UInt8)=s.data.toList[i]:=by
    show wr8 _=_;unfold wr8;refine UInt8.toNat_inj.1 ?_;rw [UInt8.toNat_ofNat'];omega
   rw [this,m263_spec];rfl
 ·have h3:=h2 (by omega);rw [dt_ (by simp;omega),ct_];have:partb s.data.toList[i]=false:=by
   cases hp:partb s.data.toList[i] with
   | false=>rfl
   | true=>have:=partb_le hp;omega
  rw [this];rfl
theorem any_of_nat {α:Type} {l:List α} {p:α->Bool}:l.any p=true↔∃ i,∃ h:i < l.length,p l[i]=true:=by
 rw [List.any_eq_true];constructor
 ·rintro ⟨x,hx,h⟩;obtain ⟨i,hi,rfl⟩:=List.getElem_of_mem hx;exact ⟨i,hi,h⟩
 ·rintro ⟨i,hi,h⟩;exact ⟨_,List.getElem_mem hi,h⟩
theorem m261_spec {f:Nat} {s:ByteArray} (hs:s.size < f) (hs2:s.size < 1000000):m261 f s=some (s.data.toList.any fun b=>!partb b):=by
 rw [size_len] at hs hs2;unfold m261 m290 m310;have hl:=srchI (L:=m310_l1 f s true) (N:=s.data.toList.length) (Q:=fun i=>if h:i < s.data.toList.length then !partb s.data.toList[i] else false) (r:=fun z=>z) (fun n i hi=>by
  rw [m310_l1,size_len,lt_dec,dt_ hi,ct_,m262_spec hi,ob_,dif_pos hi];cases hp:partb s.data.toList[i] with
  | true=>
   rw [show ((!true) == true)=false by rfl,cf_];have:snx s (i:Int)=((i + 1:Nat):Int):=by
    unfold snx;rw [if_pos (by rw [size_len];omega),Int.toNat_natCast,(dec_lt hi).1 (by have:=partb_le hp;omega)];rfl
   rw [this];rfl
  | false=>rfl) (fun n=>by
  rw [m310_l1,size_len,lt_dec,df_ (by omega),cf_];unfold snx;rw [if_neg (by rw [size_len];omega)]) f 0 (by omega) (by omega)
 rw [n0] at hl;rcases hl with ⟨k,_,hk,hq,h⟩ | ⟨h,hn⟩
 ·rw [h];rw [dif_pos hk] at hq;rw [any_of_nat.2 ⟨k,hk,hq⟩];simp only [ob_];rw [dt_ (by omega)]
 ·rw [h];have:(s.data.toList.any fun b=>!partb b)=false:=by
   rw [Bool.eq_false_iff];intro ha;obtain ⟨i,hi,h2⟩:=any_of_nat.1 ha;have:=hn i (by omega) hi;rw [dif_pos hi,h2] at this;cases this
  rw [this];rfl
theorem m176_spec {f:Nat} {s:ByteArray} (hs:s.size < f) (hs2:s.size < 1000000):m176 f s=some (wd s):=by
 rw [size_len] at hs hs2;unfold m176;have hl:=srchI (L:=m176_l1 s) (N:=s.data.toList.length) (Q:=fun i=>if h:i < s.data.toList.length then (i == 0 && !small s.data.toList[i]) || !partb s.data.toList[i] else false) (r:=fun _=>false) (fun n i hi=>by
  rw [m176_l1,size_len,lt_dec,dt_ hi,ct_];simp only [sidx_nat hi,ob_,cs_,u8n (show 97 < 256 by omega),u8n (show 122 < 256 by omega),u8n (show 65 < 256 by omega),u8n (show 90 < 256 by omega),u8n (show 48 < 256 by omega),u8n (show 57 < 256 by omega),u8n (show 95 < 256 by omega)];rw [dif_pos hi,wr_nat (by omega)];congr 1;rw [Bool.eq_iff_iff];unfold partb small great digit;simp;generalize s.data.toList[i].toNat=b;omega) (fun n=>by
  rw [m176_l1,size_len,lt_dec,df_ (by omega),cf_]) f 0 (by omega) (by omega)
 rw [n0] at hl;have hemp:(s.toList == (⟨#[]⟩:ByteArray).toList)=(s.data.toList == []):=by
  rw [ByteArray.toList_eq,ByteArray.toList_eq]
 rcases hl with ⟨k,_,hk,hq,h⟩ | ⟨h,hn⟩
 ·rw [h,ob_];rw [dif_pos hk] at hq;dsimp only;congr 1
  symm
  unfold wd;cases hd:s.data.toList with
  | nil=>rfl
  | cons b l=>
   have hk':k < (b :: l).length:=by rw [← hd];exact hk
   have hg:s.data.toList[k]=(b :: l)[k]:=by simp [hd]
   rw [hg] at hq;dsimp only;rw [Bool.and_eq_false_iff];rcases Bool.or_eq_true_iff.1 hq with h1 | h1
   ·left;obtain ⟨h2,h3⟩:=Bool.and_eq_true_iff.1 h1;obtain rfl:k=0:=by simpa using h2
    simpa using h3
   ·right;exact List.all_eq_false.2 ⟨_,List.getElem_mem hk',by simpa using h1⟩
 ·rw [h,ob_,hemp];dsimp only;congr 1;unfold wd;cases hd:s.data.toList with
  | nil=>rfl
  | cons b l=>
   have hb:∀ (k:Nat) (hk:k < (b :: l).length),((k == 0 && !small (b :: l)[k]) || !partb (b :: l)[k])=false:=by
    intro k hk;have hk':k < s.data.toList.length:=by rw [hd];exact hk
    have:=hn k (by omega) hk';rw [dif_pos hk'] at this;have hg:s.data.toList[k]=(b :: l)[k]:=by simp [hd]
    rw [hg] at this;exact this
   have h1:=hb 0 (by simp);simp at h1;dsimp only;rw [h1.1,Bool.true_and];have:(b :: l).all partb=true:=by
    rw [List.all_eq_true];intro x hx;obtain ⟨i,hi,rfl⟩:=List.getElem_of_mem hx;have:=hb i hi;rw [Bool.or_eq_false_iff] at this;simpa using this.2
   rw [this];rfl
def fx (i:Nat):ByteArray:=⟨#[UInt8.ofNat (97 + i / 2),UInt8.ofNat (48 + i % 2)]⟩
def cA (c:Control):Nat:=c.Actuators.toNat
def cS (c:Control):Nat:=2 * cA c + c.Inputs.length
def cL (c:Control):Nat:=cS c + c.Signals.length
def nmF (c:Control) (i:Nat):ByteArray:=if i < 2 * cA c then fx i else if i < cS c then c.Inputs.getD (i - 2 * cA c) ⟨#[]⟩ else ((c.Signals[i - cS c]?).map (·.Name)).getD ⟨#[]⟩
structure Bd_ (c:Control):Prop where
 a1:1<=c.Actuators
 a6:c.Actuators<=6
 i:c.Inputs.length<=16
 s:c.Signals.length<=16
theorem Bd_.a {c:Control} (h:Bd_ c):c.Actuators=(cA c:Int):=by
 have:=h.a1;unfold cA;omega
theorem Bd_.a' {c:Control} (h:Bd_ c):1<=cA c/\cA c<=6:=by
 have:=h.a1;have:=h.a6;unfold cA;omega
theorem Bd_.wa {c:Control} (h:Bd_ c):wr ((2:Int) * c.Actuators)=((2 * cA c:Nat):Int):=by
 have:=h.a;have:=h.a';rw [wr_id (by omega) (by omega)];omega
theorem m177_spec {f:Nat} {c:Control} (h:Bd_ c):m177 f c=some (cS c:Int):=by
 have:=h.a';have:=h.i;unfold m177;rw [h.wa,wr_id (by omega) (by omega)];unfold cS;congr 1
theorem m248_spec {f:Nat} {c:Control} (h:Bd_ c):m248 f c=some (cS c:Int):=m177_spec (f:=f) h
theorem m179_spec {f:Nat} {c:Control} (h:Bd_ c):m179 f c=some (cL c:Int):=by
 have:=h.a';have:=h.i;have:=h.s;unfold m179;have e:wr (((2 * cA c:Nat):Int) + (c.Inputs.length:Int))=((2 * cA c:Nat):Int) + (c.Inputs.length:Int):=wr_id (by omega) (by omega);rw [h.wa,e,wr_id (by omega) (by omega)];unfold cL cS;congr 1
theorem m227_spec {f:Nat} {c:Control} (h:Bd_ c):m227 f c=some (cL c:Int):=by
 have:=h.a';have:=h.i;have:=h.s;unfold m227;rw [m248_spec h,ob_,wr_id (by unfold cS;omega) (by unfold cS;omega)];unfold cL;congr 1
theorem ref_fx_tab:((List.range 12).all fun i=>decide (((ssl (⟨#[97,98,99,100,101,102]⟩:ByteArray) (wr ((i:Int).tdiv (2:Int))) (wr ((wr ((i:Int).tdiv (2:Int))) + (1:Int)))).bind fun x1=>(ssl (⟨#[48,49]⟩:ByteArray) ((i:Int).tmod (2:Int)) (wr (((i:Int).tmod (2:Int)) + (1:Int)))).bind fun x2=>(cat x1 x2).bind fun x3=>some x3)=some (fx i)))=true:=by kernel_rfl
theorem ref_fx:∀ i:Nat,i < 12->((ssl (⟨#[97,98,99,100,101,102]⟩:ByteArray) (wr ((i:Int).tdiv (2:Int))) (wr ((wr ((i:Int).tdiv (2:Int))) + (1:Int)))).bind fun x1=>(ssl (⟨#[48,49]⟩:ByteArray) ((i:Int).tmod (2:Int)) (wr (((i:Int).tmod (2:Int)) + (1:Int)))).bind fun x2=>(cat x1 x2).bind fun x3=>some x3)=some (fx i):=fun i h=>of_decide_eq_true (List.all_eq_true.1 ref_fx_tab i (List.mem_range.2 h))
theorem pro_fx_tab:((List.range 12).all fun i=>decide (((cat (runeStr (Ik.toI (Ik.ofI (Ik.toI (wr ((97:Int) + (wr ((i:Int).tdiv (2:Int)))))):Kd .i32))) (runeStr (Ik.toI (Ik.ofI (Ik.toI (wr ((48:Int) + ((i:Int).tmod (2:Int))))):Kd .i32)))).bind fun x2=>some x2)=some (fx i)))=true:=by kernel_rfl
theorem pro_fx:∀ i:Nat,i < 12->((cat (runeStr (Ik.toI (Ik.ofI (Ik.toI (wr ((97:Int) + (wr ((i:Int).tdiv (2:Int)))))):Kd .i32))) (runeStr (Ik.toI (Ik.ofI (Ik.toI (wr ((48:Int) + ((i:Int).tmod (2:Int))))):Kd .i32)))).bind fun x2=>some x2)=some (fx i):=fun i h=>of_decide_eq_true (List.all_eq_true.1 pro_fx_tab i (List.mem_range.2 h))
theorem m175_spec {f:Nat} {c:Control} (h:Bd_ c) {i:Nat} (hi:i < cL c):m175 f c (i:Int)=some (nmF c i):=by
 have h1:=h.a';have h2:=h.i;have h3:=h.s;have hS:cS c=2 * cA c + c.Inputs.length:=rfl;have hL:cL c=cS c + c.Signals.length:=rfl;unfold m175 nmF;rw [h.wa,lt_dec];by_cases h4:i < 2 * cA c
 ·rw [dt_ h4,ct_,if_pos h4];exact ref_fx i (by omega)
 ·rw [df_ h4,cf_,if_neg h4,m177_spec h,ob_,lt_dec];by_cases h5:i < cS c
  ·rw [dt_ h5,ct_,if_pos h5,wr_id (by omega) (by omega),show (i:Int) - ((2 * cA c:Nat):Int)=((i - 2 * cA c:Nat):Int) by omega,idx_nat,gE_ (by omega)];simp [gE_ (show i - 2 * cA c < c.Inputs.length by omega)]
  ·rw [df_ h5,cf_,if_neg h5,ob_,wr_id (by omega) (by omega),show (i:Int) - (cS c:Int)=((i - cS c:Nat):Int) by omega,idx_nat,gE_ (by omega)];rfl
theorem m223_spec {f:Nat} {c:Control} (h:Bd_ c) {i:Nat} (hi:i < cL c):m223 f c (i:Int)=some (nmF c i):=by
 have h1:=h.a';have h2:=h.i;have h3:=h.s;have hS:cS c=2 * cA c + c.Inputs.length:=rfl;have hL:cL c=cS c + c.Signals.length:=rfl;unfold m223 nmF;rw [m248_spec h,ob_,h.wa,lt_dec];by_cases h4:i < 2 * cA c
 ·rw [dt_ h4,ct_,if_pos h4];exact pro_fx i (by omega)
 ·rw [df_ h4,cf_,if_neg h4,lt_dec];by_cases h5:i < cS c
  ·rw [dt_ h5,ct_,if_pos h5,wr_id (by omega) (by omega),show (i:Int) - ((2 * cA c:Nat):Int)=((i - 2 * cA c:Nat):Int) by omega,idx_nat,gE_ (by omega)];simp [gE_ (show i - 2 * cA c < c.Inputs.length by omega)]
  ·rw [df_ h5,cf_,if_neg h5,wr_id (by omega) (by omega),show (i:Int) - (cS c:Int)=((i - cS c:Nat):Int) by omega,idx_nat,gE_ (by omega)];rfl
def nme (c:Control) (i:Nat):Int:=if wd (nmF c i) then (if (nmF c i).size > 24 then 17 else if (List.range i).any (fun j=>(nmF c j).data.toList == (nmF c i).data.toList) then 7 else 0) else 3
theorem m105_spec {f:Nat} {c:Control} (h:Bd_ c) {i:Nat} (hi:i < cL c) (hn:(nmF c i).size<=200) (hf:600<=f):m105 f c (i:Int)=some (nme c i):=by
 have h1:=h.a';have h2:=h.i;have h3:=h.s;have hS:cS c=2 * cA c + c.Inputs.length:=rfl;have hL:cL c=cS c + c.Signals.length:=rfl;unfold m105 nme;rw [m175_spec h hi,ob_,m176_spec (by omega) (by omega),ob_];cases hw:wd (nmF c i) with
 | false=>rfl
 | true=>
  rw [nt_,cf_,if_pos rfl];by_cases h24:(nmF c i).size > 24
  ·rw [dt_ (by omega),ct_,if_pos h24]
  ·rw [df_ (by omega),cf_,if_neg h24];have hl:=srchI (L:=m105_l1 f c (i:Int) (nmF c i)) (N:=i) (Q:=fun j=>(nmF c j).data.toList == (nmF c i).data.toList) (r:=fun _=>7) (fun n j hj=>by
    rw [m105_l1,lt_dec,dt_ hj,ct_,m175_spec h (by omega),ob_,ByteArray.toList_eq,ByteArray.toList_eq,wr_nat (by omega)]) (fun n=>by
    rw [m105_l1,lt_dec,df_ (by omega),cf_]) f 0 (by omega) (by omega)
   rw [n0] at hl;rcases hl with ⟨k,_,hk,hq,h⟩ | ⟨h,hn⟩
   ·rw [h,if_pos (List.any_eq_true.2 ⟨k,List.mem_range.2 hk,hq⟩)];rfl
   ·rw [h,if_neg ?_]
    ·rfl
    ·intro ha;obtain ⟨k,hk,h4⟩:=List.any_eq_true.1 ha;have:=hn k (by omega) (List.mem_range.1 hk);rw [this] at h4;cases h4
def Kept (c:Control) (i:Nat) (m:List (ByteArray×Int)):Prop:=∀ s:ByteArray,(mat eqqS m s).isSome=(List.range i).any fun j=>(nmF c j).data.toList == s.data.toList
theorem eqqS_eq {a b:ByteArray}:eqqS a b=true↔a=b:=by
 unfold eqqS;obtain ⟨⟨x⟩⟩:=a;obtain ⟨⟨y⟩⟩:=b;simp
theorem mat_putS {m:List (ByteArray×Int)} {k j:ByteArray} {y:Int}:mat eqqS (mput eqqS m k y) j=if j=k then some y else mat eqqS m j:=by
 induction m with
 | nil=>
  show mat eqqS [(k,y)] j=_;rw [mat_cons];by_cases h:j=k
  ·rw [if_pos (eqqS_eq.2 h),if_pos h]
  ·rw [if_neg (fun e=>h (eqqS_eq.1 e)),if_neg h]
 | cons p m ih=>
  obtain ⟨k',z⟩:=p;rw [mput_cons,mat_cons];by_cases h:k=k'
  ·subst h;rw [if_pos (eqqS_eq.2 rfl),mat_cons];by_cases h2:j=k
   ·rw [if_pos (eqqS_eq.2 h2),if_pos h2]
   ·rw [if_neg (fun e=>h2 (eqqS_eq.1 e)),if_neg h2,if_neg (fun e=>h2 (eqqS_eq.1 e))]
  ·rw [if_neg (fun e=>h (eqqS_eq.1 e)),mat_cons,ih];by_cases h2:j=k'
   ·subst h2;rw [if_pos (eqqS_eq.2 rfl),if_neg (fun e=>h e.symm),if_pos (eqqS_eq.2 rfl)]
   ·rw [if_neg (fun e=>h2 (eqqS_eq.1 e)),if_neg (fun e=>h2 (eqqS_eq.1 e))]
theorem Kept.zero (c:Control):Kept c 0 []:=fun s=>rfl
theorem Kept.put {c:Control} {i:Nat} {m:List (ByteArray×Int)} (h:Kept c i m) (y:Int):Kept c (i + 1) (mput eqqS m (nmF c i) y):=by
 intro s;rw [mat_putS,List.range_succ,List.any_append];by_cases e:s=nmF c i
 ·rw [if_pos e,e];simp
 ·rw [if_neg e,h s];have:((nmF c i).data.toList == s.data.toList)=false:=by
   cases hb:((nmF c i).data.toList == s.data.toList) with
   | false=>rfl
   | true=>exact absurd (eqqS_eq.1 hb).symm e
  rw [List.any_cons,List.any_nil,Bool.or_false,this,Bool.or_false]
theorem m224_spec {f:Nat} {c:Control} (h:Bd_ c) {i:Nat} (hn:(nmF c i).size<=200) (hf:600<=f) {m:List (ByteArray×Int)} (hm:Kept c i m) (a b c' d e) :
  ∃ m',m224 f (nmF c i) a b c' d e m=some (nme c i,m')/\(nme c i=0->Kept c (i + 1) m'):=by
 unfold m224 nme;have hemp:((nmF c i).toList == (⟨#[]⟩:ByteArray).toList)=((nmF c i).data.toList == []):=by
  rw [ByteArray.toList_eq,ByteArray.toList_eq]
 rw [hemp,m261_spec (by omega) (by omega)];have hwd:∀ (k:Bool->Option (Int×List (ByteArray×Int))),((bif ((nmF c i).data.toList == []) then some true else (sidx (nmF c i) (0:Int)).bind fun x1=>some (decide ((x1.toNat:Int) < (UInt8.ofNat 97).toNat))).bind fun r2=>(bif r2 then some true else (sidx (nmF c i) (0:Int)).bind fun x3=>some (decide ((x3.toNat:Int) > (UInt8.ofNat 122).toNat))).bind fun r4=>(bif r4 then some true else (some ((nmF c i).data.toList.any fun b=>!partb b)).bind fun x5=>some x5).bind k)=k (!wd (nmF c i)):=by
  intro k;cases hd:(nmF c i).data.toList with
  | nil=>unfold wd;rw [hd];rfl
  | cons b l=>
   have h0:sidx (nmF c i) (0:Int)=some b:=by
    have:=sidx_nat (s:=nmF c i) (i:=0) (by rw [hd];simp);rw [n0] at this;rw [this];simp [hd]
   unfold wd;rw [h0,hd];simp only [ob_,cs_,u8n (show 97 < 256 by omega),u8n (show 122 < 256 by omega)];congr 1;rw [Bool.eq_iff_iff];unfold small;simp only [List.all_eq_not_any_not];cases (b :: l).any (fun b=>!partb b) <;> simp <;> omega
 rw [hwd];cases hw:wd (nmF c i) with
 | false=>exact ⟨m,rfl,fun h=>by simp at h⟩
 | true=>
  rw [nt_,cf_,if_pos rfl];by_cases h24:(nmF c i).size > 24
  ·rw [dt_ (by omega),ct_,if_pos h24];exact ⟨m,rfl,fun h=>by simp at h⟩
  ·rw [df_ (by omega),cf_,if_neg h24,hm (nmF c i)];cases hx:(List.range i).any (fun j=>(nmF c j).data.toList == (nmF c i).data.toList) with
   | true=>exact ⟨m,rfl,fun h=>by simp at h⟩
   | false=>exact ⟨_,rfl,fun _=>hm.put _⟩
end Go.Pn
namespace Go.Pn
open Go
def fnzr (E:Nat->Int):Nat->Nat->Int
 | 0,_=>0
 | k + 1,i=>if E i=0 then fnzr E k (i + 1) else E i
theorem fnzr_zero {E:Nat->Int}:∀ {k i:Nat},fnzr E k i=0->∀ j,i<=j->j < i + k->E j=0
 | 0,_,_,j,h1,h2=>by omega
 | k + 1,i,h,j,h1,h2=>by
  unfold fnzr at h;split at h
  ·rcases Nat.eq_or_lt_of_le h1 with rfl | h3
   ·assumption
   ·exact fnzr_zero h j h3 (by omega)
  ·contradiction
theorem fnzI {S σ β:Type} {L:Nat->S->Option (Lo S β)} {mk:Nat->σ->S} {N:Nat} {E:Nat->Int} {r:Int->β} {I:Nat->σ->Prop}
  (h:∀ (n i:Nat) s,i < N->I i s->(E i=0->∃ s',I (i + 1) s'/\L (n + 1) (mk i s)=L n (mk (i + 1) s'))/\(E i≠0->L (n + 1) (mk i s)=some (.ret (r (E i)))))
  (h':∀ (n:Nat) s,I N s->L (n + 1) (mk N s)=some (.brk (mk N s))) :
  ∀ (k n i:Nat) s,i + k=N->k < n->I i s->(fnzr E k i=0/\∃ s',I N s'/\L n (mk i s)=some (.brk (mk N s')))\/(fnzr E k i≠0/\L n (mk i s)=some (.ret (r (fnzr E k i))))
 | 0,0,i,s,_,h2,_=>by omega
 | 0,n + 1,i,s,h1,h2,hI=>by
  obtain rfl:i=N:=by omega
  exact .inl ⟨rfl,s,hI,h' n s hI⟩
 | k + 1,0,i,s,_,h2,_=>by omega
 | k + 1,n + 1,i,s,h1,h2,hI=>by
  obtain ⟨a,b⟩:=h n i s (by omega) hI;unfold fnzr;by_cases e:E i=0
  ·obtain ⟨s',hs,hl⟩:=a e;rw [if_pos e,hl];exact fnzI h h' k n (i + 1) s' (by omega) (by omega) hs
  ·rw [if_neg e];exact .inr ⟨e,b e⟩
def zrx (x:Expr):Bool:=((x.Op == (0:Int)) && (x.Index == (0:Int))) && (((x.Args).length:Int) == (0:Int))
theorem m181_spec {f:Nat} {x:Expr}:m181 f x=some (zrx x):=rfl
theorem m259_spec {f:Nat} {x:Expr}:m259 f x=some (zrx x):=rfl
structure Fw (c:Control):Prop where
 i:∀ s∈c.Inputs,s.size<=200
 n:∀ x∈c.Signals,x.Name.size<=200
 on:∀ x∈c.Signals,Lt_ x.On/\m78 FF x.On=some true
 off:∀ x∈c.Signals,Lt_ x.Off/\m78 FF x.Off=some true
theorem Fw.nm {c:Control} (h:Fw c) (i:Nat):(nmF c i).size<=200:=by
 unfold nmF;split
 ·show 2<=200;omega
 ·split
  ·rw [List.getD_eq_getElem?_getD];cases hx:c.Inputs[i - 2 * cA c]? with
   | none=>show 0<=200;omega
   | some s=>exact h.i s (List.mem_of_getElem? hx)
  ·cases hx:c.Signals[i - cS c]? with
   | none=>show 0<=200;omega
   | some x=>exact h.n x (List.mem_of_getElem? hx)
def gate (c:Control) (k:Nat):Bool:=match c.Signals[k]? with | some y=>y.Kind == 0 | none=>false
def late (c:Control) (i:Nat) (x:Signal):Bool:=(List.range c.Signals.length).any fun k=>decide (i<=k) && (gate c k && occ 16 ((cS c + k:Nat):Int) x.On)
def sge (c:Control) (i:Nat) (x:Signal):Int:=
 if nme c (cS c + i)≠0 then nme c (cS c + i) else if x.Kind < 0\/3<=x.Kind then 1 else if chE 16 (cL c) x.On≠0 then chE 16 (cL c) x.On else
 if x.Kind=1 then (if chE 16 (cL c) x.Off≠0 then chE 16 (cL c) x.Off else if x.Delay≠0 then 3 else 0)
 else if x.Kind=0 then (if late c i x=true then 9 else if (!zrx x.Off || x.Init || x.Delay != 0)=true then 3 else 0)
 else (if x.Delay < 1\/x.Delay > 1000000 then 2 else if (!zrx x.Off || x.Init)=true then 3 else 0)
theorem m180_spec {c:Control} (h:Bd_ c) {i:Nat} {x:Signal} (hx:c.Signals[i]?=some x) (hd:dp 16 x.On):m180 FF c (i:Int)=some (late c i x):=by
 have h1:=h.a';have h2:=h.i;have h3:=h.s;have hS:cS c=2 * cA c + c.Inputs.length:=rfl;have hi:=(List.getElem?_eq_some_iff.1 hx).1;unfold m180;have hl:=srchI (L:=m180_l1 FF c (i:Int)) (N:=c.Signals.length) (Q:=fun k=>gate c k && occ 16 ((cS c + k:Nat):Int) x.On) (r:=fun _=>true) (fun n k hk=>by
  rw [m180_l1,lt_dec,dt_ hk,ct_,idx_nat,gE_ hk,ob_,wr_nat (by omega)];unfold gate;rw [gE_ hk];dsimp only;cases hg:(c.Signals[k].Kind == 0) with
  | false=>rfl
  | true=>
   rw [ct_,idx_nat,hx,ob_,m177_spec h,ob_,wr_id (by omega) (by omega),show (cS c:Int) + (k:Int)=((cS c + k:Nat):Int) by omega,m240_spec 16 FF _ _ hd (by unfold FF;omega)];simp only [ob_,Bool.true_and]) (fun n=>by
  rw [m180_l1,lt_dec,df_ (by omega),cf_]) FF i (by omega) (by unfold FF;omega)
 unfold late;rcases hl with ⟨k,hk1,hk,hq,h⟩ | ⟨h,hn⟩
 ·rw [h,List.any_eq_true.2 ⟨k,List.mem_range.2 hk,by rw [hq,dt_ hk1];rfl⟩];rfl
 ·rw [h];have:((List.range c.Signals.length).any fun k=>decide (i<=k) && (gate c k && occ 16 ((cS c + k:Nat):Int) x.On))=false:=by
   rw [List.any_eq_false];intro k hk;have hk:=List.mem_range.1 hk;by_cases hik:i<=k
   ·rw [hn k hik hk];simp
   ·rw [df_ hik];simp
  rw [this];rfl
theorem m106_spec {c:Control} (h:Bd_ c) (hw:Fw c) {i:Nat} {x:Signal} (hx:c.Signals[i]?=some x):m106 FF c (i:Int)=some (sge c i x):=by
 have h1:=h.a';have h2:=h.i;have h3:=h.s;have hS:cS c=2 * cA c + c.Inputs.length:=rfl;have hL:cL c=cS c + c.Signals.length:=rfl;have hi:=(List.getElem?_eq_some_iff.1 hx).1;have hxm:=List.mem_of_getElem? hx;obtain ⟨on1,on2⟩:=hw.on x hxm;obtain ⟨of1,of2⟩:=hw.off x hxm;have hF:600<=FF:=by unfold FF;omega
 unfold m106 sge;rw [idx_nat,hx,ob_,m177_spec h,ob_,wr_id (by omega) (by omega),show (cS c:Int) + (i:Int)=((cS c + i:Nat):Int) by omega,m105_spec h (by omega) (hw.nm _) hF,ob_];by_cases e1:nme c (cS c + i)=0
 ·rw [e1,if_neg (by simp),zf_,cf_];by_cases e2:x.Kind < 0\/3<=x.Kind
  ·rw [if_pos e2,show (decide (x.Kind < (0:Int)) || decide (x.Kind>=(3:Int)))=true by simpa using e2,ct_]
  ·rw [if_neg e2,show (decide (x.Kind < (0:Int)) || decide (x.Kind>=(3:Int)))=false by simp;omega,cf_,m179_spec h,ob_,m178_spec on1 on2 (by omega) (by omega) hF,ob_];by_cases e3:chE 16 (cL c) x.On=0
   ·rw [e3,if_neg (by simp),zf_,cf_];have hk:x.Kind=0\/x.Kind=1\/x.Kind=2:=by omega
    rcases hk with k | k | k <;> rw [k]
    ·simp only [show ((0:Int) == 1)=false by rfl,show ((0:Int) == 0)=true by rfl,show ((0:Int) == 2)=false by rfl,cf_,ct_,Bool.false_and,Bool.not_false,Bool.true_and];rw [m180_spec h hx on1.dp,ob_,ob_,m181_spec,ob_,ob_];simp only [show ¬ ((0:Int)=1) by omega,if_false,if_true];cases late c i x with
     | true=>rfl
     | false=>
      simp only [cf_];cases zrx x.Off <;> cases x.Init <;> cases (x.Delay != 0) <;> rfl
    ·simp only [show ((1:Int) == 1)=true by rfl,show ((1:Int) == 0)=false by rfl,show ((1:Int) == 2)=false by rfl,cf_,ct_,Bool.false_and,Bool.not_false,Bool.true_and,Bool.not_true,Bool.false_or,if_true];rw [ob_,m178_spec of1 of2 (by omega) (by omega) hF,ob_];by_cases e4:chE 16 (cL c) x.Off=0
     ·rw [e4,zf_,cf_,if_neg (by simp),ob_,cf_,ob_,Bool.false_or];by_cases e5:x.Delay=0
      ·rw [if_neg (by simpa using e5),e5];rfl
      ·rw [if_pos e5,show (x.Delay != 0)=true by simpa using e5];rfl
     ·rw [if_pos e4,show (chE 16 (cL c) x.Off != 0)=true by simpa using e4,ct_]
    ·simp only [show ((2:Int) == 1)=false by rfl,show ((2:Int) == 0)=false by rfl,show ((2:Int) == 2)=true by rfl,cf_,ct_,Bool.false_and,Bool.not_false,Bool.true_and,Bool.not_true,Bool.or_false,if_true,show ¬ ((2:Int)=1) by omega,show ¬ ((2:Int)=0) by omega,if_false,ob_];rw [m181_spec,ob_];by_cases e5:x.Delay < 1\/x.Delay > 1000000
     ·rw [if_pos e5,show (decide (x.Delay < (1:Int)) || decide (x.Delay > (1000000:Int)))=true by simpa using e5,ct_]
     ·rw [if_neg e5,show (decide (x.Delay < (1:Int)) || decide (x.Delay > (1000000:Int)))=false by simp;omega,cf_,ob_];cases zrx x.Off <;> cases x.Init <;> rfl
   ·rw [if_pos e3,show (chE 16 (cL c) x.On != 0)=true by simpa using e3,ct_]
 ·rw [if_pos e1,show (nme c (cS c + i) != 0)=true by simpa using e1,ct_]
def pr (c:Control) (i:Nat) (k:Int):Bool:=decide (k - (cS c:Int)>=(i:Int)) && gate c (k - (cS c:Int)).toNat
theorem m258_spec {f:Nat} {c:Control} (h:Bd_ c) {i:Nat} {k:Int} (hk0:0<=k) (hk:k < cL c) (m:List (ByteArray×Int)) (b:Bool) :
  m258 f k (i:Int) c.Actuators c.Inputs c.Signals c.Plus c.Minus m b=some (b || pr c i k):=by
 have h1:=h.a';have h2:=h.i;have h3:=h.s;have hS:cS c=2 * cA c + c.Inputs.length:=rfl;have hL:cL c=cS c + c.Signals.length:=rfl;unfold m258 pr;have e:(⟨c.Actuators,c.Inputs,c.Signals,c.Plus,c.Minus⟩:Control)=c:=rfl;rw [e,m248_spec h,ob_,wr_id (by omega) (by omega)];cases b with
 | true=>rfl
 | false=>
  rw [cf_,Bool.false_or];by_cases hg:k - (cS c:Int)>=(i:Int)
  ·obtain ⟨j,hj⟩:=Int.eq_ofNat_of_zero_le (show 0<=k - (cS c:Int) by omega);rw [dt_ hg,ct_,hj,idx_nat,gE_ (by omega),ob_,ob_,ob_];unfold gate;rw [show ((j:Int)).toNat=j by simp,gE_ (by omega)];rfl
  ·rw [df_ hg];rfl
theorem m286_spec {c:Control} (h:Bd_ c) {i:Nat} (m:List (ByteArray×Int)):∀ (d f:Nat) (x:Expr) (b:Bool),okE d (cL c) x->d + 300<=f ->
  m286 f x c.Actuators c.Inputs c.Signals c.Plus c.Minus m b (i:Int)=some (b || anyv d (pr c i) x)
 | 0,_,_,_,h,_=>h.elim
 | d + 1,f,x,b,ho,hf=>by
  obtain ⟨f,rfl⟩:∃ f',f=f' + 1:=⟨f - 1,by omega⟩;obtain ⟨hn,hl,ha⟩:=ho;obtain ⟨o1,o2,o3,o4,o5,i1,i2⟩:=nod_zero hn;unfold m286 anyv;have loop:∀ (n j:Nat) (b:Bool),j<=x.Args.length->x.Args.length - j < n ->
    m286_l1 (m286 f) x c.Actuators c.Inputs c.Signals c.Plus c.Minus m (i:Int) n ((j:Int),b)=some ((x.Args.length:Int),b || (x.Args.drop j).any (anyv d (pr c i))):=by
   intro n
   induction n with
   | zero=>intro j _ _ h;omega
   | succ n ihn=>
    intro j b hj hnn;unfold m286_l1;dsimp only;by_cases h3:j < x.Args.length
    ·rw [lt_dec,dt_ h3,ct_,idx_nat,gE_ h3,ob_,m286_spec h m d f _ b (ha _ (List.getElem_mem h3)) (by omega),ob_,wr_nat (by omega),ihn (j + 1) _ (by omega) (by omega),List.drop_eq_getElem_cons h3,List.any_cons,Bool.or_assoc]
    ·rw [lt_dec,df_ h3,cf_,List.drop_eq_nil_of_le (by omega)];have:j=x.Args.length:=by omega
     subst this;simp
  by_cases h1:x.Op=1
  ·rw [if_pos h1,show (x.Op == 1)=true by simpa using h1,ct_,m258_spec h i1 (i2 h1),ob_,ob_];have h3:=loop f 0 (b || pr c i x.Index) (by omega) (by omega);rw [n0,List.drop_zero] at h3;rw [h3,o3 (by omega)];simp
  ·rw [if_neg h1,show (x.Op == 1)=false by simpa using h1,cf_,ob_];have h3:=loop f 0 b (by omega) (by omega);rw [n0,List.drop_zero] at h3;rw [h3];rfl
theorem late_eq {c:Control} {i:Nat} {x:Signal} (ho:okE 16 (cL c) x.On):anyv 16 (pr c i) x.On=late c i x:=by
 have hL:cL c=cS c + c.Signals.length:=rfl;rw [Bool.eq_iff_iff,anyv_iff];unfold late;rw [List.any_eq_true];constructor
 ·rintro ⟨k,hp,hk⟩;have hl:=occ_lt ho hk;unfold pr at hp;rw [Bool.and_eq_true] at hp;obtain ⟨hp1,hp2⟩:=hp;have hp1:k - (cS c:Int)>=(i:Int):=by simpa using hp1
  refine ⟨(k - (cS c:Int)).toNat,List.mem_range.2 (by omega),?_⟩;rw [dt_ (by omega),hp2,show ((cS c + (k - (cS c:Int)).toNat:Nat):Int)=k by omega,hk];rfl
 ·rintro ⟨j,hj,hq⟩;rw [Bool.and_eq_true,Bool.and_eq_true] at hq;obtain ⟨h1,h2,h3⟩:=hq;have h1:i<=j:=by simpa using h1
  refine ⟨_,?_,h3⟩;unfold pr;rw [show ((cS c + j:Nat):Int) - (cS c:Int)=(j:Int) by omega,show ((j:Int)).toNat=j by simp,h2,dt_ (by omega)];rfl
theorem m225_spec {c:Control} (h:Bd_ c) (hw:Fw c) {i:Nat} {x:Signal} (hx:c.Signals[i]?=some x) {m:List (ByteArray×Int)} (hm:Kept c (cS c + i) m) :
  ∃ m',m225 FF (i:Int) c.Actuators c.Inputs c.Signals c.Plus c.Minus m=some (sge c i x,m')/\(sge c i x=0->Kept c (cS c + (i + 1)) m'):=by
 have h1:=h.a';have h2:=h.i;have h3:=h.s;have hS:cS c=2 * cA c + c.Inputs.length:=rfl;have hL:cL c=cS c + c.Signals.length:=rfl;have hi:=(List.getElem?_eq_some_iff.1 hx).1;have hxm:=List.mem_of_getElem? hx;obtain ⟨on1,on2⟩:=hw.on x hxm;obtain ⟨of1,of2⟩:=hw.off x hxm;have hF:600<=FF:=by unfold FF;omega
 have hnm:nmF c (cS c + i)=x.Name:=by
  unfold nmF;rw [if_neg (by omega),if_neg (by omega),show cS c + i - cS c=i by omega,hx];rfl
 have e:(⟨c.Actuators,c.Inputs,c.Signals,c.Plus,c.Minus⟩:Control)=c:=rfl;unfold m225 sge;obtain ⟨m',hm',hk'⟩:=m224_spec h (hw.nm (cS c + i)) hF hm c.Actuators c.Inputs c.Signals c.Plus c.Minus;rw [hnm] at hm';rw [idx_nat,hx,ob_,hm',ob_];dsimp only;refine ⟨m',?_,fun h0=>?_⟩
 ·by_cases e1:nme c (cS c + i)=0
  ·rw [e1,if_neg (by simp),zf_,cf_];by_cases e2:x.Kind < 0\/3<=x.Kind
   ·rw [if_pos e2,show (decide (x.Kind < (0:Int)) || decide (x.Kind>=(3:Int)))=true by simpa using e2,ct_]
   ·rw [if_neg e2,show (decide (x.Kind < (0:Int)) || decide (x.Kind>=(3:Int)))=false by simp;omega,cf_,e,m227_spec h,ob_,m260_spec on1 (by omega) (by omega) hF,ob_];by_cases e3:chE 16 (cL c) x.On=0
    ·rw [e3,if_neg (by simp),zf_,cf_];have hok:=okE.of on1.dp e3;have hk:x.Kind=0\/x.Kind=1\/x.Kind=2:=by omega
     rcases hk with k | k | k <;> rw [k]
     ·rw [show idx (List.range 3) (0:Int)=some 0 by rfl,ob_,show ((0:Nat) == 0)=true by rfl,ct_,if_neg (by omega),if_pos rfl];unfold m220 m257;rw [idx_nat,hx,ob_,m286_spec h m' 16 FF x.On false hok (by unfold FF;omega),ob_,ob_,Bool.false_or,late_eq hok,m259_spec];cases late c i x with
      | true=>rfl
      | false=>cases zrx x.Off <;> cases x.Init <;> cases (x.Delay != 0) <;> rfl
     ·rw [show idx (List.range 3) (1:Int)=some 1 by rfl,ob_,show ((1:Nat) == 0)=false by rfl,cf_,show ((1:Nat) == 1)=true by rfl,ct_,if_pos rfl];unfold m221;rw [e,m227_spec h,idx_nat,hx,ob_,ob_,m260_spec of1 (by omega) (by omega) hF,ob_];by_cases e4:chE 16 (cL c) x.Off=0
      ·rw [e4,zf_,cf_,if_neg (by simp),ob_];by_cases e5:x.Delay=0
       ·rw [if_neg (by simpa using e5),e5];rfl
       ·rw [if_pos e5,show (x.Delay != 0)=true by simpa using e5];rfl
      ·rw [if_pos e4,show (chE 16 (cL c) x.Off != 0)=true by simpa using e4,ct_];rfl
     ·rw [show idx (List.range 3) (2:Int)=some 2 by rfl,ob_,show ((2:Nat) == 0)=false by rfl,cf_,show ((2:Nat) == 1)=false by rfl,cf_,show ((2:Nat) == 2)=true by rfl,ct_,if_neg (by omega),if_neg (by omega)];unfold m222;rw [idx_nat,hx,ob_,m259_spec];by_cases e5:x.Delay < 1\/x.Delay > 1000000
      ·rw [if_pos e5,show (decide (x.Delay < (1:Int)) || decide (x.Delay > (1000000:Int)))=true by simpa using e5];rfl
      ·rw [if_neg e5,show (decide (x.Delay < (1:Int)) || decide (x.Delay > (1000000:Int)))=false by simp;omega];cases zrx x.Off <;> cases x.Init <;> rfl
    ·rw [if_pos e3,show (chE 16 (cL c) x.On != 0)=true by simpa using e3,ct_]
  ·rw [if_pos e1,show (nme c (cS c + i) != 0)=true by simpa using e1,ct_]
 ·refine hk' ?_;by_cases e1:nme c (cS c + i)=0
  ·exact e1
  ·rw [if_pos e1] at h0;exact h0
theorem m226_spec {f:Nat} {c:Control} (h:Bd_ c) {k:Int}:m226 f k c=some (bad (cL c) k):=by
 unfold m226 bad;rw [m227_spec h];cases decide (k < 0) <;> rfl
theorem m192_2_spec {c:Control} (h:Bd_ c) {xs:List Int} (hl:xs.length < 1000):m192_2 FF xs c=some (xs.any (bad (cL c))):=by
 unfold m192_2 m122_2;have h5:=srch (L:=m122_2_l1 FF xs c) (xs:=xs) (p:=fun _ y=>m226 FF y c) (q:=bad (cL c)) (r:=fun z=>z) (fun _ _=>rfl) (by omega) (fun i y hy=>m226_spec h) FF 0 (by omega) (by unfold FF;omega);rw [n0,List.drop_zero] at h5;rw [h5];cases h6:xs.findIdx? (bad (cL c)) with
 | none=>
  rw [List.findIdx?_eq_none_iff] at h6;have:xs.any (bad (cL c))=false:=List.any_eq_false.2 fun y hy=>by simpa using h6 y hy
  rw [this];rfl
 | some j=>
  obtain ⟨hj,hj2,_⟩:=List.findIdx?_eq_some_iff_getElem.1 h6;have:xs.any (bad (cL c))=true:=List.any_eq_true.2 ⟨_,List.getElem_mem hj,by simpa using hj2⟩;rw [this];simp
theorem m205_spec {p q:List Int} (hp:p.length<=400000000) (hq:q.length<=400000000):m205 FF [p,q]=some (p ++ q):=by
 unfold m205;have h1:m205_l1 [p,q] FF ((0:Int),(0:Int))=some (((p.length + q.length:Nat):Int),2):=by
  show m205_l1 [p,q] (99997 + 1 + 1 + 1) _=_;unfold m205_l1;rw [show decide ((0:Int) < (([p,q]:List (List Int)).length:Int))=true by rfl,ct_,show idx [p,q] 0=some p by rfl,ob_];dsimp only;rw [wr_id (by omega) (by omega),wr_id (by omega) (by omega),df_ (by omega),cf_];unfold m205_l1;rw [show decide ((0:Int) + 1 < (([p,q]:List (List Int)).length:Int))=true by rfl,ct_,show idx [p,q] (0 + 1)=some q by rfl,ob_];dsimp only;rw [wr_id (by omega) (by omega),wr_id (by omega) (by omega),df_ (by omega),cf_];unfold m205_l1;rw [show decide ((0:Int) + 1 + 1 < (([p,q]:List (List Int)).length:Int))=false by rfl,cf_];congr 1;refine Prod.ext ?_ rfl;dsimp only;omega
 have h2:m205_l2 [p,q] FF ((0:Int),[])=some ((2:Int),p ++ q):=by
  show m205_l2 [p,q] (99997 + 1 + 1 + 1) _=_;unfold m205_l2 app;rw [show decide ((0:Int) < (([p,q]:List (List Int)).length:Int))=true by rfl,ct_,show idx [p,q] 0=some p by rfl,ob_,if_pos (by simp;omega),ob_];dsimp only;rw [wr_id (by omega) (by omega)];unfold m205_l2 app;rw [show decide ((0:Int) + 1 < (([p,q]:List (List Int)).length:Int))=true by rfl,ct_,show idx [p,q] (0 + 1)=some q by rfl,ob_,if_pos (by simp;omega),ob_];dsimp only;rw [wr_id (by omega) (by omega)];unfold m205_l2;rw [show decide ((0:Int) + 1 + 1 < (([p,q]:List (List Int)).length:Int))=false by rfl,cf_];rfl
 rw [h1,ob_];unfold m252;rw [if_pos (by dsimp only;omega),ob_,h2];rfl
theorem m107_l2_spec {c:Control} (h:Bd_ c) {xs:List Int} (hl:xs.length < 1000):m107_l2 FF c xs FF (0:Int)=if xs.any (bad (cL c)) then some (.ret 6) else some (.brk (xs.length:Int)):=by
 have h5:=srch (L:=m107_l2 FF c xs) (xs:=xs) (p:=fun _ y=>some (bad (cL c) y)) (q:=bad (cL c)) (r:=fun _=>6) (fun n z=>by
  rw [m107_l2];congr 1;cases hx:idx xs z with
  | none=>rfl
  | some y=>
   rw [ob_,ob_,ob_,m179_spec h,ob_];unfold bad;cases decide (y < 0) <;> rfl) (by omega) (fun i y hy=>rfl) FF 0 (by omega) (by unfold FF; omega)
 rw [n0,List.drop_zero] at h5;rw [h5];cases h6:xs.findIdx? (bad (cL c)) with
 | none=>
  rw [List.findIdx?_eq_none_iff] at h6;have:xs.any (bad (cL c))=false:=List.any_eq_false.2 fun y hy=>by simpa using h6 y hy
  rw [this];rfl
 | some j=>
  obtain ⟨hj,hj2,_⟩:=List.findIdx?_eq_some_iff_getElem.1 h6;have:xs.any (bad (cL c))=true:=List.any_eq_true.2 ⟨_,List.getElem_mem hj,by simpa using hj2⟩;rw [this];rfl
def plE (c:Control):Int:=if (c.Plus.length:Int)≠c.Actuators\/(c.Minus.length:Int)≠c.Actuators then 8 else if (c.Plus ++ c.Minus).any (bad (cL c)) then 6 else 0
theorem m107_spec {c:Control} (h:Bd_ c):m107 FF c=some (plE c):=by
 have h6:=h.a6;unfold m107 plE;by_cases h1:(c.Plus.length:Int)≠c.Actuators\/(c.Minus.length:Int)≠c.Actuators
 ·rw [if_pos h1,show (((c.Plus.length:Int) != c.Actuators) || ((c.Minus.length:Int) != c.Actuators))=true by simpa using h1,ct_]
 ·rw [if_neg h1,show (((c.Plus.length:Int) != c.Actuators) || ((c.Minus.length:Int) != c.Actuators))=false by simp;omega,cf_];have:m107_l1 FF c FF (0:Int)=if (c.Plus ++ c.Minus).any (bad (cL c)) then some (.ret 6) else some (.brk 2):=by
   show m107_l1 FF c (99997 + 1 + 1 + 1) _=_;unfold m107_l1;rw [show decide ((0:Int) < (([c.Plus,c.Minus]:List (List Int)).length:Int))=true by rfl,ct_,show idx [c.Plus,c.Minus] 0=some c.Plus by rfl,ob_,m107_l2_spec h (by omega),List.any_append];cases c.Plus.any (bad (cL c)) with
   | true=>rfl
   | false=>
    rw [if_neg (by simp),ob_];dsimp only;rw [wr_id (by omega) (by omega)];unfold m107_l1;rw [show decide ((0:Int) + 1 < (([c.Plus,c.Minus]:List (List Int)).length:Int))=true by rfl,ct_,show idx [c.Plus,c.Minus] (0 + 1)=some c.Minus by rfl,ob_,m107_l2_spec h (by omega),Bool.false_or];cases c.Minus.any (bad (cL c)) with
    | true=>rfl
    | false=>
     rw [if_neg (by simp),ob_];dsimp only;rw [wr_id (by omega) (by omega)];unfold m107_l1;rw [show decide ((0:Int) + 1 + 1 < (([c.Plus,c.Minus]:List (List Int)).length:Int))=false by rfl,cf_];rfl
  rw [this];cases (c.Plus ++ c.Minus).any (bad (cL c)) <;> rfl
structure Rt (c:Control):Prop where
 bd:Bd_ c
 sig:∀ x∈c.Signals,0<=x.Kind/\x.Kind < 3/\okE 16 (cL c) x.On/\(x.Kind=1->okE 16 (cL c) x.Off)
 plus:c.Plus.length=cA c
 minus:c.Minus.length=cA c
 lines:∀ l∈c.Plus ++ c.Minus,0<=l/\l < cL c
 ini:∀ x∈c.Signals,x.Kind=2->x.Init=false
theorem sge_zero {c:Control} (hw:Fw c) {i:Nat} {x:Signal} (hx:c.Signals[i]?=some x) (h:sge c i x=0):(0<=x.Kind/\x.Kind < 3/\okE 16 (cL c) x.On/\(x.Kind=1->okE 16 (cL c) x.Off))/\(x.Kind=2->x.Init=false):=by
 have hxm:=List.mem_of_getElem? hx;unfold sge at h;split at h
 ·contradiction
 ·split at h
  ·omega
  ·split at h
   ·contradiction
   ·rename_i h2 h3;refine ⟨⟨by omega,by omega,okE.of (hw.on x hxm).1.dp (by omega),fun hk=>?_⟩,fun hk=>?_⟩
    ·rw [if_pos hk] at h;split at h
     ·contradiction
     ·rename_i h4;exact okE.of (hw.off x hxm).1.dp (by omega)
    ·rw [if_neg (by omega),if_neg (by omega)] at h;split at h
     ·contradiction
     ·split at h
      ·contradiction
      ·rename_i h5;cases hi:x.Init with
       | false=>rfl
       | true=>rw [hi] at h5;simp at h5
def sgE (c:Control) (i:Nat):Int:=match c.Signals[i]? with | some x=>sge c i x | none=>0
theorem m155_l1_spec {c:Control} (h:Bd_ c):∀ (n i:Nat) (m:List (ByteArray×Int)),i<=2 * cA c->2 * cA c - i < n->Kept c i m->∃ z m',m155_l1 FF c n ((i:Int),m)=some (z,m')/\Kept c (2 * cA c) m'
 | 0,i,_,_,h,_=>by omega
 | n + 1,i,m,h1,h2,hm=>by
  have ha:=h.a';have hL:cL c=2 * cA c + c.Inputs.length + c.Signals.length:=rfl;unfold m155_l1;dsimp only;rw [h.wa,lt_dec];by_cases hi:i < 2 * cA c
  ·rw [dt_ hi,ct_,m223_spec h (by omega),ob_,wr_nat (by omega)];exact m155_l1_spec h n (i + 1) _ (by omega) (by omega) (hm.put _)
  ·rw [df_ hi,cf_];obtain rfl:i=2 * cA c:=by omega
   exact ⟨_,m,rfl,hm⟩
theorem chk_spec {c:Control} (hw:Fw c) (hs:c.Signals.length<=16\/64 < c.Signals.length):∃ e,m82 FF c=some e/\m42 FF c=some e/\(e=0->Rt c):=by
 unfold m82 m155 m42;by_cases hA:c.Actuators < 1\/c.Actuators > 6
 ·have:(decide (c.Actuators < (1:Int)) || decide (c.Actuators > (6:Int)))=true:=by simpa using hA
  rw [this];exact ⟨2,rfl,rfl,by simp⟩
 have:(decide (c.Actuators < (1:Int)) || decide (c.Actuators > (6:Int)))=false:=by simp;omega
 rw [this,cf_,cf_];by_cases hI:c.Inputs.length > 16\/c.Signals.length > 64
 ·have:(decide ((c.Inputs.length:Int) > (16:Int)) || decide ((c.Signals.length:Int) > (64:Int)))=true:=by simp;omega
  rw [this];exact ⟨5,rfl,rfl,by simp⟩
 have:(decide ((c.Inputs.length:Int) > (16:Int)) || decide ((c.Signals.length:Int) > (64:Int)))=false:=by simp;omega
 rw [this,cf_,cf_];have h:Bd_ c:=⟨by omega,by omega,by omega,by omega⟩;have ha:=h.a';have h2:=h.i;have h3:=h.s;have hS:cS c=2 * cA c + c.Inputs.length:=rfl;have hL:cL c=cS c + c.Signals.length:=rfl;have hF:600<=FF:=by unfold FF;omega
 obtain ⟨z,m1,e1,k1⟩:=m155_l1_spec h FF 0 [] (by omega) (by unfold FF;omega) (Kept.zero c);rw [n0] at e1;rw [e1,ob_];dsimp only;have A1:=fnzI (L:=m155_l2 FF c) (mk:=fun i m=>((i:Int),m)) (N:=c.Inputs.length) (E:=fun i=>nme c (2 * cA c + i)) (r:=fun e=>Sum.inl e) (I:=fun i m=>Kept c (2 * cA c + i) m) (fun n i m hi hm=>by
  have hnm:nmF c (2 * cA c + i)=c.Inputs[i]:=by
   unfold nmF;rw [if_neg (by omega),if_pos (by omega),show 2 * cA c + i - 2 * cA c=i by omega];simp [gE_ hi]
  obtain ⟨m',hm',hk'⟩:=m224_spec h (hw.nm (2 * cA c + i)) hF hm c.Actuators c.Inputs c.Signals c.Plus c.Minus;rw [hnm] at hm';rw [m155_l2];dsimp only;rw [lt_dec,dt_ hi,ct_,idx_nat,gE_ hi,ob_,hm',ob_];dsimp only;refine ⟨fun h0=>⟨m',hk' h0,?_⟩,fun h0=>?_⟩
  ·rw [h0,zf_,cf_,wr_nat (by omega)]
  ·rw [show (nme c (2 * cA c + i) != 0)=true by simpa using h0,ct_]) (fun n m _=>by
  rw [m155_l2];dsimp only;rw [lt_dec,df_ (by omega),cf_]) c.Inputs.length FF 0 m1 (by omega) (by unfold FF;omega) k1
 have B1:=fnzI (L:=m42_l1 FF c) (mk:=fun i (_:Unit)=>(i:Int)) (N:=c.Inputs.length) (E:=fun i=>nme c (2 * cA c + i)) (r:=fun e=>e) (I:=fun _ _=>True) (fun n i _ hi _=>by
  rw [m42_l1,lt_dec,dt_ hi,ct_,h.wa,wr_id (by omega) (by omega),show ((2 * cA c:Nat):Int) + (i:Int)=((2 * cA c + i:Nat):Int) by omega,m105_spec h (by omega) (hw.nm _) hF,ob_];refine ⟨fun h0=>⟨(),trivial,?_⟩,fun h0=>?_⟩
  ·rw [h0,zf_,cf_,wr_nat (by omega)]
  ·rw [show (nme c (2 * cA c + i) != 0)=true by simpa using h0,ct_]) (fun n _ _=>by
  rw [m42_l1,lt_dec,df_ (by omega),cf_]) c.Inputs.length FF 0 () (by omega) (by unfold FF;omega) trivial
 try dsimp only at A1 B1
 rw [n0] at A1 B1;generalize fnzr (fun i=>nme c (2 * cA c + i)) c.Inputs.length 0=E1 at A1 B1;rcases A1 with ⟨z1,m2,k2,A1⟩ | ⟨z1,A1⟩
 case inr=>
  rcases B1 with ⟨z2,_⟩ | ⟨_,B1⟩
  ·exact absurd z2 z1
  rw [A1,B1];exact ⟨E1,rfl,rfl,fun h=>absurd h z1⟩
 rcases B1 with ⟨_,_,_,B1⟩ | ⟨z2,_⟩
 case inr=>exact absurd z1 z2
 rw [A1,B1,ob_,ob_];dsimp only;have hget:∀ i,i < c.Signals.length->∃ x,c.Signals[i]?=some x/\sgE c i=sge c i x:=fun i hi=>⟨c.Signals[i],gE_ hi,by unfold sgE;rw [gE_ hi]⟩;have A2:=fnzI (L:=m155_l3 FF c) (mk:=fun i m=>((i:Int),m)) (N:=c.Signals.length) (E:=sgE c) (r:=fun e=>Sum.inl e) (I:=fun i m=>Kept c (cS c + i) m) (fun n i m hi hm=>by
  obtain ⟨x,hx,hsg⟩:=hget i hi;obtain ⟨m',hm',hk'⟩:=m225_spec h hw hx hm;rw [m155_l3,hsg];dsimp only;rw [lt_dec,dt_ hi,ct_,hm',ob_];dsimp only;refine ⟨fun h0=>⟨m',hk' h0,?_⟩,fun h0=>?_⟩
  ·rw [h0,zf_,cf_,wr_nat (by omega)]
  ·rw [show (sge c i x != 0)=true by simpa using h0,ct_]) (fun n m _=>by
  rw [m155_l3];dsimp only;rw [lt_dec,df_ (by omega),cf_]) c.Signals.length FF 0 m2 (by omega) (by unfold FF;omega) k2
 have B2:=fnzI (L:=m42_l2 FF c) (mk:=fun i (_:Unit)=>(i:Int)) (N:=c.Signals.length) (E:=sgE c) (r:=fun e=>e) (I:=fun _ _=>True) (fun n i _ hi _=>by
  obtain ⟨x,hx,hsg⟩:=hget i hi;rw [m42_l2,lt_dec,dt_ hi,ct_,m106_spec h hw hx,ob_,hsg];refine ⟨fun h0=>⟨(),trivial,?_⟩,fun h0=>?_⟩
  ·rw [h0,zf_,cf_,wr_nat (by omega)]
  ·rw [show (sge c i x != 0)=true by simpa using h0,ct_]) (fun n _ _=>by
  rw [m42_l2,lt_dec,df_ (by omega),cf_]) c.Signals.length FF 0 () (by omega) (by unfold FF;omega) trivial
 try dsimp only at A2 B2
 rw [n0] at A2 B2;have hz:fnzr (sgE c) c.Signals.length 0=0->∀ j,j < c.Signals.length->sgE c j=0:=fun h j hj=>fnzr_zero h j (by omega) (by omega);generalize fnzr (sgE c) c.Signals.length 0=E2 at A2 B2 hz;rcases A2 with ⟨z1,m3,k3,A2⟩ | ⟨z1,A2⟩
 case inr=>
  rcases B2 with ⟨z2,_⟩ | ⟨_,B2⟩
  ·exact absurd z2 z1
  rw [A2,B2];exact ⟨E2,rfl,rfl,fun h=>absurd h z1⟩
 rcases B2 with ⟨_,_,_,B2⟩ | ⟨z2,_⟩
 case inr=>exact absurd z1 z2
 rw [A2,B2,ob_,ob_];dsimp only;rw [m107_spec h];refine ⟨plE c,?_,rfl,fun h0=>?_⟩
 ·unfold plE;by_cases h1:(c.Plus.length:Int)≠c.Actuators\/(c.Minus.length:Int)≠c.Actuators
  ·rw [if_pos h1,show (((c.Plus.length:Int) != c.Actuators) || ((c.Minus.length:Int) != c.Actuators))=true by simpa using h1,ct_];rfl
  ·rw [if_neg h1,show (((c.Plus.length:Int) != c.Actuators) || ((c.Minus.length:Int) != c.Actuators))=false by simp;omega,cf_];have h6:=h.a6;rw [m205_spec (by omega) (by omega),ob_,m192_2_spec h (by simp;omega),ob_];cases (c.Plus ++ c.Minus).any (bad (cL c)) <;> rfl
 ·unfold plE at h0;split at h0
  ·contradiction
  ·split at h0
   ·contradiction
   ·rename_i h1 h2;have h6:=h.a;have hsz:∀ x∈c.Signals,(0<=x.Kind/\x.Kind < 3/\okE 16 (cL c) x.On/\(x.Kind=1->okE 16 (cL c) x.Off))/\(x.Kind=2->x.Init=false):=fun x hx=>by
     obtain ⟨i,hi⟩:=List.getElem?_of_mem hx;have h5:=hz z1 i (List.getElem?_eq_some_iff.1 hi).1;have:sge c i x=0:=by
      unfold sgE at h5;rw [hi] at h5;exact h5
     exact sge_zero hw hi this
    refine ⟨h,fun x hx=>(hsz x hx).1,by omega,by omega,fun l hl=>?_,fun x hx=>(hsz x hx).2⟩
    ·have h5:(c.Plus ++ c.Minus).any (bad (cL c))=false:=by simpa using h2
     have:=List.any_eq_false.1 h5 l hl;unfold bad at this;simp at this;omega
theorem m19_spec (c:Control):∃ b,m19 FF c=some b/\(b=true->Fw c/\(c.Signals.length<=16\/64 < c.Signals.length)):=by
 unfold m19;by_cases h1:c.Inputs.length > 32\/(c.Signals.length > 16/\c.Signals.length<=64)\/c.Signals.length > 128\/c.Plus.length > 40\/c.Minus.length > 40
 ·have:(((((decide ((c.Inputs.length:Int) > (32:Int))) || ((decide ((c.Signals.length:Int) > (16:Int))) && (decide ((c.Signals.length:Int)<=(64:Int))))) || (decide ((c.Signals.length:Int) > (128:Int)))) || (decide ((c.Plus.length:Int) > (40:Int)))) || (decide ((c.Minus.length:Int) > (40:Int))))=true:=by
   simp;omega
  rw [this];exact ⟨false,rfl,by simp⟩
 ·have:(((((decide ((c.Inputs.length:Int) > (32:Int))) || ((decide ((c.Signals.length:Int) > (16:Int))) && (decide ((c.Signals.length:Int)<=(64:Int))))) || (decide ((c.Signals.length:Int) > (128:Int)))) || (decide ((c.Plus.length:Int) > (40:Int)))) || (decide ((c.Minus.length:Int) > (40:Int))))=false:=by
   simp;omega
  rw [this,cf_];have h2:=srch (L:=m19_l1 c) (xs:=c.Inputs) (p:=fun _ x=>some (decide ((x.size:Int) > 200))) (q:=fun x=>decide ((x.size:Int) > 200)) (r:=fun _=>false) (fun _ _=>rfl) (by omega) (fun _ _ _=>rfl) FF 0 (by omega) (by unfold FF;omega);rw [n0,List.drop_zero] at h2;cases hc:c.Inputs.findIdx? (fun x=>decide ((x.size:Int) > 200)) with
  | some j=>rw [hc] at h2;rw [h2];exact ⟨false,rfl,by simp⟩
  | none=>
   rw [hc] at h2;rw [h2,ob_];dsimp only;rw [List.findIdx?_eq_none_iff] at hc;have hF:600<=FF:=by unfold FF;omega
   let q:Signal->Bool:=fun x=>decide ((x.Name.size:Int) > 200) || !((m78 FF x.On).getD false) || !((m78 FF x.Off).getD false)
   have h3:=srch (L:=m19_l2 FF c) (xs:=c.Signals) (p:=fun _ x=>some (q x)) (q:=q) (r:=fun _=>false) (fun n z=>by
    rw [m19_l2];congr 1;cases hx:idx c.Signals z with
    | none=>rfl
    | some x=>
     rw [ob_,ob_,ob_];obtain ⟨b1,e1,_⟩:=m78_spec hF x.On;obtain ⟨b2,e2,_⟩:=m78_spec hF x.Off;show _=bif q x then _ else _;simp only [q];rw [e1,e2];cases decide ((x.Name.size:Int) > 200) <;> cases b1 <;> cases b2 <;> rfl) (by omega) (fun _ _ _=>rfl) FF 0 (by omega) (by unfold FF; omega)
   rw [n0,List.drop_zero] at h3;cases hd:c.Signals.findIdx? q with
   | some j=>rw [hd] at h3;rw [h3];exact ⟨false,rfl,by simp⟩
   | none=>
    rw [hd] at h3;rw [h3];rw [List.findIdx?_eq_none_iff] at hd;refine ⟨true,rfl,fun _=>⟨⟨fun s hs=>?_,fun x hx=>?_,fun x hx=>?_,fun x hx=>?_⟩,by omega⟩⟩
    ·have:=hc s hs;simp at this;omega
    ·have:=hd x hx;simp only [q,Bool.or_eq_false_iff,decide_eq_false_iff_not] at this;omega
    ·have:=hd x hx;simp only [q,Bool.or_eq_false_iff,decide_eq_false_iff_not] at this;obtain ⟨b,e,hb⟩:=m78_spec hF x.On;have h5:=this.1.2;rw [e] at h5;have h5:b=true:=by simpa using h5
     exact ⟨hb h5,by rw [e,h5]⟩
    ·have:=hd x hx;simp only [q,Bool.or_eq_false_iff,decide_eq_false_iff_not] at this;obtain ⟨b,e,hb⟩:=m78_spec hF x.Off;have h5:=this.2;rw [e] at h5;have h5:b=true:=by simpa using h5
     exact ⟨hb h5,by rw [e,h5]⟩
end Go.Pn
namespace Go.Pn
open Go
theorem forI {S σ:Type} {L:Nat->S->Option S} {mk:Nat->σ->S} {N:Nat} {I:Nat->σ->Prop}
  (h:∀ (n i:Nat) s,i < N->I i s->∃ s',I (i + 1) s'/\L (n + 1) (mk i s)=L n (mk (i + 1) s')) (h':∀ (n:Nat) s,I N s->L (n + 1) (mk N s)=some (mk N s)) :
  ∀ (n i:Nat) s,i<=N->N - i < n->I i s->∃ s',I N s'/\L n (mk i s)=some (mk N s')
 | 0,i,_,_,h,_=>by omega
 | n + 1,i,s,h1,h2,hI=>by
  by_cases hi:i < N
  ·obtain ⟨s',h3,h4⟩:=h n i s hi hI;rw [h4];exact forI h h' n (i + 1) s' (by omega) (by omega) h3
  ·obtain rfl:i=N:=by omega
   exact ⟨s,hI,h' n s hI⟩
def upd {α:Type} (f:Nat->α) (l:List α) (i:Nat):List α:=(List.range i).map f ++ l.drop i
theorem upd_zero {α:Type} {f:Nat->α} {l:List α}:upd f l 0=l:=by simp [upd]
theorem upd_all {α:Type} {f:Nat->α} {l:List α}:upd f l l.length=(List.range l.length).map f:=by simp [upd]
theorem upd_len {α:Type} {f:Nat->α} {l:List α} {i:Nat} (h:i<=l.length):(upd f l i).length=l.length:=by simp [upd];omega
theorem upd_get {α:Type} {f:Nat->α} {l:List α} {i j:Nat} (h:i<=j):(upd f l i)[j]?=l[j]?:=by
 unfold upd;rw [List.getElem?_append_right (by simp;omega),List.getElem?_drop];congr 1;simp;omega
theorem upd_set {α:Type} {f:Nat->α} {l:List α} {i:Nat} {y:α} (h:i < l.length) (hy:y=f i):(upd f l i).set i y=upd f l (i + 1):=by
 subst hy;refine List.ext_getElem? fun j=>?_;by_cases e:j=i
 ·subst e;rw [List.getElem?_set_self (by rw [upd_len (by omega)];exact h)];unfold upd;rw [List.getElem?_append_left (by simp)];simp
 ·rw [List.getElem?_set_ne (by omega)];by_cases h2:j < i
  ·unfold upd;rw [List.getElem?_append_left (by simp;omega),List.getElem?_append_left (by simp;omega)];simp [h2,show j < i + 1 by omega]
  ·rw [upd_get (by omega),upd_get (by omega)]
structure Rc (c:Control):Prop where
 rt:Rt c
 fw:Fw c
 ck:m82 FF c=some 0
 ck':m42 FF c=some 0
structure Fit (c:Control) (s:State):Prop where
 e:s.Ends.length=cA c
 v:s.Valves.length=cA c
 i:s.Inputs.length=c.Inputs.length
 x:s.Values.length=c.Signals.length
 t:s.Timers.length=c.Signals.length
 ee:∀ a∈s.Ends,0<=a/\a < 4
 tt:∀ a∈s.Timers,0<=a/\a < 3
 k:∀ (i:Nat) x t v,c.Signals[i]?=some x->s.Timers[i]?=some t->s.Values[i]?=some v->(x.Kind≠2->t=0)/\(x.Kind=2->v=(t == 2))
def endv (s:State):List Bool:=s.Ends.flatMap fun e=>[e == 0,e == 2]
def pre (s:State):List Bool:=endv s ++ s.Inputs
def vals (s:State):List Bool:=pre s ++ s.Values
theorem fm_len {l:List Int}:(l.flatMap fun e=>[e == 0,e == 2]).length=2 * l.length:=by
 induction l with
 | nil=>rfl
 | cons a l ih=>rw [List.flatMap_cons,List.length_append,ih];simp;omega
theorem fm_get:∀ {l:List Int} {j:Nat},(l.flatMap fun e=>[e == 0,e == 2])[j]?=(l[j / 2]?).map fun e=>if j % 2=0 then e == 0 else e == 2
 | [],j=>by simp
 | a :: l,0=>by simp
 | a :: l,1=>by simp
 | a :: l,j + 2=>by
  rw [List.flatMap_cons];show (List.flatMap (fun e=>[e == 0,e == 2]) l)[j]?=_;rw [fm_get,show (j + 2) / 2=j / 2 + 1 by omega,show (j + 2) % 2=j % 2 by omega];rfl
theorem Fit.pl {c:Control} {s:State} (h:Fit c s):(pre s).length=cS c:=by
 unfold pre endv;rw [List.length_append,fm_len,h.e,h.i];rfl
theorem Fit.vl {c:Control} {s:State} (h:Fit c s):(vals s).length=cL c:=by
 unfold vals;rw [List.length_append,h.pl,h.x];rfl
theorem take_fm {l:List Int} {i:Nat} (h:i < l.length):(l.take (i + 1)).flatMap (fun e=>[e == 0,e == 2])=(l.take i).flatMap (fun e=>[e == 0,e == 2]) ++ [l[i] == 0,l[i] == 2]:=by
 rw [List.take_add_one,gE_ h,List.flatMap_append];simp
theorem m242_spec {c:Control} {s:State} (hb:Bd_ c) (h1:s.Ends.length=cA c) (h2:s.Inputs.length<=1000) (h3:s.Values.length<=1000):m242 FF c s=some (vals s):=by
 have ha:=hb.a';unfold m242;obtain ⟨acc,he,hl⟩:=forI (L:=m242_l1 c s) (mk:=fun i acc=>((i:Int),acc)) (N:=cA c) (I:=fun i acc=>acc=(s.Ends.take i).flatMap fun e=>[e == 0,e == 2]) (fun n i acc hi hI=>by
  subst hI;refine ⟨_,rfl,?_⟩;rw [m242_l1];dsimp only;have hlen:((s.Ends.take i).flatMap fun e=>[e == 0,e == 2]).length<=1000:=by rw [fm_len,List.length_take];omega
  unfold app;rw [hb.a,lt_dec,dt_ hi,ct_,idx_nat,gE_ (by omega),ob_,ob_,if_pos (by simp only [List.length_cons,List.length_nil];omega),ob_,wr_nat (by omega),take_fm (by omega)]) (fun n acc _=>by
  rw [m242_l1];dsimp only;rw [hb.a,lt_dec,df_ (by omega),cf_]) FF 0 [] (by omega) (by unfold FF;omega) rfl
 subst he;try dsimp only at hl
 rw [n0] at hl;rw [hl,ob_];dsimp only;rw [List.take_of_length_le (by omega)];have h4:(s.Ends.flatMap fun e=>[e == 0,e == 2]).length<=1000:=by rw [fm_len];omega
 unfold app;rw [if_pos (by omega),ob_,if_pos (by rw [List.length_append];omega),ob_];rfl
theorem m242_1_eq:∀ {c:Control} {s:State} {n z},m242_1_l1 c s n z=m242_l1 c s n z:=by
 intro c s n
 induction n with
 | zero=>intro z;rfl
 | succ n ih=>intro z;rw [m242_1_l1,m242_l1];simp only [ih]
theorem m242_1_spec {c:Control} {s:State} (hb:Bd_ c) (h1:s.Ends.length=cA c) (h2:s.Inputs.length<=1000) (h3:s.Values.length<=1000):m242_1 FF c s=some (vals s):=by
 rw [← m242_spec hb h1 h2 h3];unfold m242_1 m242;simp only [m242_1_eq]
theorem m246_l1_spec {s:State} (h1:s.Ends.length<=1000):m246_l1 s FF ((0:Int),[])=some ((s.Ends.length:Int),endv s):=by
 obtain ⟨acc,he,hl⟩:=forI (L:=m246_l1 s) (mk:=fun i acc=>((i:Int),acc)) (N:=s.Ends.length) (I:=fun i acc=>acc=(s.Ends.take i).flatMap fun e=>[e == 0,e == 2]) (fun n i acc hi hI=>by
  subst hI;refine ⟨_,rfl,?_⟩;rw [m246_l1];dsimp only;have hlen:((s.Ends.take i).flatMap fun e=>[e == 0,e == 2]).length<=10000:=by rw [fm_len,List.length_take];omega
  unfold app;rw [lt_dec,dt_ hi,ct_,idx_nat,gE_ (by omega),ob_,if_pos (by simp only [List.length_cons,List.length_nil];omega),ob_,wr_nat (by omega),take_fm (by omega)]) (fun n acc _=>by
  rw [m246_l1];dsimp only;rw [lt_dec,df_ (by omega),cf_]) FF 0 [] (by omega) (by unfold FF;omega) rfl
 subst he;try dsimp only at hl
 rw [n0] at hl;rw [hl,List.take_of_length_le (by omega)];rfl
theorem m325_spec {p q r:List Bool} (hp:p.length<=1000000) (hq:q.length<=1000000) (hr:r.length<=1000000):m325 FF [p,q,r]=some (p ++ q ++ r):=by
 unfold m325;have h1:m325_l1 [p,q,r] FF ((0:Int),(0:Int))=some (((p.length + q.length + r.length:Nat):Int),3):=by
  show m325_l1 [p,q,r] (99996 + 1 + 1 + 1 + 1) _=_;unfold m325_l1;rw [show decide ((0:Int) < (([p,q,r]:List (List Bool)).length:Int))=true by rfl,ct_,show idx [p,q,r] 0=some p by rfl,ob_];dsimp only;rw [wr_id (by omega) (by omega),wr_id (by omega) (by omega),df_ (by omega),cf_];unfold m325_l1;rw [show decide ((0:Int) + 1 < (([p,q,r]:List (List Bool)).length:Int))=true by rfl,ct_,show idx [p,q,r] (0 + 1)=some q by rfl,ob_];dsimp only;rw [wr_id (by omega) (by omega),wr_id (by omega) (by omega),df_ (by omega),cf_];unfold m325_l1;rw [show decide ((0:Int) + 1 + 1 < (([p,q,r]:List (List Bool)).length:Int))=true by rfl,ct_,show idx [p,q,r] (0 + 1 + 1)=some r by rfl,ob_];dsimp only;rw [wr_id (by omega) (by omega),wr_id (by omega) (by omega),df_ (by omega),cf_];unfold m325_l1;rw [show decide ((0:Int) + 1 + 1 + 1 < (([p,q,r]:List (List Bool)).length:Int))=false by rfl,cf_];congr 1;refine Prod.ext ?_ rfl;dsimp only;omega
 have h2:m325_l2 [p,q,r] FF ((0:Int),[])=some ((3:Int),p ++ q ++ r):=by
  show m325_l2 [p,q,r] (99996 + 1 + 1 + 1 + 1) _=_;unfold m325_l2 app;rw [show decide ((0:Int) < (([p,q,r]:List (List Bool)).length:Int))=true by rfl,ct_,show idx [p,q,r] 0=some p by rfl,ob_,if_pos (by simp;omega),ob_];dsimp only;rw [wr_id (by omega) (by omega)];unfold m325_l2 app;rw [show decide ((0:Int) + 1 < (([p,q,r]:List (List Bool)).length:Int))=true by rfl,ct_,show idx [p,q,r] (0 + 1)=some q by rfl,ob_,if_pos (by simp;omega),ob_];dsimp only;rw [wr_id (by omega) (by omega)];unfold m325_l2 app;rw [show decide ((0:Int) + 1 + 1 < (([p,q,r]:List (List Bool)).length:Int))=true by rfl,ct_,show idx [p,q,r] (0 + 1 + 1)=some r by rfl,ob_,if_pos (by simp;omega),ob_];dsimp only;rw [wr_id (by omega) (by omega)];unfold m325_l2;rw [show decide ((0:Int) + 1 + 1 + 1 < (([p,q,r]:List (List Bool)).length:Int))=false by rfl,cf_];rfl
 rw [h1,ob_];unfold m332;rw [if_pos (by dsimp only;omega),ob_,h2];rfl
theorem m318_l1_eq:∀ {s:State} {n z},m318_l1 s.Ends n z=m246_l1 s n z:=by
 intro s n
 induction n with
 | zero=>intro z;rfl
 | succ n ih=>intro z;rw [m318_l1,m246_l1];simp only [ih]
theorem m318_spec {s:State} (h1:s.Ends.length<=1000) (h2:s.Inputs.length<=1000) (h3:s.Values.length<=1000) (a b c d e f):m318 FF a b c d e f s.Ends s.Valves s.Inputs s.Values s.Timers=some (vals s):=by
 unfold m318;rw [m318_l1_eq,m246_l1_spec h1,ob_];dsimp only;have h4:(endv s).length<=10000:=by unfold endv;rw [fm_len];omega
 rw [m325_spec (by omega) (by omega) (by omega),ob_];rfl
theorem m128_spec {xs:List Int} (h:xs.length<=1000):m128 FF xs=some xs:=by
 unfold m128 app;rw [if_pos (by simp;omega)];rfl
theorem m129_spec {xs:List Bool} (h:xs.length<=1000):m129 FF xs=some xs:=by
 unfold m129 app;rw [if_pos (by simp;omega)];rfl
def tup (s:State):(List Int)×(List Bool)×(List Bool)×(List Bool)×(List Int):=(s.Ends,s.Valves,s.Inputs,s.Values,s.Timers)
theorem m232_spec {s:State} (h:Smst s 1000):m232 FF s=some (tup s):=by
 obtain ⟨h1,h2,h3,h4,h5⟩:=h;unfold m232 app;rw [if_pos (by simp;omega),ob_,if_pos (by simp;omega),ob_,if_pos (by simp;omega),ob_,if_pos (by simp;omega),ob_,if_pos (by simp;omega),ob_];rfl
theorem m300_spec {s:State} (h:Smst s 1000):m300 FF s=some (tup s):=by
 obtain ⟨h1,h2,h3,h4,h5⟩:=h;unfold m300;rw [m128_spec h1,ob_,m129_spec h2,ob_,m129_spec h3,ob_,m129_spec h4,ob_,m128_spec h5,ob_];rfl
theorem m135_spec {s:State} (h:Smst s 1000):m135 FF s=some (tup s):=m300_spec h
theorem Fit.sm {c:Control} {s:State} (hb:Bd_ c) (h:Fit c s):Smst s 1000:=by
 have h1:=hb.a';have h2:=hb.i;have h3:=hb.s;obtain ⟨a1,a2,a3,a4,a5⟩:=h;constructor <;> omega
def gstep (c:Control) (p:List Bool) (i:Nat) (v:List Bool):List Bool:=match c.Signals[i]? with
 | some x=>if x.Kind=0 then v.set i (ev 16 (p ++ v) x.On) else v
 | none=>v
def gatF (c:Control) (s:State):Nat->List Bool
 | 0=>s.Values
 | i + 1=>gstep c (pre s) i (gatF c s i)
def gates (c:Control) (s:State):State:=⟨s.Ends,s.Valves,s.Inputs,gatF c s c.Signals.length,s.Timers⟩
theorem gatF_len {c:Control} {s:State}:∀ {i:Nat},(gatF c s i).length=s.Values.length
 | 0=>rfl
 | i + 1=>by
  unfold gatF gstep;split
  ·split
   ·rw [List.length_set,gatF_len]
   ·exact gatF_len
  ·exact gatF_len
theorem set_app {p v:List Bool} {i:Nat} {b:Bool}:(p ++ v).set (p.length + i) b=p ++ v.set i b:=by
 rw [List.set_append];rw [if_neg (by omega)];congr 2;omega
theorem m228_spec {c:Control} {s:State} (hc:Rt c) (h:Fit c s):m228 FF c s=some (gates c s):=by
 have hb:=hc.bd;have h1:=hb.a';have h2:=hb.i;have h3:=hb.s;unfold m228;rw [m232_spec (h.sm hb),ob_];obtain ⟨v,he,hl⟩:=forI (L:=m228_l1 FF c (tup s)) (mk:=fun i v=>((i:Int),v)) (N:=c.Signals.length) (I:=fun i v=>v=gatF c s i) (fun n i v hi hI=>by
  subst hI;refine ⟨_,rfl,?_⟩;have hx:c.Signals[i]?=some c.Signals[i]:=gE_ hi;have hvl:=gatF_len (c:=c) (s:=s) (i:=i);rw [m228_l1];dsimp only;rw [lt_dec,dt_ hi,ct_,idx_nat,hx,ob_,wr_nat (by omega)];show _=m228_l1 FF c (tup s) n (((i + 1:Nat):Int),gstep c (pre s) i (gatF c s i));unfold gstep;rw [hx];dsimp only;by_cases hk:c.Signals[i].Kind=0
  ·rw [if_pos hk,show (c.Signals[i].Kind == 0)=true by simpa using hk,ct_,ob_];obtain ⟨_,_,ho,_⟩:=hc.sig _ (List.getElem_mem hi);have hv:vals ⟨(tup s).1,(tup s).2.1,(tup s).2.2.1,gatF c s i,(tup s).2.2.2.2⟩=pre s ++ gatF c s i:=rfl;rw [m242_spec hb (by show s.Ends.length=_;exact h.e) (by show s.Inputs.length<=_;rw [h.i];omega) (by show (gatF c s i).length<=_;rw [hvl,h.x];omega),hv,ob_,m264_spec 16 FF _ _ (by rw [List.length_append,h.pl,hvl,h.x];exact ho) (by unfold FF;omega),ob_,idx_nat,gE_ (by rw [hvl,h.x];exact hi),ob_,ob_];simp
  ·rw [if_neg hk,show (c.Signals[i].Kind == 0)=false by simpa using hk,cf_,ob_]) (fun n v _=>by
  rw [m228_l1];dsimp only;rw [lt_dec,df_ (by omega),cf_]) FF 0 s.Values (by omega) (by unfold FF;omega) rfl
 subst he;try dsimp only at hl
 rw [n0] at hl;show ((m228_l1 FF c (tup s) FF ((0:Int),s.Values)).bind _)=_;rw [hl];rfl
theorem m317_spec {c:Control} {s:State} (hc:Rt c) (h:Fit c s):m317 FF c.Actuators (cS c:Int) c.Inputs c.Signals c.Plus c.Minus s.Ends s.Valves s.Inputs s.Values s.Timers=some (gatF c s c.Signals.length):=by
 have hb:=hc.bd;have h1:=hb.a';have h2:=hb.i;have h3:=hb.s;obtain ⟨s1,s2,s3,s4,s5⟩:=h.sm hb;unfold m317;rw [m318_spec s1 s3 s4,ob_];obtain ⟨v,he,hl⟩:=forI (L:=m317_l1 FF (cS c:Int) c.Signals) (mk:=fun i (v:List Bool×List Bool)=>((i:Int),v.1,v.2)) (N:=c.Signals.length) (I:=fun i v=>v=(gatF c s i,pre s ++ gatF c s i)) (fun n i v hi hI=>by
  subst hI;refine ⟨_,rfl,?_⟩;have hx:c.Signals[i]?=some c.Signals[i]:=gE_ hi;have hvl:=gatF_len (c:=c) (s:=s) (i:=i);have hS:cS c=2 * cA c + c.Inputs.length:=rfl;rw [m317_l1];dsimp only;rw [lt_dec,dt_ hi,ct_,idx_nat,hx,ob_,wr_nat (by omega),wr_id (by omega) (by omega)];show _=m317_l1 FF (cS c:Int) c.Signals n (((i + 1:Nat):Int),gstep c (pre s) i (gatF c s i),pre s ++ gstep c (pre s) i (gatF c s i));unfold gstep;rw [hx];dsimp only;by_cases hk:c.Signals[i].Kind=0
  ·rw [if_pos hk,show (c.Signals[i].Kind == 0)=true by simpa using hk,ct_];obtain ⟨_,_,ho,_⟩:=hc.sig _ (List.getElem_mem hi);rw [m320_spec 16 FF _ _ (by rw [List.length_append,h.pl,hvl,h.x];exact ho) (by unfold FF;omega),ob_,idx_nat,gE_ (by rw [hvl,h.x];exact hi),ob_,show (cS c:Int) + (i:Int)=((cS c + i:Nat):Int) by omega,idx_nat,gE_ (by rw [List.length_append,h.pl,hvl,h.x];omega),ob_,ob_];dsimp only;rw [show ((cS c + i:Nat):Int).toNat=(pre s).length + i by rw [h.pl];omega,set_app];simp
  ·rw [if_neg hk,show (c.Signals[i].Kind == 0)=false by simpa using hk,cf_,ob_]) (fun n v _=>by
  rw [m317_l1];dsimp only;rw [lt_dec,df_ (by omega),cf_]) FF 0 (s.Values,vals s) (by omega) (by unfold FF;omega) rfl
 subst he;try dsimp only at hl
 rw [n0] at hl;rw [hl];rfl
def ofb (ls:List Bool) (x:Signal):Bool:=(x.Kind == 1) && ev 16 ls x.Off
def chg (ls:List Bool) (x:Signal) (v:Bool) (t:Int):Bool×Int:=
 if x.Kind=1 then (if ev 16 ls x.On=ofb ls x then (v,t) else (ev 16 ls x.On,t))
 else if x.Kind=2 then (if ev 16 ls x.On=false then (false,0) else if t=0 then (v,1) else (v,t)) else (v,t)
def chgI (c:Control) (g:State) (i:Nat):Bool×Int:=match c.Signals[i]? with
 | some x=>chg (vals g) x (g.Values.getD i false) (g.Timers.getD i 0)
 | none=>(false,0)
def nxtS (c:Control) (g:State):State:=⟨g.Ends,g.Valves,g.Inputs,(List.range g.Values.length).map fun i=>(chgI c g i).1,(List.range g.Timers.length).map fun i=>(chgI c g i).2⟩
def once (c:Control) (s:State):State:=nxtS c (gates c s)
theorem gates_fit {c:Control} {s:State} (h:Fit c s):Fit c (gates c s):=by
 refine ⟨h.e,h.v,h.i,gatF_len.trans h.x,h.t,h.ee,h.tt,?_⟩;intro i x t v hx ht hv;refine ⟨fun hk=>?_,fun hk=>?_⟩
 ·have hi:i < s.Values.length:=by rw [h.x];exact (List.getElem?_eq_some_iff.1 hx).1
  exact (h.k i x t _ hx ht (gE_ hi)).1 hk
 ·-- the value of a timer is not a gate's
  have key:∀ n,(gatF c s n)[i]?=s.Values[i]?:=by
   intro n
   induction n with
   | zero=>rfl
   | succ n ih=>
    unfold gatF gstep;cases hy:c.Signals[n]? with
    | none=>exact ih
    | some y=>
     dsimp only;split
     ·rename_i h0;have:n≠i:=fun e=>by subst e;rw [hx] at hy;cases hy;omega
      rw [List.getElem?_set_ne this];exact ih
     ·exact ih
  have hv':(gatF c s c.Signals.length)[i]?=some v:=hv;rw [key] at hv';exact (h.k i x t v hx ht hv').2 hk
theorem chg_ok {ls:List Bool} {x:Signal} {v:Bool} {t:Int} (h0:0<=t/\t < 3) (h:(x.Kind≠2->t=0)/\(x.Kind=2->v=(t == 2))) :
  (0<=(chg ls x v t).2/\(chg ls x v t).2 < 3)/\(x.Kind≠2->(chg ls x v t).2=0)/\(x.Kind=2->(chg ls x v t).1=((chg ls x v t).2 == 2)):=by
 unfold chg;by_cases h1:x.Kind=1
 ·rw [if_pos h1];split
  ·exact ⟨h0,h⟩
  ·exact ⟨h0,h.1,fun h2=>by omega⟩
 ·rw [if_neg h1];by_cases h2:x.Kind=2
  ·rw [if_pos h2];split
   ·exact ⟨by simp,fun h3=>absurd h2 h3,fun _=>rfl⟩
   ·split
    ·rename_i ht;refine ⟨by simp,fun h3=>absurd h2 h3,fun _=>?_⟩;have:=h.2 h2;rw [ht] at this;exact this
    ·exact ⟨h0,h⟩
  ·rw [if_neg h2];exact ⟨h0,h⟩
theorem nxtS_fit {c:Control} {g:State} (h:Fit c g):Fit c (nxtS c g):=by
 have hget:∀ (i:Nat) x,c.Signals[i]?=some x->∃ v t,g.Values[i]?=some v/\g.Timers[i]?=some t/\chgI c g i=chg (vals g) x v t:=by
  intro i x hx;have hi:=(List.getElem?_eq_some_iff.1 hx).1;have h1:i < g.Values.length:=by rw [h.x];exact hi
  have h2:i < g.Timers.length:=by rw [h.t];exact hi
  refine ⟨g.Values[i],g.Timers[i],gE_ h1,gE_ h2,?_⟩;unfold chgI;rw [hx];simp [gE_ h1,gE_ h2]
 refine ⟨h.e,h.v,h.i,by simp [nxtS,h.x],by simp [nxtS,h.t],h.ee,?_,?_⟩
 ·intro a ha;obtain ⟨i,hi,rfl⟩:=List.mem_map.1 ha;have hi:i < c.Signals.length:=by have:=List.mem_range.1 hi;rw [h.t] at this;exact this
  obtain ⟨v,t,h1,h2,h3⟩:=hget i _ (gE_ hi);rw [h3];exact (chg_ok (h.tt t (List.mem_of_getElem? h2)) (h.k i _ t v (gE_ hi) h2 h1)).1
 ·intro i x t v hx ht hv;obtain ⟨v0,t0,h1,h2,h3⟩:=hget i x hx;have hi:=(List.getElem?_eq_some_iff.1 hx).1;have ht':((List.range g.Timers.length).map fun i=>(chgI c g i).2)[i]?=some t:=ht;have hv':((List.range g.Values.length).map fun i=>(chgI c g i).1)[i]?=some v:=hv;rw [List.getElem?_map,List.getElem?_range (by rw [h.t];exact hi)] at ht';rw [List.getElem?_map,List.getElem?_range (by rw [h.x];exact hi)] at hv';have ht':=Option.some.inj ht';have hv':=Option.some.inj hv';dsimp only at ht' hv';rw [h3] at ht' hv';subst ht';subst hv';exact (chg_ok (h.tt t0 (List.mem_of_getElem? h2)) (h.k i x t0 v0 hx h2 h1)).2
theorem once_fit {c:Control} {s:State} (h:Fit c s):Fit c (once c s):=nxtS_fit (gates_fit h)
theorem m296_spec {c:Control} {x:Signal} {ls:List Bool} (hl:ls.length=cL c) (ho:okE 16 (cL c) x.On) (hf:x.Kind=1->okE 16 (cL c) x.Off):m296 FF x ls=some (ev 16 ls x.On,ofb ls x):=by
 unfold m296 ofb;rw [m264_spec 16 FF _ _ (by rw [hl];exact ho) (by unfold FF;omega),ob_];by_cases hk:x.Kind=1
 ·rw [show (x.Kind == 1)=true by simpa using hk,ct_,m264_spec 16 FF _ _ (by rw [hl];exact hf hk) (by unfold FF;omega)];rfl
 ·rw [show (x.Kind == 1)=false by simpa using hk];rfl
theorem m295_spec {c:Control} {g:State} (hc:Rt c) (h:Fit c g) {i:Nat} {x:Signal} (hx:c.Signals[i]?=some x):∃ s' b,m295 FF c g (i:Int)=some (s',b)/\s'.Values[i]?=some (chgI c g i).1/\s'.Timers[i]?=some (chgI c g i).2:=by
 have hb:=hc.bd;have h1:=hb.a';have h2:=hb.i;have h3:=hb.s;have hi:=(List.getElem?_eq_some_iff.1 hx).1;obtain ⟨k0,k3,ho,hf⟩:=hc.sig x (List.mem_of_getElem? hx);have hv0:i < g.Values.length:=by rw [h.x];exact hi
 have ht0:i < g.Timers.length:=by rw [h.t];exact hi
 have hv:g.Values[i]?=some g.Values[i]:=gE_ hv0;have ht:g.Timers[i]?=some g.Timers[i]:=gE_ ht0;generalize g.Values[i]=v at hv;generalize g.Timers[i]=t at ht;have hci:chgI c g i=chg (vals g) x v t:=by
  unfold chgI;rw [hx];simp [hv,ht]
 unfold m295;rw [m232_spec (h.sm hb),ob_,idx_nat,hx,ob_,m242_1_spec hb h.e (by rw [h.i];omega) (by rw [h.x];omega),ob_,m296_spec h.vl ho hf,ob_,hci];unfold tup chg;dsimp only;simp only [idx_nat,hv,ht,ob_,Int.toNat_natCast];have hvl:i < g.Values.length:=by rw [h.x];exact hi
 have htl:i < g.Timers.length:=by rw [h.t];exact hi
 have hk:x.Kind=0\/x.Kind=1\/x.Kind=2:=by omega
 rcases hk with k | k | k <;> rw [k]
 ·simp only [show ((0:Int) == 1)=false by rfl,show ((0:Int) == 2)=false by rfl,Bool.false_and,cf_,ob_,show ¬ ((0:Int)=1) by omega,show ¬ ((0:Int)=2) by omega,if_false];exact ⟨_,_,rfl,hv,ht⟩
 ·simp only [show ((1:Int) == 1)=true by rfl,show ((1:Int) == 2)=false by rfl,Bool.true_and,Bool.false_and,cf_,ob_,if_true];by_cases e:ev 16 (vals g) x.On=ofb (vals g) x
  ·rw [if_pos e,e];simp only [bne_self_eq_false,cf_];exact ⟨_,_,rfl,hv,ht⟩
  ·rw [if_neg e,show (ev 16 (vals g) x.On != ofb (vals g) x)=true by simpa using e,ct_];exact ⟨_,_,rfl,by dsimp only;rw [List.getElem?_set_self hvl],ht⟩
 ·simp only [show ((2:Int) == 1)=false by rfl,show ((2:Int) == 2)=true by rfl,Bool.true_and,Bool.false_and,cf_,ct_,ob_,show ¬ ((2:Int)=1) by omega,if_false,if_true];cases ev 16 (vals g) x.On with
  | false=>
   simp only [Bool.not_false,ct_,if_true];exact ⟨_,_,rfl,by dsimp only;rw [List.getElem?_set_self hvl],by dsimp only;rw [List.getElem?_set_self htl]⟩
  | true=>
   simp only [Bool.not_true,cf_,show ¬ (true=false) by simp,if_false];by_cases e:t=0
   ·rw [if_pos e,show (t == 0)=true by simpa using e,ct_];exact ⟨_,_,rfl,hv,by dsimp only;rw [List.getElem?_set_self htl];rfl⟩
   ·rw [if_neg e,show (t == 0)=false by simpa using e,cf_];exact ⟨_,_,rfl,hv,ht⟩
theorem m268_spec {c:Control} {s:State} (hc:Rt c) (h:Fit c s):∃ l,m268 FF c s=some (once c s,l)/\l.length<=c.Signals.length:=by
 have hb:=hc.bd;have h1:=hb.a';have h2:=hb.i;have h3:=hb.s;have hg:=gates_fit h;have hS:cS c=2 * cA c + c.Inputs.length:=rfl;unfold m268;rw [m228_spec hc h,ob_,m232_spec (hg.sm hb),ob_];generalize hgg:gates c s=g at hg;have hvl:g.Values.length=c.Signals.length:=hg.x;have htl:g.Timers.length=c.Signals.length:=hg.t;obtain ⟨v,he,hl⟩:=forI (L:=m268_l1 FF c g) (mk:=fun i (v:List Bool×List Int×List Int)=>((i:Int),v.1,v.2.1,v.2.2)) (N:=c.Signals.length) (I:=fun i v=>v.1=upd (fun i=>(chgI c g i).1) g.Values i/\v.2.1=upd (fun i=>(chgI c g i).2) g.Timers i/\v.2.2.length<=i) (fun n i v hi hI=>by
  obtain ⟨V,T,l⟩:=v;obtain ⟨rfl,rfl,hll⟩:=hI;have hx:c.Signals[i]?=some c.Signals[i]:=gE_ hi;obtain ⟨_,_,ho,hf⟩:=hc.sig _ (List.getElem_mem hi);obtain ⟨s',b,e1,e2,e3⟩:=m295_spec hc hg hx;have e4:(upd (fun i=>(chgI c g i).1) g.Values i)[i]?=some g.Values[i]:=by rw [upd_get (Nat.le_refl i)];exact gE_ (by omega)
  have e5:(upd (fun i=>(chgI c g i).2) g.Timers i)[i]?=some g.Timers[i]:=by rw [upd_get (Nat.le_refl i)];exact gE_ (by omega)
  refine ⟨(upd (fun i=>(chgI c g i).1) g.Values (i + 1),upd (fun i=>(chgI c g i).2) g.Timers (i + 1),if (ev 16 (vals g) c.Signals[i].On && ofb (vals g) c.Signals[i])=true then l ++ [((cS c + i:Nat):Int)] else l),⟨rfl,rfl,?_⟩,?_⟩
  ·dsimp only at hll ⊢;split <;> (try simp) <;> omega
  ·rw [m268_l1];dsimp only at hll ⊢;rw [lt_dec,dt_ hi,ct_,e1,ob_];dsimp only;rw [idx_nat,e2,ob_,idx_nat,e3,ob_,idx_nat,e4,ob_,idx_nat,e5,ob_,idx_nat,hx,ob_,m242_1_spec hb hg.e (by rw [hg.i];omega) (by omega),ob_,m296_spec hg.vl ho hf,ob_];dsimp only;unfold m297;rw [m177_spec hb,ob_,wr_id (by omega) (by omega),show (cS c:Int) + (i:Int)=((cS c + i:Nat):Int) by omega,wr_nat (by omega),Int.toNat_natCast,upd_set (by omega) rfl,upd_set (by omega) rfl];cases ev 16 (vals g) c.Signals[i].On && ofb (vals g) c.Signals[i] with
   | true=>
    unfold app;rw [ct_,ob_,if_pos (by simp;omega)];rfl
   | false=>rfl) (fun n v _=>by
  rw [m268_l1];dsimp only;rw [lt_dec,df_ (by omega),cf_]) FF 0 (g.Values,g.Timers,[]) (by omega) (by unfold FF;omega) ⟨upd_zero.symm,upd_zero.symm,by simp⟩
 obtain ⟨V,T,l⟩:=v;obtain ⟨rfl,rfl,hll⟩:=he;try dsimp only at hl hll
 rw [n0] at hl;show ∃ l,((m268_l1 FF c g FF ((0:Int),g.Values,g.Timers,[])).bind _)=_/\_;rw [hl];refine ⟨l,?_,hll⟩;unfold once nxtS;rw [hgg,ob_];dsimp only;have e1:upd (fun i=>(chgI c g i).1) g.Values c.Signals.length=(List.range g.Values.length).map fun i=>(chgI c g i).1:=by rw [← hvl];exact upd_all
 have e2:upd (fun i=>(chgI c g i).2) g.Timers c.Signals.length=(List.range g.Timers.length).map fun i=>(chgI c g i).2:=by rw [← htl];exact upd_all
 rw [e1,e2];rfl
theorem m301_spec {c:Control} {s:State} (hc:Rt c) (h:Fit c s):∃ l,m301 FF c.Actuators (cS c:Int) c.Inputs c.Signals c.Plus c.Minus s.Ends s.Valves s.Inputs s.Values s.Timers=some (!sst s (once c s),l,(once c s).Values,(once c s).Timers)/\l.length<=c.Signals.length:=by
 have hb:=hc.bd;have h1:=hb.a';have h2:=hb.i;have h3:=hb.s;have hg:=gates_fit h;have hS:cS c=2 * cA c + c.Inputs.length:=rfl;obtain ⟨s1,s2,s3,s4,s5⟩:=hg.sm hb;unfold m301 m319;rw [show (⟨s.Ends,s.Valves,s.Inputs,s.Values,s.Timers⟩:State)=s from rfl,m300_spec (h.sm hb),ob_,m317_spec hc h,ob_];have h318:=m318_spec (s:=gates c s) s1 s3 s4 c.Actuators (cS c:Int) c.Inputs c.Signals c.Plus c.Minus;rw [show (gates c s).Ends=s.Ends from rfl,show (gates c s).Valves=s.Valves from rfl,show (gates c s).Inputs=s.Inputs from rfl,show (gates c s).Timers=s.Timers from rfl,show (gates c s).Values=gatF c s c.Signals.length from rfl] at h318;rw [h318,ob_,ob_];have hvl:(gatF c s c.Signals.length).length=c.Signals.length:=hg.x;have htl:s.Timers.length=c.Signals.length:=hg.t;obtain ⟨v,he,hl⟩:=forI (L:=m301_l1 FF (cS c:Int) c.Signals (vals (gates c s))) (mk:=fun i (v:List Bool×List Int×List Int)=>((i:Int),v.1,v.2.1,v.2.2)) (N:=c.Signals.length) (I:=fun i v=>v.1=upd (fun i=>(chgI c (gates c s) i).1) (gatF c s c.Signals.length) i/\v.2.1=upd (fun i=>(chgI c (gates c s) i).2) s.Timers i/\v.2.2.length<=i) (fun n i v hi hI=>by
  obtain ⟨V,T,l⟩:=v;obtain ⟨rfl,rfl,hll⟩:=hI;have hx:c.Signals[i]?=some c.Signals[i]:=gE_ hi;obtain ⟨k0,k3,ho,hf⟩:=hc.sig _ (List.getElem_mem hi);have e4:(upd (fun i=>(chgI c (gates c s) i).1) (gatF c s c.Signals.length) i)[i]?=some (gatF c s c.Signals.length)[i]:=by rw [upd_get (Nat.le_refl i)];exact gE_ (by omega)
  have e5:(upd (fun i=>(chgI c (gates c s) i).2) s.Timers i)[i]?=some s.Timers[i]:=by rw [upd_get (Nat.le_refl i)];exact gE_ (by omega)
  have hci:chgI c (gates c s) i=chg (vals (gates c s)) c.Signals[i] (gatF c s c.Signals.length)[i] s.Timers[i]:=by
   unfold chgI;rw [hx];simp [gates,gE_ (show i < (gatF c s c.Signals.length).length by omega),gE_ (show i < s.Timers.length by omega)]
  have hbody:∃ b,(((bif (c.Signals[i].Kind.toNat) == 0 then m326 FF (⟨(gatF c s c.Signals.length)[i],s.Timers[i],false⟩:Change) (ev 16 (vals (gates c s)) c.Signals[i].On) (ofb (vals (gates c s)) c.Signals[i]) else bif (c.Signals[i].Kind.toNat) == 1 then m327 FF (⟨(gatF c s c.Signals.length)[i],s.Timers[i],false⟩:Change) (ev 16 (vals (gates c s)) c.Signals[i].On) (ofb (vals (gates c s)) c.Signals[i]) else bif (c.Signals[i].Kind.toNat) == 2 then m328 FF (⟨(gatF c s c.Signals.length)[i],s.Timers[i],false⟩:Change) (ev 16 (vals (gates c s)) c.Signals[i].On) (ofb (vals (gates c s)) c.Signals[i]) else none)))=some (⟨(chgI c (gates c s) i).1,(chgI c (gates c s) i).2,b⟩:Change):=by
   rw [hci];have hk:c.Signals[i].Kind=0\/c.Signals[i].Kind=1\/c.Signals[i].Kind=2:=by omega
   unfold chg;rcases hk with k | k | k <;> rw [k]
   ·exact ⟨false,rfl⟩
   ·rw [show ((1:Int).toNat == 0)=false by rfl,show ((1:Int).toNat == 1)=true by rfl,cf_,ct_,if_pos rfl];unfold m327;cases ev 16 (vals (gates c s)) c.Signals[i].On <;> cases ofb (vals (gates c s)) c.Signals[i] <;> exact ⟨_,rfl⟩
   ·rw [show ((2:Int).toNat == 0)=false by rfl,show ((2:Int).toNat == 1)=false by rfl,show ((2:Int).toNat == 2)=true by rfl,cf_,cf_,ct_,if_neg (by omega),if_pos rfl];unfold m328;cases ev 16 (vals (gates c s)) c.Signals[i].On with
    | false=>exact ⟨_,rfl⟩
    | true=>
     rw [nt_,cf_,if_neg (by simp)];by_cases e:s.Timers[i]=0
     ·rw [if_pos e,show (s.Timers[i] == 0)=true by simpa using e];exact ⟨_,rfl⟩
     ·rw [if_neg e,show (s.Timers[i] == 0)=false by simpa using e];exact ⟨_,rfl⟩
  obtain ⟨b,hbody⟩:=hbody;refine ⟨(upd (fun i=>(chgI c (gates c s) i).1) (gatF c s c.Signals.length) (i + 1),upd (fun i=>(chgI c (gates c s) i).2) s.Timers (i + 1),if b=true then l ++ [((cS c + i:Nat):Int)] else l),⟨rfl,rfl,?_⟩,?_⟩
  ·dsimp only at hll ⊢;split <;> (try simp) <;> omega
  ·rw [m301_l1];dsimp only at hll ⊢;have hr3:idx (List.range 3) c.Signals[i].Kind=some c.Signals[i].Kind.toNat:=by
    have hk:c.Signals[i].Kind=0\/c.Signals[i].Kind=1\/c.Signals[i].Kind=2:=by omega
    rcases hk with k | k | k <;> rw [k] <;> rfl
   have hoff:(bif (c.Signals[i].Kind == (1:Int)) then (m320 FF (c.Signals[i].Off) (vals (gates c s))).bind fun x19=>some x19 else some false)=some (ofb (vals (gates c s)) c.Signals[i]):=by
    unfold ofb;by_cases hk:c.Signals[i].Kind=1
    ·rw [show (c.Signals[i].Kind == 1)=true by simpa using hk,ct_,m320_spec 16 FF _ _ (by rw [hg.vl];exact hf hk) (by unfold FF;omega)];rfl
    ·rw [show (c.Signals[i].Kind == 1)=false by simpa using hk];rfl
   rw [lt_dec,dt_ hi,ct_,idx_nat,hx,ob_,hr3,ob_,idx_nat,e4,ob_,idx_nat,e5,ob_,m320_spec 16 FF _ _ (by rw [hg.vl];exact ho) (by unfold FF;omega),ob_,hoff,ob_,hbody,ob_,ob_,ob_];dsimp only;rw [wr_id (by omega) (by omega),show (cS c:Int) + (i:Int)=((cS c + i:Nat):Int) by omega,wr_nat (by omega),Int.toNat_natCast,upd_set (by omega) rfl,upd_set (by omega) rfl];cases b with
   | true=>
    unfold app;rw [ct_,if_pos (by simp;omega)];rfl
   | false=>rfl) (fun n v _=>by
  rw [m301_l1];dsimp only;rw [lt_dec,df_ (by omega),cf_]) FF 0 (gatF c s c.Signals.length,s.Timers,[]) (by omega) (by unfold FF;omega) ⟨upd_zero.symm,upd_zero.symm,by simp⟩
 obtain ⟨V,T,l⟩:=v;obtain ⟨rfl,rfl,hll⟩:=he;try dsimp only at hl hll
 rw [n0] at hl;rw [hl,ob_];dsimp only;have e1:upd (fun i=>(chgI c (gates c s) i).1) (gatF c s c.Signals.length) c.Signals.length=(once c s).Values:=by
  unfold once nxtS;dsimp only
  conv=>lhs;rw [show c.Signals.length=(gatF c s c.Signals.length).length from hvl.symm]
  rw [show (gates c s).Values=gatF c s c.Signals.length from rfl,hvl];rw [← hvl,hvl];have:=upd_all (f:=fun i=>(chgI c (gates c s) i).1) (l:=gatF c s c.Signals.length);rw [hvl] at this;exact this
 have e2:upd (fun i=>(chgI c (gates c s) i).2) s.Timers c.Signals.length=(once c s).Timers:=by
  have:=upd_all (f:=fun i=>(chgI c (gates c s) i).2) (l:=s.Timers);rw [htl] at this;rw [this];unfold once nxtS;dsimp only;rw [show (gates c s).Timers=s.Timers from rfl,htl]
 rw [e1,e2];refine ⟨l,?_,hll⟩;have e3:(⟨s.Ends,s.Valves,s.Inputs,(once c s).Values,(once c s).Timers⟩:State)=once c s:=rfl;unfold tup;dsimp only;rw [e3,m120_spec (n:=1000) (h.sm hb) (by unfold FF;omega) (by omega)];rfl
end Go.Pn
namespace Go.Pn
open Go
theorem app_ok {α:Type} {xs ys:List α} (h:xs.length + ys.length<=1073741824):app xs ys=some (xs ++ ys):=if_pos h
def stl (c:Control):Nat->State->Option State
 | 0,_=>none
 | k + 1,s=>if sst s (once c s)=true then some s else stl c k (once c s)
structure Kp (s t:State):Prop where
 e:t.Ends=s.Ends
 v:t.Valves=s.Valves
 i:t.Inputs=s.Inputs
theorem stl_kp {c:Control}:∀ {k:Nat} {s t:State},Fit c s->stl c k s=some t->Fit c t/\Kp s t/\sst t (once c t)=true
 | 0,_,_,_,h=>by cases h
 | k + 1,s,t,hf,h=>by
  unfold stl at h;split at h
  ·rename_i h1;obtain rfl:=Option.some.inj h;exact ⟨hf,⟨rfl,rfl,rfl⟩,h1⟩
  ·obtain ⟨h1,⟨h2,h3,h4⟩,h5⟩:=stl_kp (once_fit hf) h;exact ⟨h1,⟨h2,h3,h4⟩,h5⟩
theorem m241_l2_spec (x6:State×List Int) (hl:x6.2.length<=1000) (m:List (Int×Bool)):∃ z m',m241_l2 x6 FF ((0:Int),m)=some (z,m'):=by
 obtain ⟨v,_,h⟩:=forI (L:=m241_l2 x6) (mk:=fun i (m:List (Int×Bool))=>((i:Int),m)) (N:=x6.2.length) (I:=fun _ _=>True) (fun n i m hi _=>by
  refine ⟨mput eqqI m x6.2[i] true,trivial,?_⟩;rw [m241_l2];dsimp only;rw [lt_dec,dt_ hi,ct_,idx_nat,gE_ hi,ob_,wr_nat (by omega)]) (fun n m _=>by
  rw [m241_l2];dsimp only;rw [lt_dec,df_ (by omega),cf_]) FF 0 m (by omega) (by unfold FF;omega) trivial
 try dsimp only at h
 rw [n0] at h;exact ⟨_,_,h⟩
theorem m241_l3_spec {c:Control} (hb:Bd_ c) (o:Int×List (Int×Bool)):∃ z l,m241_l3 FF c o FF ((0:Int),[])=some (z,l)/\l.length<=cL c:=by
 have h1:=hb.a';have h2:=hb.i;have h3:=hb.s;have hS:cS c=2 * cA c + c.Inputs.length:=rfl;have hL:cL c=cS c + c.Signals.length:=rfl;obtain ⟨v,hv,h⟩:=forI (L:=m241_l3 FF c o) (mk:=fun i (m:List Int)=>((i:Int),m)) (N:=cL c) (I:=fun i l=>l.length<=i) (fun n i m hi hI=>by
  rw [m241_l3];dsimp only;rw [m179_spec hb,ob_,lt_dec,dt_ hi,ct_,wr_nat (by omega)];cases (mat eqqI o.2 (i:Int)).getD false with
  | true=>
   unfold app;rw [ct_,if_pos (by simp;omega)];exact ⟨m ++ [(i:Int)],by simp;omega,rfl⟩
  | false=>exact ⟨m,by omega,rfl⟩) (fun n m _=>by
  rw [m241_l3];dsimp only;rw [m179_spec hb,ob_,lt_dec,df_ (by omega),cf_]) FF 0 [] (by omega) (by unfold FF;omega) (by simp)
 try dsimp only at h
 rw [n0] at h;exact ⟨_,_,h,hv⟩
theorem m241_l1_spec {c:Control} (hc:Rt c):∀ (k n j:Nat) (s:State) (m:List (Int×Bool)),j + k=65->k < n->Fit c s ->
  match stl c k s with
  | some t=>∃ l z,m241_l1 FF c n ((j:Int),s,m)=some (.ret (t,l,z,true))/\l.length<=100
  | none=>∃ q,m241_l1 FF c n ((j:Int),s,m)=some (.brk q)
 | _,0,_,_,_,_,h,_=>by omega
 | 0,n + 1,j,s,m,h1,h2,hf=>by
  unfold stl m241_l1;dsimp only;rw [show decide ((j:Int)<=64)=false by simp;omega,cf_];exact ⟨_,rfl⟩
 | k + 1,n + 1,j,s,m,h1,h2,hf=>by
  have hb:=hc.bd;have h3:=hb.s;have hS:cS c=2 * cA c + c.Inputs.length:=rfl;have hL:cL c=cS c + c.Signals.length:=rfl;obtain ⟨l,e1,hl⟩:=m268_spec hc hf;obtain ⟨z,m',e2⟩:=m241_l2_spec (once c s,l) (by dsimp only;omega) m;have ho:=once_fit hf;unfold stl m241_l1;dsimp only;rw [show decide ((j:Int)<=64)=true by simp;omega,ct_,e1,ob_,e2,ob_,m23_spec (n:=1000) (ho.sm hb) (by unfold FF;omega) (by omega),ob_,show sst (once c s) s=sst s (once c s) from sst_comm];cases hs:sst s (once c s) with
  | true=>
   obtain ⟨z2,l2,e3,hl2⟩:=m241_l3_spec hb (z,m');rw [if_pos rfl,ct_,e3,ob_];have:=hb.a';have:=hb.i;exact ⟨l2,(j:Int),rfl,by omega⟩
  | false=>
   rw [if_neg (by simp),cf_,wr_nat (by omega)];exact m241_l1_spec hc k n (j + 1) (once c s) m' (by omega) (by omega) ho
theorem m182_spec {c:Control} {s:State} (hc:Rt c) (hf:Fit c s):match stl c 65 s with
  | some t=>∃ l,m182 FF c s=some (t,l,true)/\l.length<=100
  | none=>∃ a l,m182 FF c s=some (a,l,false):=by
 have h:=m241_l1_spec hc 65 FF 0 s [] (by omega) (by unfold FF;omega) hf;rw [n0] at h;unfold m182 m241;cases hs:stl c 65 s with
 | none=>rw [hs] at h;obtain ⟨q,h⟩:=h;rw [h];exact ⟨_,_,rfl⟩
 | some t=>rw [hs] at h;obtain ⟨l,z,h,hl⟩:=h;rw [h];exact ⟨l,rfl,hl⟩
theorem m206_spec {l:List Int} (h:l.length<=900000000):∃ r,m206 FF l=some r/\r.length=l.length:=by
 unfold m206;rw [if_pos (by omega)];exact ⟨_,rfl,List.length_mergeSort l⟩
theorem m207_spec {l:List Int} (h:l.length<=900000000):∃ r,m207 FF l=some r/\r.length<=l.length:=by
 unfold m207;rw [if_pos (by omega)];exact ⟨_,rfl,compact_le l⟩
theorem m273_l1_spec {c:Control} (hc:Rt c):∀ (k n j:Nat) (s:State) (q:List Int),j + k=65->k < n->Fit c s->q.length<=16 * j ->
  match stl c k s with
  | some t=>∃ l z,m273_l1 FF c.Actuators (cS c:Int) c.Inputs c.Signals c.Plus c.Minus s.Ends s.Valves s.Inputs n ((j:Int),s.Values,s.Timers,q)=some (.ret (z,0,t.Values,t.Timers,l))/\l.length<=2000
  | none=>∃ q',m273_l1 FF c.Actuators (cS c:Int) c.Inputs c.Signals c.Plus c.Minus s.Ends s.Valves s.Inputs n ((j:Int),s.Values,s.Timers,q)=some (.brk q')
 | _,0,_,_,_,_,h,_,_=>by omega
 | 0,n + 1,j,s,q,h1,h2,hf,hq=>by
  unfold stl m273_l1;dsimp only;rw [show decide ((j:Int)<=64)=false by simp;omega,cf_];exact ⟨_,rfl⟩
 | k + 1,n + 1,j,s,q,h1,h2,hf,hq=>by
  have hb:=hc.bd;have h3:=hb.s;obtain ⟨l,e1,hl⟩:=m301_spec hc hf;have ho:=once_fit hf;unfold stl m273_l1;dsimp only;rw [show decide ((j:Int)<=64)=true by simp;omega,ct_,e1,ob_];dsimp only;rw [app_ok (by omega),ob_];cases hs:sst s (once c s) with
  | true=>
   obtain ⟨r1,e2,l2⟩:=m206_spec (l:=q ++ l) (by simp;omega);obtain ⟨r2,e3,l3⟩:=m207_spec (l:=r1) (by rw [l2];simp;omega);rw [if_pos rfl,show (!(!true))=true by rfl,ct_,e2,ob_,e3,ob_];have hse:=sst_iff.1 hs;rw [← hse];refine ⟨r2,(j:Int),rfl,?_⟩;rw [List.length_append] at l2;omega
  | false=>
   rw [if_neg (by simp),show (!(!false))=false by rfl,cf_,wr_nat (by omega)];exact m273_l1_spec hc k n (j + 1) (once c s) (q ++ l) (by omega) (by omega) ho (by rw [List.length_append];omega)
theorem m192_1_spec {xs:List Int} {k:Int} (hl:xs.length<=1000):m192_1 FF xs k=some (xs.any fun x=>decide (x < 0) || decide (x>=k)):=by
 unfold m192_1 m122_1;have h5:=srch (L:=m122_1_l1 FF xs k) (xs:=xs) (p:=fun _ y=>m271 FF y k) (q:=fun x=>decide (x < 0) || decide (x>=k)) (r:=fun z=>z) (fun _ _=>rfl) (by omega) (fun i y hy=>rfl) FF 0 (by omega) (by unfold FF;omega);rw [n0,List.drop_zero] at h5;rw [h5];cases h6:xs.findIdx? (fun x=>decide (x < 0) || decide (x>=k)) with
 | none=>
  rw [List.findIdx?_eq_none_iff] at h6;have:(xs.any fun x=>decide (x < 0) || decide (x>=k))=false:=List.any_eq_false.2 fun y hy=>by simpa using h6 y hy
  rw [this];rfl
 | some j=>
  obtain ⟨hj,hj2,_⟩:=List.findIdx?_eq_some_iff_getElem.1 h6;have:(xs.any fun x=>decide (x < 0) || decide (x>=k))=true:=List.any_eq_true.2 ⟨_,List.getElem_mem hj,by simpa using hj2⟩;rw [this];simp
def tbad (c:Control) (s:State) (i:Nat):Bool:=match c.Signals[i]?,s.Timers[i]?,s.Values[i]? with
 | some x,some t,some v=>(x.Kind != 2 && t != 0) || (x.Kind == 2 && v != (t == 2))
 | _,_,_=>false
def fitE (c:Control) (s:State):Int:=
 if (s.Ends.length:Int)≠c.Actuators\/(s.Valves.length:Int)≠c.Actuators\/s.Inputs.length≠c.Inputs.length\/s.Values.length≠c.Signals.length\/s.Timers.length≠c.Signals.length then 8
 else if (s.Ends.any fun x=>decide (x < 0) || decide (x>=4))=true then 1
 else if (s.Timers.any fun x=>decide (x < 0) || decide (x>=3))=true then 1
 else if (List.range c.Signals.length).any (tbad c s)=true then 14 else 0
theorem lens_dec {c:Control} {s:State}:(((((((s.Ends.length:Int) != c.Actuators) || ((s.Valves.length:Int) != c.Actuators)) || ((s.Inputs.length:Int) != (c.Inputs.length:Int))) || ((s.Values.length:Int) != (c.Signals.length:Int))) || ((s.Timers.length:Int) != (c.Signals.length:Int))))=decide ((s.Ends.length:Int)≠c.Actuators\/(s.Valves.length:Int)≠c.Actuators\/s.Inputs.length≠c.Inputs.length\/s.Values.length≠c.Signals.length\/s.Timers.length≠c.Signals.length):=by
 rw [Bool.eq_iff_iff];simp only [Bool.or_eq_true,bne_iff_ne,ne_eq,decide_eq_true_eq,Int.natCast_inj,or_assoc]
theorem m249_spec {c:Control} {s:State} (hb:Bd_ c):m249 FF c s=some (fitE c s):=by
 have h1:=hb.a6;have h2:=hb.i;have h3:=hb.s;unfold m249 fitE;rw [lens_dec];by_cases hl:(s.Ends.length:Int)≠c.Actuators\/(s.Valves.length:Int)≠c.Actuators\/s.Inputs.length≠c.Inputs.length\/s.Values.length≠c.Signals.length\/s.Timers.length≠c.Signals.length
 ·rw [if_pos hl,dt_ hl];rfl
 ·rw [if_neg hl,df_ hl,cf_];have hl:(s.Ends.length:Int)=c.Actuators/\(s.Valves.length:Int)=c.Actuators/\s.Inputs.length=c.Inputs.length/\s.Values.length=c.Signals.length/\s.Timers.length=c.Signals.length:=by omega
  rw [show m270 FF (4:Int)=some 4 from rfl,show m270 FF (3:Int)=some 3 from rfl,ob_,m192_1_spec (by omega),ob_,ob_,m192_1_spec (by omega)];cases (s.Ends.any fun x=>decide (x < 0) || decide (x>=4)) with
  | true=>rfl
  | false=>
   rw [cf_,ob_,ob_,if_neg (by simp)];cases (s.Timers.any fun x=>decide (x < 0) || decide (x>=3)) with
   | true=>rfl
   | false=>
    rw [cf_,if_neg (by simp)];have hs:=srchI (L:=m249_l1 c s) (N:=c.Signals.length) (Q:=tbad c s) (r:=fun _=>14) (fun n i hi=>by
     have e1:c.Signals[i]?=some c.Signals[i]:=gE_ hi;have e2:s.Timers[i]?=some s.Timers[i]:=gE_ (by omega);have e3:s.Values[i]?=some s.Values[i]:=gE_ (by omega);rw [m249_l1];unfold tbad;rw [hl.2.2.2.2,lt_dec,dt_ hi,ct_,idx_nat,idx_nat,idx_nat,e1,e2,e3,ob_,ob_,ob_,wr_nat (by omega)];dsimp only;cases hk:(c.Signals[i].Kind == 2) with
     | true=>
      have hk':(c.Signals[i].Kind != 2)=false:=by show (!(c.Signals[i].Kind == 2))=false;rw [hk];rfl
      rw [hk'];cases (s.Values[i] != (s.Timers[i] == 2)) <;> rfl
     | false=>
      have hk':(c.Signals[i].Kind != 2)=true:=by show (!(c.Signals[i].Kind == 2))=true;rw [hk];rfl
      rw [hk'];cases (s.Timers[i] != 0) <;> rfl) (fun n=>by
     rw [m249_l1,hl.2.2.2.2,lt_dec,df_ (by omega),cf_]) FF 0 (by omega) (by unfold FF;omega)
    rw [n0] at hs;rcases hs with ⟨k,_,hk,hq,h⟩ | ⟨h,hn⟩
    ·rw [h,if_pos (List.any_eq_true.2 ⟨k,List.mem_range.2 hk,hq⟩)];rfl
    ·rw [h,if_neg ?_]
     ·rfl
     ·intro ha;obtain ⟨k,hk,h4⟩:=List.any_eq_true.1 ha;have:=hn k (by omega) (List.mem_range.1 hk);rw [this] at h4;cases h4
theorem fitE_zero {c:Control} {s:State} (hb:Bd_ c):fitE c s=0↔Fit c s:=by
 have ha:=hb.a;unfold fitE;constructor
 ·intro h;split at h
  ·contradiction
  ·rename_i h1;split at h
   ·contradiction
   ·rename_i h2;split at h
    ·contradiction
    ·rename_i h3;split at h
     ·contradiction
     ·rename_i h4;refine ⟨by omega,by omega,by omega,by omega,by omega,fun a ha=>?_,fun a ha=>?_,fun i x t v hx ht hv=>?_⟩
      ·have:=List.any_eq_false.1 (by simpa using h2:(s.Ends.any fun x=>decide (x < 0) || decide (x>=4))=false) a ha;simp at this;omega
      ·have:=List.any_eq_false.1 (by simpa using h3:(s.Timers.any fun x=>decide (x < 0) || decide (x>=3))=false) a ha;simp at this;omega
      ·have hb:tbad c s i=false:=by
        cases hq:tbad c s i with
        | false=>rfl
        | true=>exact absurd (List.any_eq_true.2 ⟨i,List.mem_range.2 (List.getElem?_eq_some_iff.1 hx).1,hq⟩) h4
       unfold tbad at hb;rw [hx,ht,hv] at hb;dsimp only at hb;rw [Bool.or_eq_false_iff,Bool.and_eq_false_iff,Bool.and_eq_false_iff] at hb;obtain ⟨h5,h6⟩:=hb;refine ⟨fun hk=>?_,fun hk=>?_⟩
       ·rcases h5 with h5 | h5
        ·exact absurd (by simpa using h5) hk
        ·simpa using h5
       ·rcases h6 with h6 | h6
        ·simp [hk] at h6
        ·simpa using h6
 ·intro h;obtain ⟨a1,a2,a3,a4,a5,a6,a7,a8⟩:=h;rw [if_neg (by omega),if_neg,if_neg,if_neg]
  ·intro hx;obtain ⟨i,hi,hq⟩:=List.any_eq_true.1 hx;have hi:=List.mem_range.1 hi;have e1:c.Signals[i]?=some c.Signals[i]:=gE_ hi;have e2:s.Timers[i]?=some s.Timers[i]:=gE_ (by omega);have e3:s.Values[i]?=some s.Values[i]:=gE_ (by omega);unfold tbad at hq;rw [e1,e2,e3] at hq;dsimp only at hq;obtain ⟨k1,k2⟩:=a8 i _ _ _ e1 e2 e3;by_cases hk:c.Signals[i].Kind=2
   ·rw [k2 hk] at hq;simp [hk] at hq
   ·rw [k1 hk] at hq;simp [hk] at hq
  ·intro hx;obtain ⟨a,ha,hq⟩:=List.any_eq_true.1 hx;have:=a7 a ha;simp at hq;omega
  ·intro hx;obtain ⟨a,ha,hq⟩:=List.any_eq_true.1 hx;have:=a6 a ha;simp at hq;omega
theorem m203_spec {c:Control} {s:State} (hc:Rc c):m203 FF c s=some (fitE c s):=by
 unfold m203;rw [hc.ck,ob_,zf_,cf_,m249_spec hc.rt.bd];rfl
abbrev z0:State:=⟨[],[],[],[],[]⟩
theorem m250_spec {c:Control} {s:State} (hc:Rc c) (hf:Fit c s):match stl c 65 s with
  | some t=>∃ l,m250 FF c s=some (t,0,l)/\l.length<=2000
  | none=>m250 FF c s=some (z0,21,[]):=by
 have hb:=hc.rt.bd;have h1:=hb.a';have h2:=hb.i;have h3:=hb.s;have hS:cS c=2 * cA c + c.Inputs.length:=rfl;have h:=m273_l1_spec hc.rt 65 FF 0 s [] (by omega) (by unfold FF;omega) hf (by simp);rw [n0] at h;unfold m250 m272;rw [m203_spec hc,(fitE_zero hb).2 hf,ob_,zf_,cf_,m300_spec (hf.sm hb),ob_,ob_];dsimp only;rw [zf_,cf_,hb.wa,wr_id (by omega) (by omega),show ((2 * cA c:Nat):Int) + (c.Inputs.length:Int)=(cS c:Int) by omega];unfold m273 tup;dsimp only;cases hs:stl c 65 s with
 | none=>rw [hs] at h;obtain ⟨q,h⟩:=h;rw [h];rfl
 | some t=>
  rw [hs] at h;obtain ⟨l,z,h,hl⟩:=h;obtain ⟨_,⟨k1,k2,k3⟩,_⟩:=stl_kp hf hs;rw [h];refine ⟨l,?_,hl⟩;rw [ob_,ob_];dsimp only;rw [zf_,cf_,← k1,← k2,← k3]
def lin (s:State) (k:Int):Bool:=(vals s).getD k.toNat false
def vlv (c:Control) (s:State) (i:Nat):Bool:=if lin s (c.Plus.getD i 0)=lin s (c.Minus.getD i 0) then s.Valves.getD i false else lin s (c.Plus.getD i 0)
def endn (v:Bool) (e:Int):Int:=if v=true then (if e=2\/e=1 then e else 1) else (if e=0\/e=3 then e else 3)
def rnd (c:Control) (s:State):State:=⟨(List.range s.Ends.length).map fun i=>endn (vlv c s i) (s.Ends.getD i 0),(List.range s.Valves.length).map (vlv c s),s.Inputs,s.Values,s.Timers⟩
theorem rnd_fit {c:Control} {s:State} (h:Fit c s):Fit c (rnd c s):=by
 refine ⟨by simp [rnd,h.e],by simp [rnd,h.v],h.i,h.x,h.t,?_,h.tt,h.k⟩;intro a ha;obtain ⟨i,hi,rfl⟩:=List.mem_map.1 ha;have hi:=List.mem_range.1 hi;have:=h.ee s.Ends[i] (List.getElem_mem hi);rw [List.getD_eq_getElem?_getD,gE_ hi,Option.getD_some];generalize s.Ends[i]=e at this;unfold endn;split <;> split <;> omega
theorem vals_get {c:Control} {s:State} (h:Fit c s) (k:Nat) (hk:k < cL c):∃ b,(vals s)[k]?=some b/\lin s (k:Int)=b:=by
 have:k < (vals s).length:=by rw [h.vl];exact hk
 exact ⟨(vals s)[k],gE_ this,by unfold lin;simp [gE_ this]⟩
theorem m251_spec {c:Control} {s:State} (hb:Bd_ c) (h:Fit c s) {k:Nat} (hk:k < cL c):m251 FF c s (k:Int)=some (lin s (k:Int)):=by
 have h1:=hb.a';have h2:=hb.i;have h3:=hb.s;have hS:cS c=2 * cA c + c.Inputs.length:=rfl;have hL:cL c=cS c + c.Signals.length:=rfl;have hel:(endv s).length=2 * cA c:=by unfold endv;rw [fm_len,h.e]
 unfold m251 lin;rw [hb.wa,lt_dec,Int.toNat_natCast,List.getD_eq_getElem?_getD];by_cases h4:k < 2 * cA c
 ·rw [dt_ h4,ct_];have hdiv:(k:Int).tdiv 2=((k / 2:Nat):Int):=by
   rw [Int.tdiv_eq_ediv_of_nonneg (by omega)];omega
  have hmod:(k:Int).tmod 2=((k % 2:Nat):Int):=by
   rw [Int.tmod_eq_emod_of_nonneg (by omega)];omega
  have hv:(vals s)[k]?=(endv s)[k]?:=by
   unfold vals pre;rw [List.append_assoc,List.getElem?_append_left (by omega)]
  have hk2:k / 2 < s.Ends.length:=by rw [h.e];omega
  have he:s.Ends[k / 2]?=some s.Ends[k / 2]:=gE_ hk2;rw [hdiv,hmod,wr_id (by omega) (by omega),idx_nat,he,ob_,hv];unfold endv;rw [fm_get,he];have hm2:k % 2=0\/k % 2=1:=by omega
  rcases hm2 with e | e <;> rw [e] <;> rfl
 ·rw [df_ h4,cf_,wr_id (by omega) (by omega),show (k:Int) - ((2 * cA c:Nat):Int)=((k - 2 * cA c:Nat):Int) by omega,lt_dec];by_cases h5:k - 2 * cA c < s.Inputs.length
  ·rw [dt_ h5,ct_,idx_nat,gE_ h5,ob_];unfold vals pre;rw [List.append_assoc,List.getElem?_append_right (by omega),hel,List.getElem?_append_left h5,gE_ h5];rfl
  ·rw [df_ h5,cf_,wr_id (by have:=h.i;omega) (by omega),show ((k - 2 * cA c:Nat):Int) - (s.Inputs.length:Int)=((k - 2 * cA c - s.Inputs.length:Nat):Int) by omega,idx_nat];have h6:k - 2 * cA c - s.Inputs.length < s.Values.length:=by have:=h.i;have:=h.x;omega
   rw [gE_ h6,ob_];unfold vals pre;rw [List.append_assoc,List.getElem?_append_right (by omega),hel,List.getElem?_append_right (by omega),gE_ h6];rfl
end Go.Pn
namespace Go.Pn
open Go
theorem plus_at {c:Control} (hc:Rt c) {i:Nat} (hi:i < cA c):∃ p m:Nat,c.Plus[i]?=some (p:Int)/\c.Minus[i]?=some (m:Int)/\p < cL c/\m < cL c/\c.Plus.getD i 0=(p:Int)/\c.Minus.getD i 0=(m:Int):=by
 have h1:i < c.Plus.length:=by rw [hc.plus];exact hi
 have h2:i < c.Minus.length:=by rw [hc.minus];exact hi
 have h3:=hc.lines c.Plus[i] (List.mem_append_left _ (List.getElem_mem h1));have h4:=hc.lines c.Minus[i] (List.mem_append_right _ (List.getElem_mem h2));have e1:((c.Plus[i].toNat:Nat):Int)=c.Plus[i]:=by omega
 have e2:((c.Minus[i].toNat:Nat):Int)=c.Minus[i]:=by omega
 refine ⟨c.Plus[i].toNat,c.Minus[i].toNat,?_,?_,by omega,by omega,?_,?_⟩
 ·rw [gE_ h1,e1]
 ·rw [gE_ h2,e2]
 ·rw [List.getD_eq_getElem?_getD,gE_ h1,e1];rfl
 ·rw [List.getD_eq_getElem?_getD,gE_ h2,e2];rfl
theorem endn_eq (v:Bool) (e:Int):(bif (e != (bif v then ((2:Int),(1:Int)) else ((0:Int),(3:Int))).1) && (e != (bif v then ((2:Int),(1:Int)) else ((0:Int),(3:Int))).2) then (bif v then ((2:Int),(1:Int)) else ((0:Int),(3:Int))).2 else e)=endn v e:=by
 unfold endn;cases v with
 | true=>
  simp only [ct_,if_true];by_cases h:e=2
  ·simp [h]
  ·by_cases h1:e=1
   ·simp [h1]
   ·rw [show (e != 2)=true by simpa using h,show (e != 1)=true by simpa using h1,if_neg (by omega)];rfl
 | false=>
  simp only [cf_];by_cases h:e=0
  ·simp [h]
  ·by_cases h1:e=3
   ·simp [h1]
   ·rw [show (e != 0)=true by simpa using h,show (e != 3)=true by simpa using h1];simp [h,h1]
theorem m204_spec {c:Control} {s:State} (hc:Rc c) (hf:Fit c s):match stl c 65 s with
  | some t=>∃ l,m204 FF c s=some (rnd c t,0,l)/\l.length<=3000
  | none=>m204 FF c s=some (z0,21,[]):=by
 have hb:=hc.rt.bd;have h1:=hb.a';have h2:=hb.i;have h3:=hb.s;have hS:cS c=2 * cA c + c.Inputs.length:=rfl;have hL:cL c=cS c + c.Signals.length:=rfl;have h:=m250_spec hc hf;unfold m204;cases hs:stl c 65 s with
 | none=>rw [hs] at h;rw [h];rfl
 | some t=>
  rw [hs] at h;obtain ⟨l0,h,hl0⟩:=h;obtain ⟨ht,_,_⟩:=stl_kp hf hs;rw [h,ob_];dsimp only;rw [zf_,cf_,m135_spec (ht.sm hb),ob_];have hel:=ht.e;have hvl:=ht.v;obtain ⟨v,hI,hl⟩:=forI (L:=m204_l1 FF c (t,0,l0)) (mk:=fun i (v:List Int×List Int×List Bool)=>((i:Int),v.1,v.2.1,v.2.2)) (N:=cA c) (I:=fun i v=>v.1.length<=2000 + i/\v.2.1=upd (fun i=>endn (vlv c t i) (t.Ends.getD i 0)) t.Ends i/\v.2.2=upd (vlv c t) t.Valves i) (fun n i v hi hI=>by
   obtain ⟨l,E,V⟩:=v;obtain ⟨hll,rfl,rfl⟩:=hI;obtain ⟨p,m,e1,e2,hp,hm,g1,g2⟩:=plus_at hc.rt hi;have e4:(upd (fun i=>endn (vlv c t i) (t.Ends.getD i 0)) t.Ends i)[i]?=some t.Ends[i]:=by rw [upd_get (Nat.le_refl i)];exact gE_ (by omega)
   have e5:(upd (vlv c t) t.Valves i)[i]?=some t.Valves[i]:=by rw [upd_get (Nat.le_refl i)];exact gE_ (by omega)
   have e6:t.Ends.getD i 0=t.Ends[i]:=by rw [List.getD_eq_getElem?_getD,gE_ (by omega)];rfl
   have e7:t.Valves.getD i false=t.Valves[i]:=by rw [List.getD_eq_getElem?_getD,gE_ (by omega)];rfl
   have hsetE:∀ y,y=endn (vlv c t i) (t.Ends.getD i 0)->(upd (fun i=>endn (vlv c t i) (t.Ends.getD i 0)) t.Ends i).set i y=upd (fun i=>endn (vlv c t i) (t.Ends.getD i 0)) t.Ends (i + 1):=fun y hy=>upd_set (by omega) hy;have hsetV:∀ y,y=vlv c t i->(upd (vlv c t) t.Valves i).set i y=upd (vlv c t) t.Valves (i + 1):=fun y hy=>upd_set (by omega) hy;have hkeep:vlv c t i=t.Valves[i]->upd (vlv c t) t.Valves i=upd (vlv c t) t.Valves (i + 1):=fun hy=>by
    rw [← hsetV t.Valves[i] hy.symm];refine List.ext_getElem? fun j=>?_;by_cases hj:j=i
    ·subst hj;rw [List.getElem?_set_self (by rw [upd_len (by omega)];omega),e5]
    ·rw [List.getElem?_set_ne (by omega)]
   have hkeepE:endn (vlv c t i) (t.Ends.getD i 0)=t.Ends[i]->upd (fun i=>endn (vlv c t i) (t.Ends.getD i 0)) t.Ends i=upd (fun i=>endn (vlv c t i) (t.Ends.getD i 0)) t.Ends (i + 1):=fun hy=>by
    rw [← hsetE t.Ends[i] hy.symm];refine List.ext_getElem? fun j=>?_;by_cases hj:j=i
    ·subst hj;rw [List.getElem?_set_self (by rw [upd_len (by omega)];omega),e4]
    ·rw [List.getElem?_set_ne (by omega)]
   have hvi:vlv c t i=if lin t (p:Int)=lin t (m:Int) then t.Valves[i] else lin t (p:Int):=by
    unfold vlv;rw [g1,g2,e7]
   -- the valve
   have hV:∀ (k:(List Int×List Bool)->Option (Int×List Int×List Int×List Bool)),((bif (lin t (p:Int) && lin t (m:Int)) then (app l ([(wr ((wr ((wr ((wr ((2:Int) * (c).Actuators)) + (((c).Inputs).length:Int))) + (((c).Signals).length:Int))) + (i:Int)))]:List Int)).bind fun x16=>some (x16,(upd (vlv c t) t.Valves i)) else (bif (lin t (p:Int) || lin t (m:Int)) then (idx (upd (vlv c t) t.Valves i) (i:Int)).bind fun x19=>some ((upd (vlv c t) t.Valves i).set ((i:Int)).toNat (lin t (p:Int))) else some (upd (vlv c t) t.Valves i)).bind fun z18=>some (l,z18)).bind k)=k ((if (lin t (p:Int) && lin t (m:Int))=true then l ++ [((cL c + i:Nat):Int)] else l),upd (vlv c t) t.Valves (i + 1)):=by
    intro k;have w1:wr (((2 * cA c:Nat):Int) + (c.Inputs.length:Int))=((cS c:Nat):Int):=by rw [wr_id (by omega) (by omega)];omega
    have w2:wr (((cS c:Nat):Int) + (c.Signals.length:Int))=((cL c:Nat):Int):=by rw [wr_id (by omega) (by omega)];omega
    have w3:wr (((cL c:Nat):Int) + (i:Int))=((cL c + i:Nat):Int):=by rw [wr_id (by omega) (by omega)];omega
    rw [hb.wa,w1,w2,w3,idx_nat,e5,Int.toNat_natCast];dsimp only at hll;cases hP:lin t (p:Int) with
    | true=>
     cases hM:lin t (m:Int) with
     | true=>
      unfold app;rw [Bool.and_self,ct_,if_pos (by simp;omega),hkeep (by rw [hvi,hP,hM];simp)];rfl
     | false=>
      rw [hsetV true (by rw [hvi,hP,hM];simp)];rfl
    | false=>
     cases hM:lin t (m:Int) with
     | true=>
      rw [hsetV false (by rw [hvi,hP,hM];simp)];rfl
     | false=>
      rw [hkeep (by rw [hvi,hP,hM];simp)];rfl
   refine ⟨((if (lin t (p:Int) && lin t (m:Int))=true then l ++ [((cL c + i:Nat):Int)] else l),upd (fun i=>endn (vlv c t i) (t.Ends.getD i 0)) t.Ends (i + 1),upd (vlv c t) t.Valves (i + 1)),⟨?_,rfl,rfl⟩,?_⟩
   ·dsimp only at hll ⊢;split <;> (try simp) <;> omega
   ·rw [m204_l1];dsimp only;rw [hb.a,lt_dec,dt_ hi,ct_,idx_nat,e1,ob_,m251_spec hb ht hp,ob_,idx_nat,e2,ob_,m251_spec hb ht hm,ob_,← hb.a,hV];dsimp only;have e8:(upd (vlv c t) t.Valves (i + 1))[i]?=some (vlv c t i):=by
     rw [← hsetV _ rfl,List.getElem?_set_self (by rw [upd_len (by omega)];omega)]
    rw [idx_nat,e4,ob_,idx_nat,e8,ob_,cs_,ob_,ob_,wr_nat (by omega)];have hE:((bif (t.Ends[i] != (bif vlv c t i then ((2:Int),(1:Int)) else ((0:Int),(3:Int))).1) && (t.Ends[i] != (bif vlv c t i then ((2:Int),(1:Int)) else ((0:Int),(3:Int))).2) then some ((upd (fun i=>endn (vlv c t i) (t.Ends.getD i 0)) t.Ends i).set ((i:Int)).toNat (bif vlv c t i then ((2:Int),(1:Int)) else ((0:Int),(3:Int))).2) else some (upd (fun i=>endn (vlv c t i) (t.Ends.getD i 0)) t.Ends i)))=some (upd (fun i=>endn (vlv c t i) (t.Ends.getD i 0)) t.Ends (i + 1)):=by
     have hq:=endn_eq (vlv c t i) t.Ends[i];rw [Int.toNat_natCast];cases hcnd:(t.Ends[i] != (bif vlv c t i then ((2:Int),(1:Int)) else ((0:Int),(3:Int))).1) && (t.Ends[i] != (bif vlv c t i then ((2:Int),(1:Int)) else ((0:Int),(3:Int))).2) with
     | true=>
      rw [hcnd,ct_] at hq;rw [ct_,hsetE _ (by rw [e6,← hq])]
     | false=>
      rw [hcnd,cf_] at hq;rw [cf_,hkeepE (by rw [e6,← hq])]
    rw [hE,ob_]) (fun n v _=>by
   rw [m204_l1];dsimp only;rw [hb.a,lt_dec,df_ (by omega),cf_]) FF 0 (l0,t.Ends,t.Valves) (by omega) (by unfold FF;omega) ⟨by dsimp only;omega,upd_zero.symm,upd_zero.symm⟩
  obtain ⟨l,E,V⟩:=v;obtain ⟨hll,rfl,rfl⟩:=hI;try dsimp only at hl hll
  rw [n0] at hl;refine ⟨l,?_,by omega⟩;show ((m204_l1 FF c (t,0,l0) FF ((0:Int),l0,t.Ends,t.Valves)).bind _)=_;rw [hl,ob_];unfold rnd tup;dsimp only;have e1:=upd_all (f:=fun i=>endn (vlv c t i) (t.Ends.getD i 0)) (l:=t.Ends);have e2:=upd_all (f:=vlv c t) (l:=t.Valves);rw [hel] at e1;rw [hvl] at e2;rw [e1,e2,hel,hvl]
theorem m185_spec {a b:List Int} (h:a.length + b.length < 50000):∃ l,m185 FF a b=some l/\l.length<=a.length + b.length:=by
 have key:=iter (L:=fun n (z:Int×Int×List Int)=>m185_l1 a b n z) (fun z=>(a.length - z.1.toNat) + (b.length - z.2.1.toNat)) (fun z=>0<=z.1/\z.1<=a.length/\0<=z.2.1/\z.2.1<=b.length/\(z.2.2.length:Int)<=z.1 + z.2.1) (fun r=>∃ z:Int×Int×List Int,r=some z/\z.2.2.length<=a.length + b.length) (fun n z hz=>by
  obtain ⟨i,j,l⟩:=z;obtain ⟨h1,h2,h3,h4,h5⟩:=hz;dsimp only at h1 h2 h3 h4 h5 ⊢;rw [m185_l1];dsimp only;by_cases hi:i < a.length
  ·obtain ⟨x,hx,_⟩:=idx_of h1 hi;by_cases hj:j < b.length
   ·obtain ⟨y,hy,_⟩:=idx_of h3 hj;right;rw [dt_ hi,dt_ hj,Bool.or_self,ct_,show (j == (b.length:Int))=false by simp;omega,show (i == (a.length:Int))=false by simp;omega];simp only [hx,hy,ob_,cf_,ct_];unfold app;rw [if_pos (by simp;omega),if_pos (by simp;omega)];cases decide (x < y) with
    | true=>
     refine ⟨_,?_,?_,rfl⟩
     ·dsimp only;rw [wr_id (by omega) (by omega)];refine ⟨by omega,by omega,by omega,by omega,?_⟩;simp;omega
     ·dsimp only;rw [wr_id (by omega) (by omega)];omega
    | false=>
     cases decide (y < x) with
     | true=>
      refine ⟨_,?_,?_,rfl⟩
      ·dsimp only;rw [wr_id (by omega) (by omega)];refine ⟨by omega,by omega,by omega,by omega,?_⟩;simp;omega
      ·dsimp only;rw [wr_id (by omega) (by omega)];omega
     | false=>
      refine ⟨_,?_,?_,rfl⟩
      ·dsimp only;rw [wr_id (by omega) (by omega),wr_id (by omega) (by omega)];refine ⟨by omega,by omega,by omega,by omega,?_⟩;simp;omega
      ·dsimp only;rw [wr_id (by omega) (by omega),wr_id (by omega) (by omega)];omega
   ·right;rw [dt_ hi,Bool.true_or,ct_,show (j == (b.length:Int))=true by simp;omega];simp only [hx,ob_,ct_];unfold app;rw [if_pos (by simp;omega)];refine ⟨_,?_,?_,rfl⟩
    ·dsimp only;rw [wr_id (by omega) (by omega)];refine ⟨by omega,by omega,by omega,by omega,?_⟩;simp;omega
    ·dsimp only;rw [wr_id (by omega) (by omega)];omega
  ·by_cases hj:j < b.length
   ·obtain ⟨y,hy,_⟩:=idx_of h3 hj;right;rw [df_ hi,dt_ hj,Bool.false_or,ct_,show (j == (b.length:Int))=false by simp;omega,show (i == (a.length:Int))=true by simp;omega];simp only [hy,ob_,cf_,ct_];unfold app;rw [if_pos (by simp;omega)];refine ⟨_,?_,?_,rfl⟩
    ·dsimp only;rw [wr_id (by omega) (by omega)];refine ⟨by omega,by omega,by omega,by omega,?_⟩;simp;omega
    ·dsimp only;rw [wr_id (by omega) (by omega)];omega
   ·left;rw [df_ hi,df_ hj,Bool.or_self,cf_];exact ⟨_,rfl,by dsimp only;omega⟩) FF ((0:Int),(0:Int),[]) ⟨by simp,by simp,by simp,by simp,by simp⟩ (by simp;unfold FF;omega)
 obtain ⟨z,h1,h2⟩:=key;try dsimp only at h1
 unfold m185;rw [h1];exact ⟨_,rfl,h2⟩
theorem idx_vals {c:Control} {s:State} (h:Fit c s) {k:Nat} (hk:k < cL c):idx (vals s) (k:Int)=some (lin s (k:Int)):=by
 obtain ⟨b,h1,h2⟩:=vals_get h k hk;rw [idx_nat,h1,h2]
theorem m183_spec {c:Control} {t:State} (hc:Rt c) (ht:Fit c t):∃ l,m183 FF c t=some (⟨t.Ends,(List.range t.Valves.length).map (vlv c t),t.Inputs,t.Values,t.Timers⟩,l)/\l.length<=10:=by
 have hb:=hc.bd;have h1:=hb.a';have h2:=hb.i;have h3:=hb.s;have hS:cS c=2 * cA c + c.Inputs.length:=rfl;have hL:cL c=cS c + c.Signals.length:=rfl;have hvl:=ht.v;unfold m183;rw [m232_spec (ht.sm hb),ob_,m242_spec hb ht.e (by rw [ht.i];omega) (by rw [ht.x];omega),ob_];obtain ⟨v,hI,hl⟩:=forI (L:=m183_l1 FF c (vals t)) (mk:=fun i (v:List Bool×List Int)=>((i:Int),v.1,v.2)) (N:=cA c) (I:=fun i v=>v.2.length<=i/\v.1=upd (vlv c t) t.Valves i) (fun n i v hi hI=>by
  obtain ⟨V,l⟩:=v;obtain ⟨hll,rfl⟩:=hI;obtain ⟨p,m,e1,e2,hp,hm,g1,g2⟩:=plus_at hc hi;have e5:(upd (vlv c t) t.Valves i)[i]?=some t.Valves[i]:=by rw [upd_get (Nat.le_refl i)];exact gE_ (by omega)
  have e7:t.Valves.getD i false=t.Valves[i]:=by rw [List.getD_eq_getElem?_getD,gE_ (by omega)];rfl
  have hsetV:∀ y,y=vlv c t i->(upd (vlv c t) t.Valves i).set i y=upd (vlv c t) t.Valves (i + 1):=fun y hy=>upd_set (by omega) hy;have hkeep:vlv c t i=t.Valves[i]->upd (vlv c t) t.Valves i=upd (vlv c t) t.Valves (i + 1):=fun hy=>by
   rw [← hsetV t.Valves[i] hy.symm];refine List.ext_getElem? fun j=>?_;by_cases hj:j=i
   ·subst hj;rw [List.getElem?_set_self (by rw [upd_len (by omega)];omega),e5]
   ·rw [List.getElem?_set_ne (by omega)]
  have hvi:vlv c t i=if lin t (p:Int)=lin t (m:Int) then t.Valves[i] else lin t (p:Int):=by
   unfold vlv;rw [g1,g2,e7]
  dsimp only at hll;refine ⟨(upd (vlv c t) t.Valves (i + 1),if (lin t (p:Int) && lin t (m:Int))=true then l ++ [((cL c + i:Nat):Int)] else l),⟨?_,rfl⟩,?_⟩
  ·dsimp only;split <;> (try simp) <;> omega
  ·rw [m183_l1];dsimp only;rw [hb.a,lt_dec,dt_ hi,ct_,idx_nat,e1,ob_,idx_vals ht hp,ob_,idx_nat,e2,ob_,idx_vals ht hm,ob_,m179_spec hb,ob_,wr_id (by omega) (by omega),show (cL c:Int) + (i:Int)=((cL c + i:Nat):Int) by omega,idx_nat,e5,ob_,wr_nat (by omega),Int.toNat_natCast];cases hP:lin t (p:Int) with
   | true=>
    cases hM:lin t (m:Int) with
    | true=>
     unfold app;rw [Bool.and_self,ct_,if_pos (by simp;omega),hkeep (by rw [hvi,hP,hM];simp)];rfl
    | false=>
     rw [hsetV true (by rw [hvi,hP,hM];simp)];rfl
   | false=>
    cases hM:lin t (m:Int) with
    | true=>
     rw [hsetV false (by rw [hvi,hP,hM];simp)];rfl
    | false=>
     rw [hkeep (by rw [hvi,hP,hM];simp)];rfl) (fun n v _=>by
  rw [m183_l1];dsimp only;rw [hb.a,lt_dec,df_ (by omega),cf_]) FF 0 (t.Valves,[]) (by omega) (by unfold FF;omega) ⟨by simp,upd_zero.symm⟩
 obtain ⟨V,l⟩:=v;obtain ⟨hll,rfl⟩:=hI;try dsimp only at hl hll
 rw [n0] at hl;refine ⟨l,?_,by omega⟩;show ((m183_l1 FF c (vals t) FF ((0:Int),t.Valves,[])).bind _)=_;rw [hl,ob_];have e2:=upd_all (f:=vlv c t) (l:=t.Valves);rw [hvl] at e2;unfold tup;dsimp only;rw [e2,hvl]
theorem m184_spec {c:Control} {t:State} (hb:Bd_ c) (ht:Fit c t) (V:List Bool) (hV:V.length=cA c):m184 FF ⟨t.Ends,V,t.Inputs,t.Values,t.Timers⟩=some ⟨(List.range t.Ends.length).map fun i=>endn (V.getD i false) (t.Ends.getD i 0),V,t.Inputs,t.Values,t.Timers⟩:=by
 have h1:=hb.a';have hel:=ht.e;have hsm:Smst (⟨t.Ends,V,t.Inputs,t.Values,t.Timers⟩:State) 1000:=by
  have:=ht.sm hb;exact ⟨this.e,by show V.length<=1000;omega,this.i,this.x,this.t⟩
 unfold m184;rw [m232_spec hsm,ob_];obtain ⟨v,hI,hl⟩:=forI (L:=m184_l1 ⟨t.Ends,V,t.Inputs,t.Values,t.Timers⟩) (mk:=fun i (v:List Int)=>((i:Int),v)) (N:=cA c) (I:=fun i v=>v=upd (fun i=>endn (V.getD i false) (t.Ends.getD i 0)) t.Ends i) (fun n i v hi hI=>by
  subst hI;have e4:(upd (fun i=>endn (V.getD i false) (t.Ends.getD i 0)) t.Ends i)[i]?=some t.Ends[i]:=by rw [upd_get (Nat.le_refl i)];exact gE_ (by omega)
  have e6:t.Ends.getD i 0=t.Ends[i]:=by rw [List.getD_eq_getElem?_getD,gE_ (by omega)];rfl
  have e7:V.getD i false=V[i]:=by rw [List.getD_eq_getElem?_getD,gE_ (by omega)];rfl
  have hee:=ht.ee t.Ends[i] (List.getElem_mem (by omega));have hsetE:∀ y,y=endn (V.getD i false) (t.Ends.getD i 0)->(upd (fun i=>endn (V.getD i false) (t.Ends.getD i 0)) t.Ends i).set i y=upd (fun i=>endn (V.getD i false) (t.Ends.getD i 0)) t.Ends (i + 1):=fun y hy=>upd_set (by omega) hy;have hkeepE:endn (V.getD i false) (t.Ends.getD i 0)=t.Ends[i]->upd (fun i=>endn (V.getD i false) (t.Ends.getD i 0)) t.Ends i=upd (fun i=>endn (V.getD i false) (t.Ends.getD i 0)) t.Ends (i + 1):=fun hy=>by
   rw [← hsetE t.Ends[i] hy.symm];refine List.ext_getElem? fun j=>?_;by_cases hj:j=i
   ·subst hj;rw [List.getElem?_set_self (by rw [upd_len (by omega)];omega),e4]
   ·rw [List.getElem?_set_ne (by omega)]
  refine ⟨_,rfl,?_⟩;rw [m184_l1];dsimp only;have eV:V[i]?=some V[i]:=gE_ (by omega);have eE:t.Ends[i]?=some t.Ends[i]:=gE_ (by omega);rw [hel,lt_dec,dt_ hi,ct_];simp only [idx_nat,eV,eE,e4,ob_,Int.toNat_natCast];rw [wr_nat (by omega)];rw [e6,e7] at hsetE hkeepE;generalize t.Ends[i]=e at hee hsetE hkeepE e4;cases hv:V[i] with
  | true=>
   rw [hv] at hsetE hkeepE;by_cases h0:e=0
   ·rw [show (e == 0)=true by simpa using h0];simp only [ct_,ob_,Bool.not_true,cf_];rw [hsetE 1 (by unfold endn;rw [if_pos rfl,if_neg (by omega)])]
   ·by_cases h3:e=3
    ·rw [show (e == 0)=false by simpa using h0,show (e == 3)=true by simpa using h3];simp only [ct_,ob_,Bool.not_true,cf_];rw [hsetE 1 (by unfold endn;rw [if_pos rfl,if_neg (by omega)])]
    ·rw [show (e == 0)=false by simpa using h0,show (e == 3)=false by simpa using h3];simp only [ct_,ob_,Bool.not_true,cf_];rw [hkeepE (by unfold endn;rw [if_pos rfl,if_pos (by omega)])]
  | false=>
   rw [hv] at hsetE hkeepE;simp only [cf_,ob_,Bool.not_false,ct_];by_cases h0:e=2
   ·rw [show (e == 2)=true by simpa using h0];simp only [ct_,ob_];rw [e4,ob_,ob_,hsetE 3 (by unfold endn;rw [if_neg (by simp),if_neg (by omega)])]
   ·by_cases h3:e=1
    ·rw [show (e == 2)=false by simpa using h0,show (e == 1)=true by simpa using h3];simp only [ct_,ob_,cf_];rw [e4,ob_,ob_,hsetE 3 (by unfold endn;rw [if_neg (by simp),if_neg (by omega)])]
    ·rw [show (e == 2)=false by simpa using h0,show (e == 1)=false by simpa using h3];simp only [cf_,ob_];rw [hkeepE (by unfold endn;rw [if_neg (by simp),if_pos (by omega)])]) (fun n v _=>by
  rw [m184_l1];dsimp only;rw [hel,lt_dec,df_ (by omega),cf_]) FF 0 t.Ends (by omega) (by unfold FF;omega) upd_zero.symm
 subst hI;try dsimp only at hl
 rw [n0] at hl;show ((m184_l1 ⟨t.Ends,V,t.Inputs,t.Values,t.Timers⟩ FF ((0:Int),t.Ends)).bind _)=_;rw [hl,ob_];have e2:=upd_all (f:=fun i=>endn (V.getD i false) (t.Ends.getD i 0)) (l:=t.Ends);rw [hel] at e2;unfold tup;dsimp only;rw [e2,hel]
theorem m109_spec {c:Control} {s:State} (hc:Rt c) (hf:Fit c s):match stl c 65 s with
  | some t=>∃ l,m109 FF c s=some (rnd c t,l,true)/\l.length<=110
  | none=>∃ a l,m109 FF c s=some (a,l,false):=by
 have hb:=hc.bd;have h:=m182_spec hc hf;unfold m109;cases hs:stl c 65 s with
 | none=>rw [hs] at h;obtain ⟨a,l,h⟩:=h;rw [h];exact ⟨_,_,rfl⟩
 | some t=>
  rw [hs] at h;obtain ⟨l,h,hl⟩:=h;obtain ⟨ht,_,_⟩:=stl_kp hf hs;obtain ⟨l2,h2,hl2⟩:=m183_spec hc ht;obtain ⟨l3,h3,hl3⟩:=m185_spec (a:=l) (b:=l2) (by omega);rw [h,ob_];dsimp only;rw [nt_,cf_,h2,ob_];dsimp only;rw [m184_spec hb ht _ (by simp [ht.v]),ob_,h3,ob_];refine ⟨l3,?_,by omega⟩;congr 2;unfold rnd;congr 1;refine List.map_congr_left fun i hi=>?_;have hi:=List.mem_range.1 hi;rw [ht.e] at hi;rw [List.getD_eq_getElem?_getD,List.getElem?_map,List.getElem?_range (by rw [ht.v];exact hi)];rfl
def rst (c:Control):Nat->State->Option State
 | 0,_=>none
 | k + 1,s=>match stl c 65 s with
  | none=>none
  | some t=>if sst (rnd c t) s=true then some s else rst c k (rnd c t)
def Qt (c:Control) (s:State):Prop:=∃ t,stl c 65 s=some t/\sst (rnd c t) s=true
theorem rst_ok {c:Control}:∀ {k:Nat} {s t:State},Fit c s->rst c k s=some t->Fit c t/\t.Inputs=s.Inputs/\Qt c t
 | 0,_,_,_,h=>by cases h
 | k + 1,s,t,hf,h=>by
  unfold rst at h;cases hs:stl c 65 s with
  | none=>rw [hs] at h;cases h
  | some u=>
   rw [hs] at h;try dsimp only at h
   obtain ⟨hu,hk,_⟩:=stl_kp hf hs;split at h
   ·rename_i h1;obtain rfl:=Option.some.inj h;exact ⟨hf,rfl,u,hs,h1⟩
   ·obtain ⟨h1,h2,h3⟩:=rst_ok (rnd_fit hu) h;exact ⟨h1,h2.trans hk.i,h3⟩
theorem m137_spec {a b:List Int} (h:a.length + b.length<=400000000):∃ l,m137 FF a b=some l/\l.length<=a.length + b.length:=by
 unfold m137;obtain ⟨r1,e2,l2⟩:=m206_spec (l:=a ++ b) (by simp;omega);obtain ⟨r2,e3,l3⟩:=m207_spec (l:=r1) (by rw [l2];simp;omega);rw [m205_spec (by omega) (by omega),ob_,e2,ob_,e3];exact ⟨r2,rfl,by rw [List.length_append] at l2;omega⟩
theorem m134_l1_spec {c:Control} (hc:Rc c):∀ (k n j:Nat) (s:State) (q:List Int),j + k=65->k < n->Fit c s->q.length<=3000 * j ->
  match rst c k s with
  | some t=>∃ l,m134_l1 FF c n ((j:Int),s,q)=some (.ret (t,0,l))/\l.length<=200000
  | none=>m134_l1 FF c n ((j:Int),s,q)=some (.ret (z0,21,[]))\/∃ q',m134_l1 FF c n ((j:Int),s,q)=some (.brk q')
 | _,0,_,_,_,_,h,_,_=>by omega
 | 0,n + 1,j,s,q,h1,h2,hf,hq=>by
  unfold rst m134_l1;dsimp only;rw [show decide ((j:Int) < 65)=false by simp;omega,cf_];exact .inr ⟨_,rfl⟩
 | k + 1,n + 1,j,s,q,h1,h2,hf,hq=>by
  have hb:=hc.rt.bd;have h:=m204_spec hc hf;unfold rst m134_l1;dsimp only;rw [show decide ((j:Int) < 65)=true by simp;omega,ct_];cases hs:stl c 65 s with
  | none=>rw [hs] at h;rw [h];exact .inl rfl
  | some t=>
   rw [hs] at h;obtain ⟨l,h,hl⟩:=h;obtain ⟨ht,_,_⟩:=stl_kp hf hs;have hr:=rnd_fit ht;obtain ⟨l2,e2,hl2⟩:=m137_spec (a:=q) (b:=l) (by omega);rw [h,ob_];dsimp only;rw [zf_,cf_,e2,ob_,m120_spec (n:=1000) (hr.sm hb) (by unfold FF;omega) (by omega),ob_];cases hq2:sst (rnd c t) s with
   | true=>rw [if_pos rfl,ct_,sst_iff.1 hq2];exact ⟨l2,rfl,by omega⟩
   | false=>
    rw [if_neg (by simp),cf_,wr_nat (by omega)];exact m134_l1_spec hc k n (j + 1) (rnd c t) l2 (by omega) (by omega) hr (by omega)
theorem m134_1_l1_eq {c:Control}:∀ {n z},m134_1_l1 FF c n z=(m134_l1 FF c n z).map fun o=>match o with | .brk q=>.brk q | .ret r=>.ret (r.1,r.2.2,r.2.1):=by
 intro n
 induction n with
 | zero=>intro z;rfl
 | succ n ih=>
  intro z;rw [m134_1_l1,m134_l1];cases decide (z.1 < 65) with
  | false=>rfl
  | true=>
   rw [ct_,ct_];cases m204 FF c z.2.1 with
   | none=>rfl
   | some x=>
    rw [ob_,ob_];cases x.2.1 != 0 with
    | true=>rfl
    | false=>
     rw [cf_,cf_];cases m137 FF z.2.2 x.2.2 with
     | none=>rfl
     | some y=>
      rw [ob_,ob_];cases m120 FF x.1 z.2.1 with
      | none=>rfl
      | some b=>
       rw [ob_,ob_];cases b with
       | true=>rfl
       | false=>rw [cf_,cf_];exact ih
theorem m134_1_spec {c:Control} {s:State} (hc:Rc c) (hf:Fit c s):match rst c 65 s with
  | some t=>∃ l,m134_1 FF c s=some (t,l,0)/\l.length<=200000
  | none=>m134_1 FF c s=some (z0,[],21):=by
 have h:=m134_l1_spec hc 65 FF 0 s [] (by omega) (by unfold FF;omega) hf (by simp);rw [n0] at h;unfold m134_1;rw [m203_spec hc,(fitE_zero hc.rt.bd).2 hf,ob_,zf_,cf_,m134_1_l1_eq];cases hs:rst c 65 s with
 | none=>
  rw [hs] at h;rcases h with h | ⟨q,h⟩ <;> rw [h] <;> rfl
 | some t=>rw [hs] at h;obtain ⟨l,h,hl⟩:=h;rw [h];exact ⟨l,rfl,hl⟩
theorem m156_l1_spec {c:Control} (hc:Rt c):∀ (k n j:Nat) (s:State) (q:List Int),j + k=65->k < n->Fit c s->q.length<=110 * j ->
  match rst c k s with
  | some t=>∃ l,m156_l1 FF c n (q,(j:Int),s)=some (.ret (t,l,true))
  | none=>(∃ a l,m156_l1 FF c n (q,(j:Int),s)=some (.ret (a,l,false)))\/∃ q',m156_l1 FF c n (q,(j:Int),s)=some (.brk q')
 | _,0,_,_,_,_,h,_,_=>by omega
 | 0,n + 1,j,s,q,h1,h2,hf,hq=>by
  unfold rst m156_l1;dsimp only;rw [show decide ((j:Int)<=64)=false by simp;omega,cf_];exact .inr ⟨_,rfl⟩
 | k + 1,n + 1,j,s,q,h1,h2,hf,hq=>by
  have hb:=hc.bd;have h:=m109_spec hc hf;unfold rst m156_l1;dsimp only;rw [show decide ((j:Int)<=64)=true by simp;omega,ct_];cases hs:stl c 65 s with
  | none=>rw [hs] at h;obtain ⟨a,l,h⟩:=h;rw [h];exact .inl ⟨_,_,rfl⟩
  | some t=>
   rw [hs] at h;obtain ⟨l,h,hl⟩:=h;obtain ⟨ht,_,_⟩:=stl_kp hf hs;have hr:=rnd_fit ht;obtain ⟨l2,e2,hl2⟩:=m185_spec (a:=q) (b:=l) (by omega);rw [h,ob_];dsimp only;rw [nt_,cf_,e2,ob_,m23_spec (n:=1000) (hf.sm hb) (by unfold FF;omega) (by omega),ob_,show sst s (rnd c t)=sst (rnd c t) s from sst_comm];cases hq2:sst (rnd c t) s with
   | true=>rw [if_pos rfl,ct_];exact ⟨l2,rfl⟩
   | false=>
    rw [if_neg (by simp),cf_,wr_nat (by omega)];exact m156_l1_spec hc k n (j + 1) (rnd c t) l2 (by omega) (by omega) hr (by omega)
theorem m156_spec {c:Control} {s:State} (hc:Rt c) (hf:Fit c s):match rst c 65 s with
  | some t=>∃ l,m156 FF c s=some (t,l,true)
  | none=>∃ a l,m156 FF c s=some (a,l,false):=by
 have h:=m156_l1_spec hc 65 FF 0 s [] (by omega) (by unfold FF;omega) hf (by simp);rw [n0] at h;unfold m156;cases hs:rst c 65 s with
 | none=>
  rw [hs] at h;rcases h with ⟨a,l,h⟩ | ⟨q,h⟩ <;> rw [h] <;> exact ⟨_,_,rfl⟩
 | some t=>rw [hs] at h;obtain ⟨l,h⟩:=h;rw [h];exact ⟨l,rfl⟩
theorem m168_spec {c:Control} {s:State} (hc:Rt c) (hf:Fit c s):match rst c 65 s with
  | some t=>∃ l,m168 FF c s=some (t,l,0)
  | none=>∃ l,m168 FF c s=some (z0,l,21):=by
 have h:=m156_spec hc hf;unfold m168;cases hs:rst c 65 s with
 | none=>rw [hs] at h;obtain ⟨a,l,h⟩:=h;rw [h];exact ⟨_,rfl⟩
 | some t=>rw [hs] at h;obtain ⟨l,h⟩:=h;rw [h];exact ⟨_,rfl⟩
def qtE (c:Control) (s:State):Int:=if fitE c s=0 then (match stl c 65 s with | some t=>if sst (rnd c t) s=true then 0 else 14 | none=>14) else fitE c s
theorem m110_spec {c:Control} {s:State} (hc:Rc c):m110 FF c s=some (qtE c s):=by
 unfold m110 m186 qtE;rw [m203_spec hc,ob_];by_cases h0:fitE c s=0
 ·have hf:=(fitE_zero hc.rt.bd).1 h0;have h:=m204_spec hc hf;rw [if_pos h0,h0,zf_,cf_];cases hs:stl c 65 s with
  | none=>rw [hs] at h;rw [h];rfl
  | some t=>
   rw [hs] at h;obtain ⟨l,h,hl⟩:=h;obtain ⟨ht,_,_⟩:=stl_kp hf hs;rw [h,ob_];dsimp only;rw [show ((0:Int) == 0)=true by rfl,ct_,m120_spec (n:=1000) ((rnd_fit ht).sm hc.rt.bd) (by unfold FF;omega) (by omega)];cases sst (rnd c t) s <;> rfl
 ·rw [if_neg h0,show (fitE c s != 0)=true by simpa using h0,ct_,ob_];dsimp only;rw [show (fitE c s != 0)=true by simpa using h0,ct_]
theorem qtE_zero {c:Control} {s:State} (hb:Bd_ c):qtE c s=0↔Fit c s/\Qt c s:=by
 unfold qtE Qt;rw [← fitE_zero hb];by_cases h0:fitE c s=0
 ·rw [if_pos h0];cases stl c 65 s with
  | none=>simp
  | some t=>simp [h0]
 ·rw [if_neg h0];simp [h0]
def act (s:State) (x:Event):Option State:=
 if x.Kind=0 then (match idx s.Ends x.Index with
  | some e=>if e=1 then some { s with Ends:=s.Ends.set x.Index.toNat 2 } else if e=3 then some { s with Ends:=s.Ends.set x.Index.toNat 0 } else none
  | none=>none)
 else if x.Kind=1 then (match idx s.Timers x.Index with
  | some t=>if t=1 then some { s with Values:=s.Values.set x.Index.toNat true,Timers:=s.Timers.set x.Index.toNat 2 } else none
  | none=>none)
 else (match idx s.Inputs x.Index with
  | some v=>if v=x.Value then none else some { s with Inputs:=s.Inputs.set x.Index.toNat x.Value }
  | none=>none)
def aft (c:Control) (s:State) (x:Event):State×Int:=
 if x.Kind < 0\/3<=x.Kind then (z0,1) else match act s x with
  | none=>(z0,14)
  | some s'=>match rst c 65 s' with
   | none=>(z0,21)
   | some t=>(t,0)
theorem mem_set {α:Type} {l:List α} {i:Nat} {y a:α} (h:a∈l.set i y):a∈l\/a=y:=by
 rcases List.mem_or_eq_of_mem_set h with h | h
 ·exact .inl h
 ·exact .inr h
theorem act_fit {c:Control} {s s':State} {x:Event} (h:Fit c s) (ha:act s x=some s'):Fit c s':=by
 unfold act at ha;split at ha
 ·split at ha
  ·rename_i e he;split at ha
   ·obtain rfl:=Option.some.inj ha;exact ⟨(List.length_set ..).trans h.e,h.v,h.i,h.x,h.t,fun a ha=>(mem_set ha).elim (h.ee a) (fun e=>by omega),h.tt,h.k⟩
   ·split at ha
    ·obtain rfl:=Option.some.inj ha;exact ⟨(List.length_set ..).trans h.e,h.v,h.i,h.x,h.t,fun a ha=>(mem_set ha).elim (h.ee a) (fun e=>by omega),h.tt,h.k⟩
    ·cases ha
  ·cases ha
 ·split at ha
  ·split at ha
   ·rename_i t ht;split at ha
    ·rename_i h1;obtain rfl:=Option.some.inj ha;obtain ⟨i0,i1,i2⟩:=idx_some ht;refine ⟨h.e,h.v,h.i,(List.length_set ..).trans h.x,(List.length_set ..).trans h.t,h.ee,fun a ha=>(mem_set ha).elim (h.tt a) (fun e=>by omega),?_⟩;intro i y t' v' hy ht' hv';dsimp only at ht' hv';by_cases e:i=x.Index.toNat
     ·subst e;rw [List.getElem?_set_self (by omega)] at ht';rw [List.getElem?_set_self (by have:=h.x;have:=h.t;omega)] at hv';obtain rfl:=Option.some.inj ht';obtain rfl:=Option.some.inj hv';refine ⟨fun hk=>?_,fun _=>rfl⟩;have hlt:x.Index.toNat < s.Values.length:=by rw [h.x,← h.t];exact (List.getElem?_eq_some_iff.1 i2).1
      have hvo:s.Values[x.Index.toNat]?=some s.Values[x.Index.toNat]:=gE_ hlt;have:=(h.k _ y t _ hy i2 hvo).1 hk;omega
     ·rw [List.getElem?_set_ne (by omega)] at ht' hv';exact h.k i y t' v' hy ht' hv'
    ·cases ha
   ·cases ha
  ·split at ha
   ·split at ha
    ·cases ha
    ·obtain rfl:=Option.some.inj ha;exact ⟨h.e,h.v,(List.length_set ..).trans h.i,h.x,h.t,h.ee,h.tt,h.k⟩
   ·cases ha
theorem m113_spec {c:Control} {s:State} {x:Event} (hc:Rc c) (hf:Fit c s):∃ l,m113 FF c s x=some ((aft c s x).1,l,(aft c s x).2)/\l.length<=200000:=by
 have hb:=hc.rt.bd;unfold m113 aft;rw [m135_spec (hf.sm hb),ob_];by_cases hk:x.Kind < 0\/3<=x.Kind
 ·rw [if_pos hk,show (decide (x.Kind < (0:Int)) || decide (x.Kind>=(3:Int)))=true by simpa using hk];exact ⟨_,rfl,by simp⟩
 ·rw [if_neg hk,show (decide (x.Kind < (0:Int)) || decide (x.Kind>=(3:Int)))=false by simp;omega,cf_]
  -- what the act gives
  have key:∃ r:Bool×(List Int)×(List Bool)×(List Bool)×(List Bool)×(List Int),((idx (List.range 3) x.Kind).bind fun x6=>(bif x6 == 0 then m189 FF x (tup s).1 (tup s).2.1 (tup s).2.2.1 (tup s).2.2.2.1 (tup s).2.2.2.2 else bif x6 == 1 then m190 FF x (tup s).1 (tup s).2.1 (tup s).2.2.1 (tup s).2.2.2.1 (tup s).2.2.2.2 else bif x6 == 2 then m191 FF x (tup s).1 (tup s).2.1 (tup s).2.2.1 (tup s).2.2.2.1 (tup s).2.2.2.2 else none))=some r /\
    (match act s x with | none=>r.1=false | some s'=>r=(true,s'.Ends,s'.Valves,s'.Inputs,s'.Values,s'.Timers)):=by
   unfold tup act;dsimp only;have hkk:x.Kind=0\/x.Kind=1\/x.Kind=2:=by omega
   rcases hkk with k | k | k <;> rw [k]
   ·rw [show idx (List.range 3) (0:Int)=some 0 by rfl,ob_,show ((0:Nat) == 0)=true by rfl,ct_,if_pos rfl];unfold m189;by_cases hr:x.Index < 0\/(s.Ends.length:Int)<=x.Index
    ·rw [show (decide (x.Index < (0:Int)) || decide (x.Index>=(s.Ends.length:Int)))=true by simpa using hr,ct_];have:idx s.Ends x.Index=none:=by
      cases he:idx s.Ends x.Index with
      | none=>rfl
      | some e=>have:=idx_some he;omega
     rw [this];exact ⟨_,rfl,rfl⟩
    ·rw [show (decide (x.Index < (0:Int)) || decide (x.Index>=(s.Ends.length:Int)))=false by simp;omega,cf_];obtain ⟨e,he,_⟩:=idx_of (xs:=s.Ends) (i:=x.Index) (by omega) (by omega);rw [he,ob_];dsimp only;by_cases h1:e=1
     ·rw [if_pos h1,show (e == 1)=true by simpa using h1,ct_];exact ⟨_,rfl,rfl⟩
     ·rw [if_neg h1,show (e == 1)=false by simpa using h1,cf_];by_cases h3:e=3
      ·rw [if_pos h3,show (e == 3)=true by simpa using h3,ct_];exact ⟨_,rfl,rfl⟩
      ·rw [if_neg h3,show (e == 3)=false by simpa using h3,cf_];exact ⟨_,rfl,rfl⟩
   ·rw [show idx (List.range 3) (1:Int)=some 1 by rfl,ob_,show ((1:Nat) == 0)=false by rfl,cf_,show ((1:Nat) == 1)=true by rfl,ct_,if_neg (by omega),if_pos rfl];unfold m190;by_cases hr:x.Index < 0\/(s.Timers.length:Int)<=x.Index
    ·rw [show (decide (x.Index < (0:Int)) || decide (x.Index>=(s.Timers.length:Int)))=true by simpa using hr,ct_,ob_];have:idx s.Timers x.Index=none:=by
      cases he:idx s.Timers x.Index with
      | none=>rfl
      | some e=>have:=idx_some he;omega
     rw [this];exact ⟨_,rfl,rfl⟩
    ·rw [show (decide (x.Index < (0:Int)) || decide (x.Index>=(s.Timers.length:Int)))=false by simp;omega,cf_];obtain ⟨e,he,_⟩:=idx_of (xs:=s.Timers) (i:=x.Index) (by omega) (by omega);obtain ⟨v,hv,_⟩:=idx_of (xs:=s.Values) (i:=x.Index) (by omega) (by have:=hf.x;have:=hf.t;omega);rw [he,ob_,ob_];dsimp only;by_cases h1:e=1
     ·rw [if_pos h1,show (e != 1)=false by simpa using h1,cf_,ob_,hv];exact ⟨_,rfl,rfl⟩
     ·rw [if_neg h1,show (e != 1)=true by simpa using h1,ct_];exact ⟨_,rfl,rfl⟩
   ·rw [show idx (List.range 3) (2:Int)=some 2 by rfl,ob_,show ((2:Nat) == 0)=false by rfl,cf_,show ((2:Nat) == 1)=false by rfl,cf_,show ((2:Nat) == 2)=true by rfl,ct_,if_neg (by omega),if_neg (by omega)];unfold m191;by_cases hr:x.Index < 0\/(s.Inputs.length:Int)<=x.Index
    ·rw [show (decide (x.Index < (0:Int)) || decide (x.Index>=(s.Inputs.length:Int)))=true by simpa using hr,ct_,ob_];have:idx s.Inputs x.Index=none:=by
      cases he:idx s.Inputs x.Index with
      | none=>rfl
      | some e=>have:=idx_some he;omega
     rw [this];exact ⟨_,rfl,rfl⟩
    ·rw [show (decide (x.Index < (0:Int)) || decide (x.Index>=(s.Inputs.length:Int)))=false by simp;omega,cf_];obtain ⟨e,he,_⟩:=idx_of (xs:=s.Inputs) (i:=x.Index) (by omega) (by omega);rw [he,ob_,ob_];dsimp only;by_cases h1:e=x.Value
     ·rw [if_pos h1,show (e == x.Value)=true by simpa using h1,ct_];exact ⟨_,rfl,rfl⟩
     ·rw [if_neg h1,show (e == x.Value)=false by simpa using h1,cf_,ob_];exact ⟨_,rfl,rfl⟩
  obtain ⟨r,hr,hm⟩:=key;obtain ⟨x6,h6,hr⟩:=Option.bind_eq_some_iff.1 hr;rw [h6,ob_,hr,ob_];cases ha:act s x with
  | none=>
   rw [ha] at hm;rw [hm,nf_,ct_];exact ⟨_,rfl,by simp⟩
  | some s'=>
   rw [ha] at hm;subst hm;have h:=m134_1_spec hc (act_fit hf ha);dsimp only;rw [nt_,cf_];rw [show (⟨s'.Ends,s'.Valves,s'.Inputs,s'.Values,s'.Timers⟩:State)=s' from rfl];cases hs:rst c 65 s' with
   | none=>rw [hs] at h;rw [h];exact ⟨_,rfl,by simp⟩
   | some t=>rw [hs] at h;obtain ⟨l,h,hl⟩:=h;rw [h];exact ⟨_,rfl,hl⟩
theorem m46_spec {c:Control} {s:State} {x:Event} (hc:Rc c) (hf:Fit c s) (hq:Qt c s):∃ l,m46 FF c s x=some ((aft c s x).1,l,(aft c s x).2):=by
 obtain ⟨l,h,_⟩:=m113_spec (x:=x) hc hf;unfold m46;rw [m110_spec hc,(qtE_zero hc.rt.bd).2 ⟨hf,hq⟩,ob_,zf_,cf_,h];exact ⟨l,rfl⟩
end Go.Pn
namespace Go.Pn
open Go
def pndE (s:State) (i:Nat):Option Event:=if s.Ends.getD i 0=1\/s.Ends.getD i 0=3 then some ⟨0,(i:Int),false⟩ else none
def pndT (s:State) (i:Nat):Option Event:=if s.Timers.getD i 0=1 then some ⟨1,(i:Int),false⟩ else none
def pend (s:State):List Event:=(List.range s.Ends.length).filterMap (pndE s) ++ (List.range s.Timers.length).filterMap (pndT s)
theorem fmr_len {α:Type} {g:Nat->Option α} {n:Nat}:((List.range n).filterMap g).length<=n:=by
 have:=List.length_filterMap_le g (List.range n);rw [List.length_range] at this;exact this
theorem fmr_succ {α:Type} {g:Nat->Option α} {n:Nat}:(List.range (n + 1)).filterMap g=(List.range n).filterMap g ++ (match g n with | some y=>[y] | none=>[]):=by
 rw [List.range_succ,List.filterMap_append];cases h:g n <;> simp [h]
theorem m158_spec {s:State} (h:Smst s 1000):m158 FF s=some (pend s):=by
 have h1:=h.e;have h2:=h.t;unfold m158;obtain ⟨v,hv,hl⟩:=forI (L:=m158_l1 s) (mk:=fun i (v:List Event)=>((i:Int),v)) (N:=s.Ends.length) (I:=fun i v=>v=(List.range i).filterMap (pndE s)) (fun n i v hi hI=>by
  subst hI;refine ⟨_,rfl,?_⟩;have hle:=fmr_len (g:=pndE s) (n:=i);have hg:s.Ends.getD i 0=s.Ends[i]:=by rw [List.getD_eq_getElem?_getD,gE_ hi];rfl
  rw [m158_l1];dsimp only;rw [lt_dec,dt_ hi,ct_];simp only [idx_nat,gE_ hi,ob_];rw [wr_nat (by omega),fmr_succ];have hp:pndE s i=if s.Ends[i]=1\/s.Ends[i]=3 then some ⟨0,(i:Int),false⟩ else none:=by unfold pndE;rw [hg]
  rw [hp];by_cases a1:s.Ends[i]=1
  ·rw [show (s.Ends[i] == 1)=true by simpa using a1,if_pos (.inl a1),ct_,ob_,ct_,app_ok (by simp;omega)];rfl
  ·by_cases a3:s.Ends[i]=3
   ·rw [show (s.Ends[i] == 1)=false by simpa using a1,show (s.Ends[i] == 3)=true by simpa using a3,if_pos (.inr a3),cf_,ob_,ct_,app_ok (by simp;omega)];rfl
   ·rw [show (s.Ends[i] == 1)=false by simpa using a1,show (s.Ends[i] == 3)=false by simpa using a3,if_neg (by omega),cf_,ob_,cf_,ob_,List.append_nil]) (fun n v _=>by
  rw [m158_l1];dsimp only;rw [lt_dec,df_ (by omega),cf_]) FF 0 [] (by omega) (by unfold FF;omega) rfl
 subst hv;try dsimp only at hl
 rw [n0] at hl;rw [hl,ob_];have hle1:=fmr_len (g:=pndE s) (n:=s.Ends.length);obtain ⟨v,hv,hl⟩:=forI (L:=m158_l2 s) (mk:=fun i (v:List Event)=>((i:Int),v)) (N:=s.Timers.length) (I:=fun i v=>v=(List.range s.Ends.length).filterMap (pndE s) ++ (List.range i).filterMap (pndT s)) (fun n i v hi hI=>by
  subst hI;refine ⟨_,rfl,?_⟩;have hle:=fmr_len (g:=pndT s) (n:=i);have hg:s.Timers.getD i 0=s.Timers[i]:=by rw [List.getD_eq_getElem?_getD,gE_ hi];rfl
  rw [m158_l2];dsimp only;rw [lt_dec,dt_ hi,ct_];simp only [idx_nat,gE_ hi,ob_];rw [wr_nat (by omega),fmr_succ];have hp:pndT s i=if s.Timers[i]=1 then some ⟨1,(i:Int),false⟩ else none:=by unfold pndT;rw [hg]
  rw [hp];by_cases a1:s.Timers[i]=1
  ·rw [show (s.Timers[i] == 1)=true by simpa using a1,if_pos a1,ct_,app_ok (by simp;omega),← List.append_assoc];rfl
  ·rw [show (s.Timers[i] == 1)=false by simpa using a1,if_neg a1,cf_,ob_,List.append_nil]) (fun n v _=>by
  rw [m158_l2];dsimp only;rw [lt_dec,df_ (by omega),cf_]) FF 0 ((List.range s.Ends.length).filterMap (pndE s)) (by omega) (by unfold FF;omega) (by simp)
 subst hv;try dsimp only at hl
 rw [n0] at hl;rw [hl];rfl
theorem pend_len {s:State} (h:Smst s 1000):(pend s).length<=2000:=by
 have h1:=h.e;have h2:=h.t;have a:=fmr_len (g:=pndE s) (n:=s.Ends.length);have b:=fmr_len (g:=pndT s) (n:=s.Timers.length);unfold pend;rw [List.length_append];omega
theorem mem_pend {s:State} {x:Event}:x∈pend s↔(∃ i,i < s.Ends.length/\(s.Ends.getD i 0=1\/s.Ends.getD i 0=3)/\x=⟨0,(i:Int),false⟩)\/(∃ i,i < s.Timers.length/\s.Timers.getD i 0=1/\x=⟨1,(i:Int),false⟩):=by
 unfold pend;rw [List.mem_append,List.mem_filterMap,List.mem_filterMap];unfold pndE pndT;constructor
 ·rintro (⟨i,hi,h⟩ | ⟨i,hi,h⟩)
  ·split at h
   ·rename_i h1;exact .inl ⟨i,List.mem_range.1 hi,h1,(Option.some.inj h).symm⟩
   ·cases h
  ·split at h
   ·rename_i h1;exact .inr ⟨i,List.mem_range.1 hi,h1,(Option.some.inj h).symm⟩
   ·cases h
 ·rintro (⟨i,hi,h,rfl⟩ | ⟨i,hi,h,rfl⟩)
  ·exact .inl ⟨i,List.mem_range.2 hi,by rw [if_pos h]⟩
  ·exact .inr ⟨i,List.mem_range.2 hi,by rw [if_pos h]⟩
theorem getD_idx {l:List Int} {i:Nat} (h:i < l.length):idx l (i:Int)=some (l.getD i 0):=by
 rw [idx_nat,List.getD_eq_getElem?_getD,gE_ h];rfl
theorem idx_getD {l:List Int} {i e:Int} (h:idx l i=some e):i.toNat < l.length/\l.getD i.toNat 0=e/\((i.toNat:Nat):Int)=i:=by
 obtain ⟨h0,h1,h2⟩:=idx_some h;exact ⟨(List.getElem?_eq_some_iff.1 h2).1,by rw [List.getD_eq_getElem?_getD,h2];rfl,by omega⟩
theorem m167_spec {s:State} {x:Event} (h:Smst s 1000) (hk:0<=x.Kind/\x.Kind < 3):m167 FF s x=some (act s x).isSome:=by
 have hkk:x.Kind=0\/x.Kind=1\/x.Kind=2:=by omega
 unfold m167;by_cases h2:x.Kind=2
 ·rw [h2,show ((2:Int) == 2)=true by rfl,ct_];unfold act;rw [if_neg (by omega),if_neg (by omega)];by_cases hr:x.Index>=0/\x.Index < s.Inputs.length
  ·rw [dt_ hr.1,dt_ hr.2,Bool.and_self,ct_];obtain ⟨v,hv,_⟩:=idx_of (xs:=s.Inputs) hr.1 hr.2;rw [hv,ob_,ob_];dsimp only;by_cases e:v=x.Value
   ·rw [if_pos e,e];simp
   ·rw [if_neg e,show (v != x.Value)=true by simpa using e];rfl
  ·have:(decide (x.Index>=(0:Int)) && decide (x.Index < (s.Inputs.length:Int)))=false:=by
    rw [Bool.and_eq_false_iff,decide_eq_false_iff_not,decide_eq_false_iff_not];omega
   have hn:idx s.Inputs x.Index=none:=by
    cases he:idx s.Inputs x.Index with
    | none=>rfl
    | some e=>have:=idx_some he;omega
   rw [this,hn];rfl
 ·rw [show (x.Kind == 2)=false by simpa using h2,cf_,m158_spec h,ob_];have hpl:=pend_len h;have h5:=srch (L:=m167_l1 x (pend s)) (xs:=pend s) (p:=fun _ y=>some ((y.Kind == x.Kind) && (y.Index == x.Index))) (q:=fun y=>(y.Kind == x.Kind) && (y.Index == x.Index)) (r:=fun _=>true) (fun n z=>by
   rw [m167_l1];congr 1;cases hy:idx (pend s) z with
   | none=>rfl
   | some y=>
    simp only [ob_];cases (y.Kind == x.Kind) <;> rfl) (by omega) (fun i y hy=>rfl) FF 0 (by omega) (by unfold FF; omega)
  rw [n0,List.drop_zero] at h5;rw [h5];have key:(act s x).isSome=true↔∃ y∈pend s,((y.Kind == x.Kind) && (y.Index == x.Index))=true:=by
   unfold act;constructor
   ·intro ha;split at ha
    ·rename_i hk0;split at ha
     ·rename_i e he;obtain ⟨g1,g2,g3⟩:=idx_getD he;have:e=1\/e=3:=by
       split at ha
       ·left;assumption
       ·split at ha
        ·right;assumption
        ·cases ha
      exact ⟨⟨0,((x.Index.toNat:Nat):Int),false⟩,mem_pend.2 (.inl ⟨_,g1,by omega,rfl⟩),by simp [hk0,g3]⟩
     ·cases ha
    ·split at ha
     ·rename_i hk0 hk1;split at ha
      ·rename_i e he;obtain ⟨g1,g2,g3⟩:=idx_getD he;have:e=1:=by
        split at ha
        ·assumption
        ·cases ha
       exact ⟨⟨1,((x.Index.toNat:Nat):Int),false⟩,mem_pend.2 (.inr ⟨_,g1,by omega,rfl⟩),by simp [hk1,g3]⟩
      ·cases ha
     ·omega
   ·rintro ⟨y,hy,hq⟩;rw [Bool.and_eq_true,beq_iff_eq,beq_iff_eq] at hq;obtain ⟨q1,q2⟩:=hq;rcases mem_pend.1 hy with ⟨i,hi,he,rfl⟩ | ⟨i,hi,he,rfl⟩
    ·dsimp only at q1 q2;rw [if_pos q1.symm,← q2,getD_idx hi];dsimp only;rcases he with he | he
     ·rw [if_pos he];rfl
     ·rw [if_neg (by omega),if_pos he];rfl
    ·dsimp only at q1 q2;rw [if_neg (by omega),if_pos q1.symm,← q2,getD_idx hi];dsimp only;rw [if_pos he];rfl
  cases h6:(pend s).findIdx? (fun y=>(y.Kind == x.Kind) && (y.Index == x.Index)) with
  | none=>
   rw [List.findIdx?_eq_none_iff] at h6;have:(act s x).isSome=false:=by
    rw [Bool.eq_false_iff];intro ha;obtain ⟨y,hy,hq⟩:=key.1 ha;rw [h6 y hy] at hq;cases hq
   rw [this];rfl
  | some j=>
   obtain ⟨hj,hj2,_⟩:=List.findIdx?_eq_some_iff_getElem.1 h6;rw [key.2 ⟨_,List.getElem_mem hj,hj2⟩];rfl
theorem m169_spec {c:Control} {s s':State} {x:Event} (hb:Bd_ c) (hf:Fit c s) (hk:0<=x.Kind/\x.Kind < 3) (ha:act s x=some s'):m169 FF s x=some s':=by
 have hkk:x.Kind=0\/x.Kind=1\/x.Kind=2:=by omega
 unfold m169;rw [m232_spec (hf.sm hb),ob_];unfold tup;dsimp only;unfold act at ha;rcases hkk with k | k | k <;> rw [k] at ha ⊢
 ·rw [if_pos rfl] at ha;rw [show ((0:Int) == 0)=true by rfl,ct_];split at ha
  ·rename_i e he;obtain ⟨i0,i1,i2⟩:=idx_some he;rw [he,ob_,ob_];split at ha
   ·rename_i h1;obtain rfl:=Option.some.inj ha;obtain ⟨y,hy,_⟩:=idx_of (xs:=s.Ends.set x.Index.toNat 0) i0 (by rw [List.length_set];exact i1);rw [h1,show ((1:Int) == 1)=true by rfl,ct_,hy,ob_,ob_,ob_,List.set_set]
   ·rename_i h1;split at ha
    ·obtain rfl:=Option.some.inj ha;rw [show (e == 1)=false by simpa using h1,cf_,ob_,ob_]
    ·cases ha
  ·cases ha
 ·rw [if_neg (by omega),if_pos rfl] at ha;rw [show ((1:Int) == 0)=false by rfl,cf_,show ((1:Int) == 1)=true by rfl,ct_];split at ha
  ·rename_i e he;obtain ⟨i0,i1,i2⟩:=idx_some he;have hx:=hf.x;have ht:=hf.t;obtain ⟨y,hy,_⟩:=idx_of (xs:=s.Values) i0 (by omega);rw [he,ob_,hy,ob_,ob_];split at ha
   ·obtain rfl:=Option.some.inj ha;rfl
   ·cases ha
  ·cases ha
 ·rw [if_neg (by omega),if_neg (by omega)] at ha;rw [show ((2:Int) == 0)=false by rfl,cf_,show ((2:Int) == 1)=false by rfl,cf_,show ((2:Int) == 2)=true by rfl,ct_];split at ha
  ·rename_i e he;rw [he,ob_,ob_,ob_,ob_];split at ha
   ·cases ha
   ·obtain rfl:=Option.some.inj ha;rfl
  ·cases ha
theorem m97_spec {c:Control} {s:State} {x:Event} (hc:Rt c) (hf:Fit c s):∃ l,m97 FF c s x=some ((aft c s x).1,l,(aft c s x).2):=by
 have hb:=hc.bd;unfold m97 aft;by_cases hk:x.Kind < 0\/3<=x.Kind
 ·rw [if_pos hk,show (decide (x.Kind < (0:Int)) || decide (x.Kind > (2:Int)))=true by simp;omega];exact ⟨_,rfl⟩
 ·rw [if_neg hk,show (decide (x.Kind < (0:Int)) || decide (x.Kind > (2:Int)))=false by simp;omega,cf_,m167_spec (hf.sm hb) (by omega),ob_];cases ha:act s x with
  | none=>exact ⟨_,rfl⟩
  | some s'=>
   rw [show (!(some s').isSome)=false by rfl,cf_,m169_spec hb hf (by omega) ha,ob_];have h:=m168_spec hc (act_fit hf ha);dsimp only;cases hs:rst c 65 s' with
   | none=>rw [hs] at h;obtain ⟨l,h⟩:=h;rw [h];exact ⟨_,rfl⟩
   | some t=>rw [hs] at h;obtain ⟨l,h⟩:=h;rw [h];exact ⟨_,rfl⟩
end Go.Pn
namespace Go.Pn
open Go
theorem forG {S σ R:Type} {L:Nat->S->R} {mk:Nat->σ->S} {N:Nat} {I:Nat->σ->Prop} {E:σ->R}
  (h:∀ (n i:Nat) s,i < N->I i s->∃ s',I (i + 1) s'/\L (n + 1) (mk i s)=L n (mk (i + 1) s')) (h':∀ (n:Nat) s,I N s->L (n + 1) (mk N s)=E s) :
  ∀ (n i:Nat) s,i<=N->N - i < n->I i s->∃ s',I N s'/\L n (mk i s)=E s'
 | 0,i,_,_,h,_=>by omega
 | n + 1,i,s,h1,h2,hI=>by
  by_cases hi:i < N
  ·obtain ⟨s',h3,h4⟩:=h n i s hi hI;rw [h4];exact forG h h' n (i + 1) s' (by omega) (by omega) h3
  ·obtain rfl:i=N:=by omega
   exact ⟨s,hI,h' n s hI⟩
theorem m187_r1_spec {x:Event} {l:List Event} (h:l.length<=100000):m187_r1 x (l,0)=some (true,(l ++ [x],0)):=by
 unfold m187_r1;dsimp only;rw [app_ok (by simp;omega)];rfl
theorem m187_spec {s:State} (h:Smst s 1000):m187 FF s=some (pend s):=by
 have h1:=h.e;have h2:=h.t;unfold m187 m188;obtain ⟨v,hv,hl⟩:=forG (L:=m188_l1 m187_r1 s) (mk:=fun i (v:List Event)=>((i:Int),(v,0))) (N:=s.Ends.length) (I:=fun i v=>v=(List.range i).filterMap (pndE s)) (E:=fun v=>some (.brk ((s.Ends.length:Int),(v,0)))) (fun n i v hi hI=>by
  subst hI;refine ⟨_,rfl,?_⟩;have hle:=fmr_len (g:=pndE s) (n:=i);have hg:s.Ends.getD i 0=s.Ends[i]:=by rw [List.getD_eq_getElem?_getD,gE_ hi];rfl
  rw [m188_l1];dsimp only;rw [lt_dec,dt_ hi,ct_,idx_nat,gE_ hi,ob_,wr_nat (by omega),fmr_succ];have hp:pndE s i=if s.Ends[i]=1\/s.Ends[i]=3 then some ⟨0,(i:Int),false⟩ else none:=by unfold pndE;rw [hg]
  rw [hp];by_cases a1:s.Ends[i]=1\/s.Ends[i]=3
  ·rw [show ((s.Ends[i] == 1) || (s.Ends[i] == 3))=true by simpa using a1,if_pos a1,ct_,m187_r1_spec (by omega)];rfl
  ·rw [show ((s.Ends[i] == 1) || (s.Ends[i] == 3))=false by simpa using a1,if_neg a1,cf_,cf_,List.append_nil]) (fun n v _=>by
  rw [m188_l1];dsimp only;rw [lt_dec,df_ (by omega),cf_]) FF 0 [] (by omega) (by unfold FF;omega) rfl
 subst hv;try dsimp only at hl
 rw [n0] at hl;rw [hl,ob_];have hle1:=fmr_len (g:=pndE s) (n:=s.Ends.length);obtain ⟨v,hv,hl⟩:=forG (L:=m188_l2 m187_r1 s) (mk:=fun i (v:List Event)=>((i:Int),(v,0))) (N:=s.Timers.length) (I:=fun i v=>v=(List.range s.Ends.length).filterMap (pndE s) ++ (List.range i).filterMap (pndT s)) (E:=fun v=>some (.brk ((s.Timers.length:Int),(v,0)))) (fun n i v hi hI=>by
  subst hI;refine ⟨_,rfl,?_⟩;have hle:=fmr_len (g:=pndT s) (n:=i);have hg:s.Timers.getD i 0=s.Timers[i]:=by rw [List.getD_eq_getElem?_getD,gE_ hi];rfl
  rw [m188_l2];dsimp only;rw [lt_dec,dt_ hi,ct_,idx_nat,gE_ hi,ob_,wr_nat (by omega),fmr_succ];have hp:pndT s i=if s.Timers[i]=1 then some ⟨1,(i:Int),false⟩ else none:=by unfold pndT;rw [hg]
  rw [hp];by_cases a1:s.Timers[i]=1
  ·rw [show (s.Timers[i] == 1)=true by simpa using a1,if_pos a1,ct_,m187_r1_spec (by rw [List.length_append];omega),← List.append_assoc];rfl
  ·rw [show (s.Timers[i] == 1)=false by simpa using a1,if_neg a1,cf_,cf_,List.append_nil]) (fun n v _=>by
  rw [m188_l2];dsimp only;rw [lt_dec,df_ (by omega),cf_]) FF 0 ((List.range s.Ends.length).filterMap (pndE s)) (by omega) (by unfold FF;omega) (by simp)
 subst hv;try dsimp only at hl
 rw [n0] at hl;dsimp only;rw [hl];rfl
theorem m45_spec {c:Control} {s:State} (hc:Rc c) (hf:Fit c s) (hq:Qt c s):m45 FF c s=some (0,pend s):=by
 unfold m45 m112 m111;rw [m110_spec hc,(qtE_zero hc.rt.bd).2 ⟨hf,hq⟩,ob_,zf_,cf_,ob_,m187_spec (hf.sm hc.rt.bd)];rfl
def nb (l:List Int):List UInt8:=l.flatMap fun n=>[UInt8.ofNat (48 + n.toNat),32]
def fb (l:List Bool):List UInt8:=l.map fun v=>if v=true then 116 else 102
theorem ba_app (a b:ByteArray):(a ++ b).data.toList=a.data.toList ++ b.data.toList:=by
 rw [ByteArray.data_append,Array.toList_append]
theorem ba_push (a:ByteArray) (b:UInt8):(a.push b).data.toList=a.data.toList ++ [b]:=by
 rw [ByteArray.data_push,Array.toList_push]
theorem m161_tab:((List.range 10).all fun n=>decide (m161 0 (n:Int)=some (⟨#[UInt8.ofNat (48 + n)]⟩:ByteArray)))=true:=by kernel_rfl
theorem m161_spec {n:Int} (h0:0<=n) (h:n < 10):m161 FF n=some (⟨#[UInt8.ofNat (48 + n.toNat)]⟩:ByteArray):=by
 have:=of_decide_eq_true (List.all_eq_true.1 m161_tab n.toNat (List.mem_range.2 (by omega)));rw [show ((n.toNat:Nat):Int)=n by omega] at this;exact this
theorem nb_len {l:List Int}:(nb l).length=2 * l.length:=by
 induction l with
 | nil=>rfl
 | cons a l ih=>unfold nb at ih ⊢;rw [List.flatMap_cons,List.length_append,ih];simp;omega
theorem nb_inj:∀ {l l':List Int},(∀ a∈l,0<=a/\a < 10)->(∀ a∈l',0<=a/\a < 10)->nb l=nb l'->l=l'
 | [],[],_,_,_=>rfl
 | [],b :: l',_,_,h=>by unfold nb at h;simp at h
 | a :: l,[],_,_,h=>by unfold nb at h;simp at h
 | a :: l,b :: l',h1,h2,h=>by
  unfold nb at h;rw [List.flatMap_cons,List.flatMap_cons] at h;have h:=List.cons.inj h;have ha:=h1 a (by simp);have hb:=h2 b (by simp);have he:a=b:=by
   have:=congrArg UInt8.toNat h.1;rw [UInt8.toNat_ofNat',UInt8.toNat_ofNat'] at this;omega
  have ht:=(List.cons.inj h.2).2;rw [he,nb_inj (fun x hx=>h1 x (by simp [hx])) (fun x hx=>h2 x (by simp [hx])) ht]
theorem fb_inj:∀ {l l':List Bool},fb l=fb l'->l=l'
 | [],[],_=>rfl
 | [],b :: l',h=>by unfold fb at h;simp at h
 | a :: l,[],h=>by unfold fb at h;simp at h
 | a :: l,b :: l',h=>by
  unfold fb at h;rw [List.map_cons,List.map_cons] at h;have h:=List.cons.inj h;have he:a=b:=by
   cases a <;> cases b <;> first | rfl | (have:=h.1; revert this; decide)
  rw [he,fb_inj h.2]
theorem mat_putG {κ ν:Type} [DecidableEq κ] {eqb:κ->κ->Bool} (he:∀ a b,eqb a b=true↔a=b) {m:List (κ×ν)} {k j:κ} {y:ν}:mat eqb (mput eqb m k y) j=if eqb j k=true then some y else mat eqb m j:=by
 induction m with
 | nil=>
  show mat eqb [(k,y)] j=_;rw [mat_cons]
 | cons p m ih=>
  obtain ⟨k',z⟩:=p;rw [mput_cons,mat_cons];by_cases h:eqb k k'=true
  ·rw [if_pos h,mat_cons,← (he _ _).1 h];by_cases h2:eqb j k=true
   ·rw [if_pos h2,if_pos h2]
   ·rw [if_neg h2,if_neg h2,if_neg h2]
  ·rw [if_neg h,mat_cons,ih];by_cases h2:eqb j k'=true
   ·have h3:¬ eqb j k=true:=fun e=>h (by rw [← (he _ _).1 e];exact h2);rw [if_pos h2,if_neg h3,if_pos h2]
   ·rw [if_neg h2,if_neg h2]
def xrow (c:Control) (most:Nat) (s:State):List Event->List State->List Int->Int ⊕ (List State×List Int)
 | [],S,mv=>.inr (S,mv)
 | x :: l,S,mv=>if (aft c s x).2=0 then (if plc S (aft c s x).1 < 0 then (if S.length=most then .inl 12 else xrow c most s l (S ++ [(aft c s x).1]) (mv ++ [(S.length:Int)])) else xrow c most s l S (mv ++ [plc S (aft c s x).1])) else .inl (aft c s x).2
def xall (c:Control) (most:Nat):Nat->Nat->List State->List (List Int)->Int ⊕ Space
 | 0,_,_,_=>.inl 99
 | n + 1,i,S,M=>match S[i]? with
  | none=>.inr ⟨S,M⟩
  | some s=>match xrow c most s (pend s) S [] with
   | .inl e=>.inl e
   | .inr r=>xall c most n (i + 1) r.1 (M ++ [r.2])
def Al (c:Control) (S:List State):Prop:=∀ s∈S,Fit c s/\Qt c s
theorem aft_ok {c:Control} {s:State} {x:Event} (hf:Fit c s) (h:(aft c s x).2=0):Fit c (aft c s x).1/\Qt c (aft c s x).1:=by
 unfold aft at h ⊢;by_cases hk:x.Kind < 0\/3<=x.Kind
 ·rw [if_pos hk] at h;cases h
 ·rw [if_neg hk] at h ⊢;cases ha:act s x with
  | none=>rw [ha] at h;cases h
  | some s'=>
   rw [ha] at h;dsimp only at h ⊢;cases ht:rst c 65 s' with
   | none=>rw [ht] at h;cases h
   | some t=>
    have:=rst_ok (act_fit hf ha) ht;exact ⟨this.1,this.2.2⟩
theorem plc_range {S:List State} {t:State} (h:¬ plc S t < 0):∃ j,j < S.length/\plc S t=(j:Int)/\S.findIdx? (fun x=>sst t x)=some j:=by
 unfold plc at h ⊢;cases hf:S.findIdx? (fun x=>sst t x) with
 | none=>rw [hf] at h;simp at h
 | some j=>exact ⟨j,(List.findIdx?_eq_some_iff_getElem.1 hf).1,rfl,rfl⟩
theorem plc_neg {S:List State} {t:State} (h:plc S t < 0):S.findIdx? (fun x=>sst t x)=none:=by
 unfold plc at h;cases hf:S.findIdx? (fun x=>sst t x) with
 | none=>rfl
 | some j=>rw [hf] at h;simp at h;omega
end Go.Pn
namespace Go.Pn
open Go
theorem fi_any {α:Type} {l:List α} {q:α->Bool}:(∃ j,l.findIdx? q=some j/\l.any q=true)\/(l.findIdx? q=none/\l.any q=false):=by
 cases h:l.findIdx? q with
 | some j=>
  left;obtain ⟨h1,h2,_⟩:=List.findIdx?_eq_some_iff_getElem.1 h;exact ⟨j,rfl,List.any_eq_true.2 ⟨_,List.getElem_mem h1,h2⟩⟩
 | none=>
  right;rw [List.findIdx?_eq_none_iff] at h;exact ⟨rfl,List.any_eq_false.2 fun x hx=>by simpa using h x hx⟩
theorem m108_spec {c:Control} {s:State} (hb:Bd_ c):m108 FF c s=some (fitE c s):=by
 have h1:=hb.a6;have h2:=hb.i;have h3:=hb.s;unfold m108 fitE;rw [lens_dec];by_cases hl:(s.Ends.length:Int)≠c.Actuators\/(s.Valves.length:Int)≠c.Actuators\/s.Inputs.length≠c.Inputs.length\/s.Values.length≠c.Signals.length\/s.Timers.length≠c.Signals.length
 ·rw [if_pos hl,dt_ hl];rfl
 ·rw [if_neg hl,df_ hl,cf_];have hl:(s.Ends.length:Int)=c.Actuators/\(s.Valves.length:Int)=c.Actuators/\s.Inputs.length=c.Inputs.length/\s.Values.length=c.Signals.length/\s.Timers.length=c.Signals.length:=by omega
  have e1:=srch (L:=m108_l1 s) (xs:=s.Ends) (p:=fun z x=>(bif decide (x < (0:Int)) then some true else (idx s.Ends z).bind fun x4=>some (decide (x4>=(4:Int))))) (q:=fun x=>decide (x < 0) || decide (x>=4)) (r:=fun _=>(1:Int)) (fun _ _=>rfl) (by omega) (fun i x hx=>by
   rw [idx_nat,hx]; cases decide (x < 0) <;> rfl) FF 0 (by omega) (by unfold FF; omega)
  have e2:=srch (L:=m108_l2 s) (xs:=s.Timers) (p:=fun z x=>(bif decide (x < (0:Int)) then some true else (idx s.Timers z).bind fun x4=>some (decide (x4>=(3:Int))))) (q:=fun x=>decide (x < 0) || decide (x>=3)) (r:=fun _=>(1:Int)) (fun _ _=>rfl) (by omega) (fun i x hx=>by
   rw [idx_nat,hx]; cases decide (x < 0) <;> rfl) FF 0 (by omega) (by unfold FF; omega)
  rw [n0,List.drop_zero] at e1 e2;rcases fi_any (l:=s.Ends) (q:=fun x=>decide (x < 0) || decide (x>=4)) with ⟨j,hj,ha⟩ | ⟨hj,ha⟩
  ·rw [hj] at e1;rw [e1,if_pos ha];rfl
  ·rw [hj] at e1;rw [e1,if_neg (by rw [ha];simp),ob_];dsimp only;rcases fi_any (l:=s.Timers) (q:=fun x=>decide (x < 0) || decide (x>=3)) with ⟨j,hj,ha⟩ | ⟨hj,ha⟩
   ·rw [hj] at e2;rw [e2,if_pos ha];rfl
   ·rw [hj] at e2;rw [e2,if_neg (by rw [ha];simp),ob_];dsimp only;have hs:=srchI (L:=m108_l3 c s) (N:=c.Signals.length) (Q:=tbad c s) (r:=fun _=>14) (fun n i hi=>by
     have e1:c.Signals[i]?=some c.Signals[i]:=gE_ hi;have e2:s.Timers[i]?=some s.Timers[i]:=gE_ (by omega);have e3:s.Values[i]?=some s.Values[i]:=gE_ (by omega);rw [m108_l3];unfold tbad;simp only [hl.2.2.2.2,lt_dec,dt_ hi,ct_,idx_nat,e1,e2,e3,ob_];rw [wr_nat (by omega)];cases hk:(c.Signals[i].Kind == 2) with
     | true=>
      have hk':(c.Signals[i].Kind != 2)=false:=by show (!(c.Signals[i].Kind == 2))=false;rw [hk];rfl
      rw [hk'];cases (s.Values[i] != (s.Timers[i] == 2)) <;> rfl
     | false=>
      have hk':(c.Signals[i].Kind != 2)=true:=by show (!(c.Signals[i].Kind == 2))=true;rw [hk];rfl
      rw [hk'];cases (s.Timers[i] != 0) <;> rfl) (fun n=>by
     rw [m108_l3,hl.2.2.2.2,lt_dec,df_ (by omega),cf_]) FF 0 (by omega) (by unfold FF;omega)
    rw [n0] at hs;rcases hs with ⟨k,_,hk,hq,h⟩ | ⟨h,hn⟩
    ·rw [h,if_pos (List.any_eq_true.2 ⟨k,List.mem_range.2 hk,hq⟩)];rfl
    ·rw [h,if_neg ?_]
     ·rfl
     ·intro ha;obtain ⟨k,hk,h4⟩:=List.any_eq_true.1 ha;have:=hn k (by omega) (List.mem_range.1 hk);rw [this] at h4;cases h4
theorem zf:((0:Int) != 0)=false:=rfl
theorem m43_spec {c:Control} {s:State} (hc:Rc c):m43 FF c s=some (fitE c s):=by
 unfold m43;rw [hc.ck',ob_,zf,cf_,m108_spec hc.rt.bd];rfl
theorem m44_spec {c:Control} {s:State} (hc:Rc c) (hf:Fit c s):m44 FF c s=some (match stl c 65 s with | some t=>sst (rnd c t) s | none=>false):=by
 unfold m44;have h:=m109_spec hc.rt hf;cases e:stl c 65 s with
 | none=>rw [e] at h;obtain ⟨a,l,h⟩:=h;rw [h];rfl
 | some t=>
  rw [e] at h;obtain ⟨l,h,_⟩:=h;rw [h,ob_];dsimp only;rw [ct_,m23_spec (n:=1000) (hf.sm hc.rt.bd) (by unfold FF;omega) (by omega),sst_comm];rfl
theorem m166_spec {c:Control} {s:State} (hc:Rc c):m166 FF c s=some (qtE c s):=by
 unfold m166 qtE;rw [m43_spec hc,ob_];by_cases h0:fitE c s=0
 ·rw [h0,zf,cf_,m44_spec hc ((fitE_zero hc.rt.bd).1 h0),ob_,if_pos rfl];cases stl c 65 s with
  | none=>rfl
  | some t=>dsimp only; cases sst (rnd c t) s <;> rfl
 ·rw [show (fitE c s != 0)=true by simpa using h0,ct_,if_neg h0]
theorem m95_spec {c:Control} {s:State} (hc:Rc c) (hf:Fit c s) (hq:Qt c s):m95 FF c s=some (pend s,0):=by
 unfold m95;rw [m166_spec hc,(qtE_zero hc.rt.bd).2 ⟨hf,hq⟩,ob_,zf,cf_,m158_spec (hf.sm hc.rt.bd)];rfl
theorem evs_spec {c:Control} (hw:Fw c) (hs:c.Signals.length<=16\/64 < c.Signals.length) (s:State) :
  (∃ e,e≠0/\(e != 0)=true/\m110 FF c s=some e/\m45 FF c s=some (e,[])/\m95 FF c s=some ([],e))\/(Rc c/\Fit c s/\Qt c s):=by
 obtain ⟨e,h1,h2,h3⟩:=chk_spec hw hs;have key:∀ {e},e≠0->m110 FF c s=some e->m166 FF c s=some e->∃ e,e≠0/\(e != 0)=true/\m110 FF c s=some e/\m45 FF c s=some (e,[])/\m95 FF c s=some ([],e):=fun {e} he h4 h5=>by
  have he':(e != 0)=true:=by simpa using he
  refine ⟨e,he,he',h4,?_,?_⟩
  ·unfold m45;rw [h4,ob_,he',ct_]
  ·unfold m95;rw [h5,ob_,he',ct_]
 by_cases he:e=0
 ·subst he;have hc:Rc c:=⟨h3 rfl,hw,h1,h2⟩;by_cases hq:qtE c s=0
  ·obtain ⟨a,b⟩:=(qtE_zero hc.rt.bd).1 hq;exact .inr ⟨hc,a,b⟩
  ·exact .inl (key hq (m110_spec hc) (m166_spec hc))
 ·have he':(e != 0)=true:=by simpa using he
  refine .inl (key he ?_ ?_)
  ·unfold m110 m186 m203;simp only [h1,ob_,he',ct_]
  ·unfold m166 m43;simp only [h2,ob_,he',ct_]
def Sd (s:State):Bool:=((pend s).length:Int) == 0
theorem m31_spec {c:Control} {s:State} (hc:Rc c) (hf:Fit c s) (hq:Qt c s):m31 FF c s=some (Sd s,0):=by
 unfold m31;rw [m45_spec hc hf hq];rfl
theorem m96_spec {c:Control} {s:State} (hb:Bd_ c) (hf:Fit c s):m96 FF s=some (Sd s):=by
 unfold m96;rw [m158_spec (hf.sm hb)];rfl
theorem m29_spec (c:Control) (s:State):∃ b,m29 FF c s=some b/\(b=true->Fw c/\(c.Signals.length<=16\/64 < c.Signals.length)/\Smst s 200):=by
 unfold m29;obtain ⟨b,h1,h2⟩:=m19_spec c;rw [h1,ob_];cases b with
 | false=>exact ⟨false,rfl,by simp⟩
 | true=>
  obtain ⟨a1,a2⟩:=h2 rfl;rw [ct_,m48_spec];exact ⟨_,rfl,fun h=>⟨a1,a2,fewst_sm h⟩⟩
end Go.Pn
namespace Go.Pn
open Go
structure Xr (c:Control) (s:State) (l:List Event) (S:List State) (R:List State) (Y:List Int):Prop where
 app:∃ X,R=S ++ X
 len:Y.length=l.length
 ev:∀ (j:Nat) x,l[j]?=some x->(aft c s x).2=0/\∃ k:Nat,Y[j]?=some (k:Int)/\R[k]?=some (aft c s x).1
 new:∀ k,S.length<=k->k < R.length->(k:Int)∈Y
def Nd (S:List State):Prop:=∀ (i j:Nat) s,S[i]?=some s->S[j]?=some s->i=j
theorem Nd.put {S:List State} {t:State} (h:Nd S) (hn:S.findIdx? (fun x=>sst t x)=none):Nd (S ++ [t]):=by
 rw [List.findIdx?_eq_none_iff] at hn;have hno:∀ (i:Nat),S[i]?≠some t:=fun i hi=>by
  have:=hn t (List.mem_of_getElem? hi);rw [sst_refl] at this;cases this
 have hg:∀ (i:Nat) s,(S ++ [t])[i]?=some s->S[i]?=some s\/(i=S.length/\s=t):=fun i s hs=>by
  rcases Nat.lt_or_ge i S.length with h1 | h1
  ·rw [List.getElem?_append_left h1] at hs;exact .inl hs
  ·rw [List.getElem?_append_right h1] at hs;rcases Nat.eq_or_lt_of_le h1 with h2 | h2
   ·subst h2;simp at hs;exact .inr ⟨rfl,hs.symm⟩
   ·rw [List.getElem?_eq_none (by simp;omega)] at hs;cases hs
 intro i j s hi hj;rcases hg i s hi with h1 | ⟨h1,h2⟩ <;> rcases hg j s hj with h3 | ⟨h3,h4⟩
 ·exact h i j s h1 h3
 ·subst h4;exact absurd h1 (hno i)
 ·subst h2;exact absurd h3 (hno j)
 ·omega
theorem xrow_xr {c:Control} {most:Nat} {s:State}:∀ (l:List Event) (S:List State) (mv:List Int) {r:List State×List Int},Nd S->xrow c most s l S mv=.inr r->∃ Y,r.2=mv ++ Y/\Xr c s l S r.1 Y/\Nd r.1
 | [],S,mv,r,hN,h=>by
  unfold xrow at h;obtain rfl:=Sum.inr.inj h;exact ⟨[],by simp,⟨⟨[],by simp⟩,rfl,fun j x hx=>by simp at hx,fun k h1 h2=>by dsimp only at h2;omega⟩,hN⟩
 | x :: l,S,mv,r,hN,h=>by
  unfold xrow at h;by_cases h0:(aft c s x).2=0
  ·rw [if_pos h0] at h;by_cases hp:plc S (aft c s x).1 < 0
   ·rw [if_pos hp] at h;by_cases hM:S.length=most
    ·rw [if_pos hM] at h;cases h
    ·rw [if_neg hM] at h;obtain ⟨Y,e1,⟨⟨X,e2⟩,e3,e4,e5⟩,e6⟩:=xrow_xr l _ _ (hN.put (plc_neg hp)) h;refine ⟨(S.length:Int) :: Y,by rw [e1];simp,⟨⟨(aft c s x).1 :: X,by rw [e2];simp⟩,by simp [e3],fun j y hy=>?_,fun k h1 h2=>?_⟩,e6⟩
     ·cases j with
      | zero=>
       obtain rfl:x=y:=by simpa using hy
       exact ⟨h0,S.length,rfl,by rw [e2];simp⟩
      | succ j=>
       obtain ⟨a,k,b,d⟩:=e4 j y (by simpa using hy);exact ⟨a,k,by simpa using b,d⟩
     ·by_cases hk:k=S.length
      ·subst hk;simp
      ·exact List.mem_cons_of_mem _ (e5 k (by simp;omega) h2)
   ·rw [if_neg hp] at h;obtain ⟨q,hq,hq2,hq3⟩:=plc_range hp;obtain ⟨Y,e1,⟨⟨X,e2⟩,e3,e4,e5⟩,e6⟩:=xrow_xr l _ _ hN h;refine ⟨(q:Int) :: Y,by rw [e1,hq2];simp,⟨⟨X,e2⟩,by simp [e3],fun j y hy=>?_,fun k h1 h2=>List.mem_cons_of_mem _ (e5 k h1 h2)⟩,e6⟩;cases j with
    | zero=>
     obtain rfl:x=y:=by simpa using hy
     refine ⟨h0,q,rfl,?_⟩;obtain ⟨g1,g2,_⟩:=List.findIdx?_eq_some_iff_getElem.1 hq3;rw [e2,List.getElem?_append_left g1,gE_ g1,← sst_iff.1 g2]
    | succ j=>
     obtain ⟨a,k,b,d⟩:=e4 j y (by simpa using hy);exact ⟨a,k,by simpa using b,d⟩
  ·rw [if_neg h0] at h;cases h
structure Rwm (c:Control) (S:List State) (s:State) (mv:List Int):Prop where
 len:mv.length=(pend s).length
 ev:∀ (j:Nat) x,(pend s)[j]?=some x->(aft c s x).2=0/\∃ k:Nat,mv[j]?=some (k:Int)/\S[k]?=some (aft c s x).1
theorem Rwm.app {c:Control} {S X:List State} {s:State} {mv:List Int} (h:Rwm c S s mv):Rwm c (S ++ X) s mv:=
 ⟨h.len,fun j x hx=>by
  obtain ⟨a,k,b,d⟩:=h.ev j x hx;exact ⟨a,k,b,by rw [List.getElem?_append_left (List.getElem?_eq_some_iff.1 d).1];exact d⟩⟩
structure Fnd (c:Control) (s0:State) (i:Nat) (S:List State) (M:List (List Int)):Prop where
 ml:M.length=i
 il:i<=S.length
 hd:S[0]?=some s0
 nd:Nd S
 row:∀ (j:Nat) s mv,j < i->S[j]?=some s->M[j]?=some mv->Rwm c S s mv
 par:∀ k,0 < k->k < S.length->∃ p mv,p < k/\M[p]?=some mv/\(k:Int)∈mv
theorem xall_fd {c:Control} {s0:State} {most:Nat}:∀ (n i:Nat) (S:List State) (M:List (List Int)) {sp:Space},Fnd c s0 i S M->xall c most n i S M=.inr sp->Fnd c s0 sp.States.length sp.States sp.Moves
 | 0,_,_,_,_,_,h=>by cases h
 | n + 1,i,S,M,sp,hF,h=>by
  unfold xall at h;cases hs:S[i]? with
  | none=>
   rw [hs] at h;obtain rfl:=Sum.inr.inj h;have h1:=List.getElem?_eq_none_iff.1 hs;have h2:=hF.il;have:i=S.length:=by omega
   subst this;exact hF
  | some s=>
   rw [hs] at h;try dsimp only at h
   cases hx:xrow c most s (pend s) S [] with
   | inl e=>rw [hx] at h;cases h
   | inr r=>
    rw [hx] at h;obtain ⟨Y,e1,⟨⟨X,e2⟩,e3,e4,e5⟩,e6⟩:=xrow_xr _ _ _ hF.nd hx;have hil:=(List.getElem?_eq_some_iff.1 hs).1;have e1:r.2=Y:=by simpa using e1
    refine xall_fd n (i + 1) r.1 _ ⟨by simp [hF.ml],by rw [e2];simp;omega,?_,e6,?_,?_⟩ h
    ·rw [e2,List.getElem?_append_left (by omega)];exact hF.hd
    ·intro j t mv hj ht hm;by_cases hji:j=i
     ·subst hji;rw [List.getElem?_append_right (by rw [hF.ml];omega),hF.ml,Nat.sub_self] at hm;have hm:r.2=mv:=by simpa using hm
      rw [e2,List.getElem?_append_left hil,hs] at ht;obtain rfl:=Option.some.inj ht;rw [← hm,e1];exact ⟨e3,e4⟩
     ·have hj2:j < i:=by omega
      rw [List.getElem?_append_left (by rw [hF.ml];exact hj2)] at hm;rw [e2,List.getElem?_append_left (by omega)] at ht;rw [e2];exact (hF.row j t mv hj2 ht hm).app
    ·intro k h1 h2;by_cases hk:k < S.length
     ·obtain ⟨p,mv,a,b,d⟩:=hF.par k h1 hk;exact ⟨p,mv,a,by rw [List.getElem?_append_left (List.getElem?_eq_some_iff.1 b).1];exact b,d⟩
     ·refine ⟨i,r.2,by omega,?_,by rw [e1];exact e5 k (by omega) h2⟩;rw [List.getElem?_append_right (by rw [hF.ml];omega),hF.ml,Nat.sub_self];rfl
structure Sp_ (c:Control) (s0:State) (sp:Space):Prop where
 al:Al c sp.States
 le:sp.States.length<=120
 fd:Fnd c s0 sp.States.length sp.States sp.Moves
theorem pend_fit {c:Control} {s:State} (hb:Bd_ c) (h:Fit c s):(pend s).length<=22:=by
 have h1:=hb.a';have h3:=hb.s;have a:=fmr_len (g:=pndE s) (n:=s.Ends.length);have b:=fmr_len (g:=pndT s) (n:=s.Timers.length);have he:=h.e;have ht:=h.t;unfold pend;rw [List.length_append];omega
theorem Sp_.get {c:Control} {s0:State} {sp:Space} (h:Sp_ c s0 sp) {i:Nat} (hi:i < sp.States.length):∃ s mv,sp.States[i]?=some s/\sp.Moves[i]?=some mv/\Rwm c sp.States s mv/\Fit c s/\Qt c s:=by
 have hm:i < sp.Moves.length:=by rw [h.fd.ml];exact hi
 have h1:sp.States[i]?=some sp.States[i]:=gE_ hi;have h2:sp.Moves[i]?=some sp.Moves[i]:=gE_ hm;obtain ⟨hf,hq⟩:=h.al _ (List.getElem_mem hi);exact ⟨_,_,h1,h2,h.fd.row i _ _ hi h1 h2,hf,hq⟩
theorem Rwm.mem {c:Control} {S:List State} {s:State} {mv:List Int} (h:Rwm c S s mv) {k:Int} (hk:k∈mv):0<=k/\k < S.length:=by
 obtain ⟨j,hj⟩:=List.getElem?_of_mem hk;have hl:=(List.getElem?_eq_some_iff.1 hj).1;rw [h.len] at hl;obtain ⟨_,q,h1,h2⟩:=h.ev j _ (gE_ hl);rw [hj] at h1;obtain rfl:=Option.some.inj h1;have:=(List.getElem?_eq_some_iff.1 h2).1;omega
theorem Sp_.pos {c:Control} {s0:State} {sp:Space} (h:Sp_ c s0 sp):0 < sp.States.length:=(List.getElem?_eq_some_iff.1 h.fd.hd).1
theorem Sp_.rows {c:Control} {s0:State} {sp:Space} (hb:Bd_ c) (h:Sp_ c s0 sp):∀ l∈sp.Moves,l.length<=22/\∀ k∈l,0<=k/\k < sp.States.length:=by
 intro l hl;obtain ⟨i,hi⟩:=List.getElem?_of_mem hl;have hil:=(List.getElem?_eq_some_iff.1 hi).1;rw [h.fd.ml] at hil;obtain ⟨s,mv,h1,h2,h3,h4,h5⟩:=h.get hil;rw [hi] at h2;obtain rfl:=Option.some.inj h2;exact ⟨by rw [h3.len];exact pend_fit hb h4,fun k hk=>h3.mem hk⟩
end Go.Pn
namespace Go.Pn
open Go
def prs (s:State) (i:Nat):Event:=⟨2,(i:Int),!(s.Inputs.getD i false)⟩
def tld (p:Bool) (s:State):List Event:=pend s ++ (if p=true then (List.range s.Inputs.length).map (prs s) else [])
theorem tld_false {s:State}:tld false s=pend s:=by unfold tld;simp
theorem tld_len {p:Bool} {s:State} (h:Smst s 1000):(tld p s).length<=3000:=by
 have h1:=pend_len h;have h2:=h.i;unfold tld; cases p <;> simp <;> omega
theorem m102_spec {s:State} (h:Smst s 1000) (p:Bool):m102 FF s p=some (tld p s):=by
 have h1:=pend_len h;have h2:=h.i;unfold m102 tld;rw [m158_spec h,ob_];cases p with
 | false=>
  rw [show m102_l1 s false FF (0,pend s)=some (0,pend s) from rfl];simp
 | true=>
  obtain ⟨v,hv,hl⟩:=forI (L:=m102_l1 s true) (mk:=fun i (v:List Event)=>((i:Int),v)) (N:=s.Inputs.length) (I:=fun i v=>v=pend s ++ (List.range i).map (prs s)) (fun n i v hi hI=>by
   subst hI;refine ⟨_,rfl,?_⟩;have hp:prs s i=⟨2,(i:Int),!s.Inputs[i]⟩:=by
    unfold prs;rw [List.getD_eq_getElem?_getD,gE_ hi];rfl
   rw [m102_l1];dsimp only;rw [Bool.true_and,lt_dec,dt_ hi,ct_,idx_nat,gE_ hi,ob_,← hp,app_ok (by simp;omega),ob_,wr_nat (by omega),List.range_succ,List.map_append,← List.append_assoc];rfl) (fun n v _=>by
   rw [m102_l1];dsimp only;rw [Bool.true_and,lt_dec,df_ (by omega),cf_]) FF 0 (pend s) (by omega) (by unfold FF;omega) (by simp)
  subst hv;try dsimp only at hl
  rw [n0] at hl;rw [hl];simp
def frE (s t:State) (i:Nat):Option Stroke:=if (t.Ends.getD i 0=1\/t.Ends.getD i 0=3)/\s.Ends.getD i 0≠t.Ends.getD i 0 then some ⟨(i:Int),t.Ends.getD i 0 == 1⟩ else none
def frs (s t:State):List Stroke:=(List.range s.Ends.length).filterMap (frE s t)
theorem frE_at {s t:State} {i:Nat} (h:i < s.Ends.length) (h':i < t.Ends.length):frE s t i=if (t.Ends[i]=1\/t.Ends[i]=3)/\s.Ends[i]≠t.Ends[i] then some ⟨(i:Int),t.Ends[i] == 1⟩ else none:=by
 unfold frE;rw [List.getD_eq_getElem?_getD,List.getD_eq_getElem?_getD,gE_ h,gE_ h'];rfl
theorem m136_spec {s t:State} (he:t.Ends.length=s.Ends.length) (hl:s.Ends.length<=1000):m136 FF s t=some (frs s t):=by
 unfold m136;obtain ⟨v,hv,hh⟩:=forI (L:=m136_l1 s t) (mk:=fun i (v:List Stroke)=>((i:Int),v)) (N:=s.Ends.length) (I:=fun i v=>v=(List.range i).filterMap (frE s t)) (fun n i v hi hI=>by
  subst hI;have hi':i < t.Ends.length:=by omega
  refine ⟨_,rfl,?_⟩;have hle:=fmr_len (g:=frE s t) (n:=i);rw [m136_l1];simp only [he,lt_dec,dt_ hi,ct_,idx_nat,gE_ hi,gE_ hi',ob_];rw [wr_nat (by omega),fmr_succ,frE_at hi hi'];have k1:((t.Ends[i] != s.Ends[i]) && ((t.Ends[i] == 1) || (t.Ends[i] == 3)))=decide ((t.Ends[i]=1\/t.Ends[i]=3)/\s.Ends[i]≠t.Ends[i]):=by
   rw [Bool.eq_iff_iff];simp;omega
  rw [k1];by_cases ha:(t.Ends[i]=1\/t.Ends[i]=3)/\s.Ends[i]≠t.Ends[i]
  ·rw [dt_ ha,ct_,app_ok (by simp;omega),ob_,ob_,if_pos ha]
  ·rw [df_ ha,cf_,ob_,if_neg ha,List.append_nil]) (fun n v _=>by
  rw [m136_l1];dsimp only;rw [he,lt_dec,df_ (by omega),cf_]) FF 0 [] (by omega) (by unfold FF;omega) rfl
 subst hv;try dsimp only at hh
 rw [n0] at hh;rw [hh];rfl
theorem m235_spec {c:Control} {s t:State} (hb:Bd_ c) (hs:Fit c s) (ht:Fit c t):m235 FF s t=some (frs s t,0):=by
 have h6:=hb.a';have h1:=hs.e;have h2:=ht.e;unfold m235;rw [show ((s.Ends.length:Int) != (t.Ends.length:Int))=false by simp;omega,df_ (by omega),Bool.or_false,cf_,m205_spec (by omega) (by omega),ob_];have e1:=srch (L:=m235_l1 (s.Ends ++ t.Ends)) (xs:=s.Ends ++ t.Ends) (p:=fun _ x=>some (decide (x < 0) || decide (x>=4))) (q:=fun x=>decide (x < 0) || decide (x>=4)) (r:=fun _=>(([]:List Stroke),(1:Int))) (fun _ _=>rfl) (by simp;omega) (fun _ _ _=>rfl) FF 0 (by simp) (by simp;unfold FF;omega);rw [n0,List.drop_zero] at e1;rcases fi_any (l:=s.Ends ++ t.Ends) (q:=fun x=>decide (x < 0) || decide (x>=4)) with ⟨j,hj,ha⟩ | ⟨hj,ha⟩
 ·exfalso;obtain ⟨x,hx,h3⟩:=List.any_eq_true.1 ha;have:0<=x/\x < 4:=(List.mem_append.1 hx).elim (hs.ee x) (ht.ee x);simp at h3;omega
 ·rw [hj] at e1;rw [e1,ob_];dsimp only;rw [m136_spec (by omega) (by omega)];rfl
structure Zt where
 N:List Node
 F:List Found
 mv:List Int
 B:List Stroke
def zS (z:Zt):List State:=z.N.map (·.state)
def zstep (i:Nat) (s t:State) (x:Event) (z:Zt):Zt:=
 if plc (zS z) t < 0 then ⟨z.N ++ [⟨t,(i:Int),x⟩],z.F ++ [⟨t,((z.F[i]?).map (·.Run)).getD [] ++ [x]⟩],z.mv ++ [(z.N.length:Int)],z.B ++ frs s t⟩ else ⟨z.N,z.F,z.mv ++ [plc (zS z) t],z.B ++ frs s t⟩
def zrow (c:Control) (most i:Nat) (s:State):List Event->Zt->Int ⊕ Zt
 | [],z=>.inr z
 | x :: l,z=>if (aft c s x).2=0 then (if plc (zS z) (aft c s x).1 < 0/\z.N.length=most then .inl 12 else zrow c most i s l (zstep i s (aft c s x).1 x z)) else .inl (aft c s x).2
def zall (c:Control) (most:Nat) (p:Bool):Nat->Nat->Zt->List (List Int)->Int ⊕ (Zt×List (List Int))
 | 0,_,_,_=>.inl 99
 | n + 1,i,z,M=>match z.N[i]? with
  | none=>.inr (z,M)
  | some y=>match zrow c most i y.state (tld p y.state) { z with mv:=[] } with
   | .inl e=>.inl e
   | .inr r=>zall c most p n (i + 1) r (M ++ [r.mv])
structure Zi (c:Control) (most:Nat) (z:Zt):Prop where
 al:Al c (zS z)
 le:z.N.length<=most
 fs:z.F.map (·.State)=zS z
 par:∀ k y f,z.N[k]?=some y->z.F[k]?=some f->(y.by_=-1/\f.Run=[])\/∃ p:Nat,p < k/\y.by_=(p:Int)/\∃ g,z.F[p]?=some g/\f.Run=g.Run ++ [y.event]
theorem Zi.len {c:Control} {most:Nat} {z:Zt} (h:Zi c most z):z.F.length=z.N.length:=by
 have:=congrArg List.length h.fs;unfold zS at this;simpa using this
theorem Zi.run {c:Control} {most:Nat} {z:Zt} (h:Zi c most z):∀ (k:Nat) f,z.F[k]?=some f->f.Run.length<=k:=by
 intro k
 induction k using Nat.strongRecOn with
 | ind k ih=>
  intro f hf;have hk:k < z.N.length:=by rw [← h.len];exact (List.getElem?_eq_some_iff.1 hf).1
  rcases h.par k _ f (gE_ hk) hf with ⟨_,h1⟩ | ⟨p,hp,_,g,hg,h1⟩
  ·rw [h1];simp
  ·have:=ih p hp g hg;rw [h1];simp;omega
theorem Zi.get {c:Control} {most:Nat} {z:Zt} (h:Zi c most z) {i:Nat} {y:Node} (hy:z.N[i]?=some y):∃ R,z.F[i]?=some ⟨y.state,R⟩:=by
 have h1:(z.F.map (·.State))[i]?=(zS z)[i]?:=by rw [h.fs]
 unfold zS at h1;rw [List.getElem?_map,List.getElem?_map,hy] at h1;cases hf:z.F[i]? with
 | none=>rw [hf] at h1;simp at h1
 | some f=>rw [hf] at h1;simp at h1;exact ⟨f.Run,by rw [← h1]⟩
theorem Zi.step {c:Control} {most i:Nat} {s:State} {x:Event} {z:Zt} (h:Zi c most z) (hf:Fit c s) (hi:∃ y,z.N[i]?=some y/\y.state=s) (h0:(aft c s x).2=0) (hm:¬ (plc (zS z) (aft c s x).1 < 0/\z.N.length=most)) :
  Zi c most (zstep i s (aft c s x).1 x z)/\(∃ X,(zstep i s (aft c s x).1 x z).N=z.N ++ X)/\(∃ X,(zstep i s (aft c s x).1 x z).F=z.F ++ X):=by
 obtain ⟨y,hy,rfl⟩:=hi;unfold zstep;by_cases hp:plc (zS z) (aft c y.state x).1 < 0
 ·rw [if_pos hp];have hl:=h.len;have hiN:i < z.N.length:=(List.getElem?_eq_some_iff.1 hy).1;refine ⟨⟨?_,?_,?_,?_⟩,⟨_,rfl⟩,⟨_,rfl⟩⟩
  ·intro t ht;unfold zS at ht;rw [List.map_append] at ht;rcases List.mem_append.1 ht with ht | ht
   ·exact h.al t ht
   ·obtain rfl:t=_:=by simpa using ht
    exact aft_ok hf h0
  ·have:=h.le;simp;omega
  ·have:=h.fs;unfold zS at this ⊢;simp [this]
  ·intro k a f ha hfk;dsimp only at ha hfk ⊢;by_cases hk:k < z.N.length
   ·rw [List.getElem?_append_left hk] at ha;rw [List.getElem?_append_left (by omega)] at hfk;rcases h.par k a f ha hfk with h1 | ⟨p,h1,h2,g,h3,h4⟩
    ·exact .inl h1
    ·exact .inr ⟨p,h1,h2,g,by rw [List.getElem?_append_left (by omega)];exact h3,h4⟩
   ·have hk':k=z.N.length:=by
     have:=(List.getElem?_eq_some_iff.1 ha).1;simp at this;omega
    subst hk';rw [List.getElem?_append_right (by omega)] at ha;rw [← hl,List.getElem?_append_right (by omega)] at hfk;obtain rfl:(⟨(aft c y.state x).1,(i:Int),x⟩:Node)=a:=by simpa using ha
    obtain rfl:(⟨(aft c y.state x).1,((z.F[i]?).map (·.Run)).getD [] ++ [x]⟩:Found)=f:=by simpa using hfk
    obtain ⟨R,hR⟩:=h.get hy;exact .inr ⟨i,hiN,rfl,⟨y.state,R⟩,by rw [List.getElem?_append_left (by omega)];exact hR,by rw [hR];rfl⟩
 ·rw [if_neg hp];exact ⟨⟨h.al,h.le,h.fs,h.par⟩,⟨[],by simp⟩,⟨[],by simp⟩⟩
theorem zrow_ok {c:Control} {most i:Nat} {s:State} (hf:Fit c s):∀ (l:List Event) (z:Zt) {r:Zt},Zi c most z->(∃ y,z.N[i]?=some y/\y.state=s)->zrow c most i s l z=.inr r ->
  Zi c most r/\∃ X,r.N=z.N ++ X
 | [],z,r,h,hi,hr=>by
  unfold zrow at hr;obtain rfl:=Sum.inr.inj hr;exact ⟨h,[],by simp⟩
 | x :: l,z,r,h,hi,hr=>by
  unfold zrow at hr;split at hr
  ·rename_i h0;split at hr
   ·cases hr
   ·rename_i hm;obtain ⟨h1,⟨X,hX⟩,_⟩:=h.step hf hi h0 hm;obtain ⟨y,hy,hys⟩:=hi;obtain ⟨h2,X2,hX2⟩:=zrow_ok hf l _ h1 ⟨y,by rw [hX,List.getElem?_append_left (List.getElem?_eq_some_iff.1 hy).1];exact hy,hys⟩ hr;exact ⟨h2,X ++ X2,by rw [hX2,hX,List.append_assoc]⟩
  ·cases hr
theorem m238_spec {l:List Found} {t:State} (h:∀ x∈l,Smst x.State 1000) (hl:l.length<=20000):m238 FF l t=some (decide (0<=plc (l.map (·.State)) t)):=by
 unfold m238 plc;have h1:=srch (L:=m238_l1 FF l t) (xs:=l) (p:=fun _ x=>m23 FF x.State t) (q:=fun x=>sst t x.State) (r:=fun _=>true) (fun _ _=>rfl) (by omega) (fun i x hx=>by
  rw [m23_spec (h x (List.mem_of_getElem? hx)) (by unfold FF;omega) (by omega),sst_comm]) FF 0 (by omega) (by unfold FF;omega)
 rw [n0,List.drop_zero] at h1;rw [h1,List.findIdx?_map];show _=some (decide (0<=match l.findIdx? (fun x=>sst t x.State) with | some j=>(j:Int) | none=>-1))
 cases l.findIdx? (fun x=>sst t x.State) with
 | none=>rfl
 | some j=>show some true=_;rw [dt_ (show (0:Int)<=(j:Int) by omega)]
theorem Zi.sm {c:Control} {most:Nat} {z:Zt} (hb:Bd_ c) (h:Zi c most z):∀ x∈z.F,Smst x.State 1000:=fun x hx=>by
 have:x.State∈zS z:=by rw [← h.fs];exact List.mem_map.2 ⟨x,hx,rfl⟩
 exact (h.al _ this).1.sm hb
theorem m174_l2_spec {c:Control} (hc:Rt c) {most:Nat} (hmo:most<=16384) {s:State} (hf:Fit c s) (i0:Nat) (z2:Int×List Found) (hz:z2.1=i0) (l:List Event) (hl:l.length<=3000) :
  ∀ (k n j:Nat) (z:Zt),j + k=l.length->k < n->Zi c most z->(∃ y,z.N[i0]?=some y/\y.state=s) ->
   match zrow c most i0 s (l.drop j) z with
   | .inl e=>m174_l2 FF c (most:Int) z2 l n ((j:Int),z.F)=some (.ret ([],e))
   | .inr r=>m174_l2 FF c (most:Int) z2 l n ((j:Int),z.F)=some (.brk ((l.length:Int),r.F))
 | _,0,_,_,_,h,_,_=>by omega
 | 0,n + 1,j,z,h1,_,_,_=>by
  obtain rfl:j=l.length:=by omega
  rw [List.drop_length];unfold zrow m174_l2;dsimp only;rw [lt_dec,df_ (by omega),cf_]
 | k + 1,n + 1,j,z,h1,h2,hZ,hi=>by
  have hb:=hc.bd;have hj:j < l.length:=by omega
  have hlen:=hZ.len;have hle:=hZ.le;rw [List.drop_eq_getElem_cons hj];unfold zrow m174_l2;dsimp only;obtain ⟨q,e1⟩:=m97_spec (x:=l[j]) hc hf;obtain ⟨y,hy,hys⟩:=hi;obtain ⟨R,hR⟩:=hZ.get hy;have hRl:=hZ.run _ _ hR;have hiN:=(List.getElem?_eq_some_iff.1 hy).1;rw [hys] at hR;simp only [lt_dec,dt_ hj,ct_,hz,idx_nat,gE_ hj,hR,ob_,e1];by_cases h0:(aft c s l[j]).2=0
  ·have hfa:=aft_ok hf h0;rw [if_pos h0,h0,zf,cf_,m238_spec (hZ.sm hb) (by omega),hZ.fs,ob_];by_cases hp:plc (zS z) (aft c s l[j]).1 < 0
   ·have ha:app ([]:List Event) R=some R:=by rw [app_ok (by dsimp only at hRl;simp;omega)];simp
    rw [df_ (by omega),Bool.not_false,ct_,ha,ob_,app_ok (by dsimp only at hRl;simp;omega),ob_,app_ok (by simp;omega),ob_,ob_];by_cases hM:z.N.length=most
    ·rw [if_pos ⟨hp,hM⟩];dsimp only;rw [dt_ (by simp;omega),ct_]
    ·have hm:¬ (plc (zS z) (aft c s l[j]).1 < 0/\z.N.length=most):=fun h=>hM h.2;rw [if_neg hm];obtain ⟨h3,⟨X,hX⟩,_⟩:=hZ.step hf ⟨y,hy,hys⟩ h0 hm;have ih:=m174_l2_spec hc hmo hf i0 z2 hz l hl k n (j + 1) _ (by omega) (by omega) h3 ⟨y,by rw [hX,List.getElem?_append_left hiN];exact hy,hys⟩;have hF:(zstep i0 s (aft c s l[j]).1 l[j] z).F=z.F ++ [⟨(aft c s l[j]).1,R ++ [l[j]]⟩]:=by
      unfold zstep;rw [if_pos hp,hR];rfl
     rw [hF] at ih;rw [df_ (by simp;omega),cf_,wr_nat (by omega)];exact ih
   ·have hm:¬ (plc (zS z) (aft c s l[j]).1 < 0/\z.N.length=most):=fun h=>hp h.1;obtain ⟨h3,⟨X,hX⟩,_⟩:=hZ.step hf ⟨y,hy,hys⟩ h0 hm;have ih:=m174_l2_spec hc hmo hf i0 z2 hz l hl k n (j + 1) _ (by omega) (by omega) h3 ⟨y,by rw [hX,List.getElem?_append_left hiN];exact hy,hys⟩;have hF:(zstep i0 s (aft c s l[j]).1 l[j] z).F=z.F:=by unfold zstep;rw [if_neg hp]
    rw [hF] at ih;rw [dt_ (by omega),Bool.not_true,cf_,ob_,if_neg hm,df_ (by omega),cf_,wr_nat (by omega)];exact ih
  ·rw [if_neg h0,show ((aft c s l[j]).2 != 0)=true by simpa using h0,ct_]
theorem m174_l1_spec {c:Control} (hc:Rt c) {most:Nat} (hmo:most<=16384) (p:Bool):∀ (n i:Nat) (z:Zt) (M:List (List Int)),Zi c most z->i<=z.N.length->most < n + i ->
  match zall c most p n i z M with
  | .inl e=>m174_l1 FF c p (most:Int) n ((i:Int),z.F)=some (.ret ([],e))
  | .inr r=>∃ q,m174_l1 FF c p (most:Int) n ((i:Int),z.F)=some (.brk (q,r.1.F))
 | 0,i,z,M,h,h2,h3=>by have:=h.le;omega
 | n + 1,i,z,M,hZ,h2,h3=>by
  have hb:=hc.bd;have hlen:=hZ.len;have hle:=hZ.le;unfold zall m174_l1;dsimp only;by_cases hi:i < z.N.length
  ·have hs:z.N[i]?=some z.N[i]:=gE_ hi;obtain ⟨R,hR⟩:=hZ.get hs;have hfit:Fit c z.N[i].state:=(hZ.al _ (List.mem_map.2 ⟨_,List.getElem_mem hi,rfl⟩)).1;have hsm:=hfit.sm hb;have htl:=tld_len (p:=p) hsm;have hZ':Zi c most { z with mv:=[] }:=⟨hZ.al,hZ.le,hZ.fs,hZ.par⟩;have h:=m174_l2_spec hc hmo hfit i ((i:Int),z.F) rfl (tld p z.N[i].state) htl _ FF 0 { z with mv:=[] } (Nat.zero_add _) (by unfold FF;omega) hZ' ⟨_,hs,rfl⟩;rw [n0,List.drop_zero] at h;rw [hs,lt_dec,dt_ (by omega),ct_,idx_nat,hR,ob_];dsimp only;rw [m102_spec hsm,ob_];cases hx:zrow c most i z.N[i].state (tld p z.N[i].state) { z with mv:=[] } with
   | inl e=>rw [hx] at h;dsimp only at h ⊢;rw [h];rfl
   | inr r=>
    rw [hx] at h;dsimp only at h ⊢;obtain ⟨a1,X,a2⟩:=zrow_ok hfit _ _ hZ' ⟨_,hs,rfl⟩ hx;rw [h,ob_];dsimp only;rw [wr_nat (by omega)];exact m174_l1_spec hc hmo p n (i + 1) r _ a1 (by rw [a2];simp;omega) (by omega)
  ·rw [List.getElem?_eq_none (by omega),lt_dec,df_ (by omega),cf_];exact ⟨_,rfl⟩
def z0t (s:State):Zt:=⟨[⟨s,-1,⟨0,0,false⟩⟩],[⟨s,[]⟩],[],[]⟩
theorem z0t_ok {c:Control} {most:Nat} {s:State} (hf:Fit c s) (hq:Qt c s) (hm:1<=most):Zi c most (z0t s):=by
 refine ⟨fun t ht=>?_,hm,rfl,fun k y f hy hf=>?_⟩
 ·obtain rfl:t=s:=by simpa [zS,z0t] using ht
  exact ⟨hf,hq⟩
 ·have hk:k=0:=by
   have:=(List.getElem?_eq_some_iff.1 hy).1;simp [z0t] at this;exact this
  subst hk;obtain rfl:(⟨s,-1,⟨0,0,false⟩⟩:Node)=y:=by simpa [z0t] using hy
  obtain rfl:(⟨s,[]⟩:Found)=f:=by simpa [z0t] using hf
  exact .inl ⟨rfl,rfl⟩
def srF (c:Control) (s:State) (p:Bool) (most:Nat):Int ⊕ (Zt×List (List Int)):=zall c most p FF 0 (z0t s) []
theorem m174_spec {c:Control} {s:State} (hc:Rt c) (hf:Fit c s) (hq:Qt c s) {most:Nat} (hm:1<=most) (hm2:most<=16384) (p:Bool) :
  m174 FF c s p (most:Int)=match srF c s p most with | .inl e=>some ([],e) | .inr r=>some (r.1.F,0):=by
 unfold m174;have h:=m174_l1_spec hc hm2 p FF 0 (z0t s) [] (z0t_ok hf hq hm) (by simp [z0t]) (by unfold FF;omega);rw [n0] at h;unfold srF;cases hx:zall c most p FF 0 (z0t s) [] with
 | inl e=>rw [hx] at h;dsimp only at h ⊢;rw [show [(⟨s,[]⟩:Found)]=(z0t s).F from rfl,h];rfl
 | inr r=>rw [hx] at h;obtain ⟨q,h⟩:=h;dsimp only;rw [show [(⟨s,[]⟩:Found)]=(z0t s).F from rfl,h];rfl
end Go.Pn
namespace Go.Pn
def Eg (g:List (List Int)) (a b:Nat):Prop:=∃ l,g[a]?=some l/\(b:Int)∈l
inductive Wl (g:List (List Int)):Nat->Nat->Nat->Prop
 | nil {a:Nat}:Wl g a a 0
 | cons {a b c n:Nat} (h:Eg g a b) (w:Wl g b c n):Wl g a c (n + 1)
theorem Wl.app {g:List (List Int)} {a b c n m:Nat} (h:Wl g a b n) (h':Wl g b c m):Wl g a c (n + m):=by
 induction h with
 | nil=>simpa using h'
 | cons e w ih=>rw [Nat.add_right_comm];exact .cons e (ih h')
theorem Wl.snoc {g:List (List Int)} {a b c n:Nat} (h:Wl g a b n) (e:Eg g b c):Wl g a c (n + 1):=h.app (.cons e .nil)
def Lg (g:List (List Int)) (i d:Nat):Prop:=(∃ b,Wl g i b d)/\∀ b n,Wl g i b n->n<=d
def Cy_ (g:List (List Int)) (i:Nat):Prop:=∃ x n m,Wl g i x n/\Wl g x x (m + 1)
theorem Wl.rep {g:List (List Int)} {x m:Nat} (h:Wl g x x (m + 1)):∀ k,∃ n,k<=n/\Wl g x x n
 | 0=>⟨0,Nat.le_refl _,.nil⟩
 | k + 1=>by
  obtain ⟨n,h1,h2⟩:=Wl.rep h k;exact ⟨n + (m + 1),by omega,h2.app h⟩
theorem Lg.noCy {g:List (List Int)} {i d:Nat} (h:Lg g i d):¬ Cy_ g i:=by
 rintro ⟨x,n,m,h1,h2⟩;obtain ⟨k,h3,h4⟩:=h2.rep (d + 1);have:=h.2 x _ (h1.app h4);omega
mutual
def lookF (g:List (List Int)):Nat->List Int->Nat->Option (Bool×List Int)
 | 0,_,_=>none
 | f + 1,F,i=>if F.getD i 0=-1 then
   match lpF g f (g.getD i []) (F.set i (-2)) 0 with
   | none=>none
   | some (none,F')=>some (false,F')
   | some (some best,F')=>some (true,F'.set i best)
  else some (decide (0<=F.getD i 0),F)
 termination_by f=>(f,0)
def lpF (g:List (List Int)):Nat->List Int->List Int->Int->Option (Option Int×List Int)
 | _,[],F,best=>some (some best,F)
 | f,k :: l,F,best=>match lookF g f F k.toNat with
  | none=>none
  | some (false,F')=>some (none,F')
  | some (true,F')=>lpF g f l F' (max best (F'.getD k.toNat 0 + 1))
 termination_by f l=>(f,l.length + 1)
end
structure Fr_ (g:List (List Int)) (F:List Int):Prop where
 len:F.length=g.length
 ok:∀ i,i < F.length->F.getD i 0=-1\/F.getD i 0=-2\/∃ d:Nat,F.getD i 0=d/\Lg g i d
structure To_ (F F':List Int):Prop where
 len:F'.length=F.length
 st:∀ j,F.getD j 0≠-1->F'.getD j 0=F.getD j 0
 gr:∀ j,F'.getD j 0=-2->F.getD j 0=-2
theorem To_.refl (F:List Int):To_ F F:=⟨rfl,fun _ _=>rfl,fun _ h=>h⟩
theorem To_.trans {A B C:List Int} (h:To_ A B) (h':To_ B C):To_ A C:=
 ⟨h'.len.trans h.len,fun j hj=>by rw [h'.st j (by rw [h.st j hj];exact hj),h.st j hj],fun j hj=>h.gr j (h'.gr j hj)⟩
def whites (F:List Int):Nat:=F.countP (·=-1)
theorem getD_put {F:List Int} {i j:Nat} {v d:Int} (hi:i < F.length):(F.set i v).getD j d=if i=j then v else F.getD j d:=by
 simp only [List.getD_eq_getElem?_getD,List.getElem?_set];split
 ·simp [hi]
 ·rfl
theorem whites_set {F:List Int} {i:Nat} {v:Int} (hi:i < F.length) (h:F.getD i 0=-1) (hv:v≠-1):whites (F.set i v) + 1=whites F:=by
 induction F generalizing i with
 | nil=>simp at hi
 | cons x F ih=>
  cases i with
  | zero=>
   have hx:x=-1:=by simpa using h
   subst hx;unfold whites;simp [hv]
  | succ i=>
   have:=ih (i:=i) (by simpa using hi) (by simpa using h);unfold whites at this ⊢;simp only [List.set_cons_succ,List.countP_cons];omega
theorem To_.whites {F F':List Int} (h:To_ F F'):whites F'<=whites F:=by
 have hl:=h.len;have hs:=h.st;clear h
 induction F generalizing F' with
 | nil=>cases F' with | nil=>simp | cons _ _=>simp at hl
 | cons x F ih=>
  cases F' with
  | nil=>simp at hl
  | cons y F'=>
   have h1:=ih (F':=F') (by simpa using hl) (fun j hj=>by simpa using hs (j + 1) (by simpa using hj));have h0:=hs 0;simp at h0;unfold Pn.whites at h1 ⊢;simp only [List.countP_cons];by_cases hx:x=-1
   ·subst hx; simp; split <;> omega
   ·rw [h0 hx];omega
theorem lg_of {g:List (List Int)} {i:Nat} {l:List Int} {d:Nat} (hl:g[i]?=some l) (h0:∀ k∈l,0<=k) (hs:∀ k∈l,∃ e:Nat,Lg g k.toNat e/\e + 1<=d) (he:d=0\/∃ k∈l,∃ e:Nat,Lg g k.toNat e/\e + 1=d):Lg g i d:=by
 constructor
 ·rcases he with rfl | ⟨k,hk,e,⟨⟨b,hb⟩,_⟩,rfl⟩
  ·exact ⟨i,.nil⟩
  ·exact ⟨b,.cons ⟨l,hl,by rw [Int.toNat_of_nonneg (h0 k hk)];exact hk⟩ hb⟩
 ·intro b n hw;cases hw with
  | nil=>omega
  | cons e w=>
   rename_i c m;obtain ⟨l',hl',hm⟩:=e;rw [hl] at hl';cases hl'
   obtain ⟨e,h1,h2⟩:=hs _ hm;rw [Int.toNat_natCast] at h1;have:=h1.2 _ _ w;omega
theorem lpF_spec {g:List (List Int)} {f i:Nat} (hL:∀ F k,Fr_ g F->k < g.length->whites F < f->(∀ j,F.getD j 0=-2->∃ n,Wl g j k (n + 1)) ->
   ∃ b F',lookF g f F k=some (b,F')/\(b=true->To_ F F'/\Fr_ g F'/\∃ d:Nat,F'.getD k 0=d/\Lg g k d)/\(b=false->Cy_ g k)) :
  ∀ (l:List Int) (F:List Int) (best:Int),Fr_ g F->(∀ k∈l,0<=k/\k < g.length/\Eg g i k.toNat)->whites F < f->(∀ j,F.getD j 0=-2->∃ n,Wl g j i n)->0<=best ->
   ∃ o F',lpF g f l F best=some (o,F')/\(∀ r,o=some r->To_ F F'/\Fr_ g F'/\best<=r/\(∀ k∈l,∃ e:Nat,Lg g k.toNat e/\(e:Int) + 1<=r)/\(r=best\/∃ k∈l,∃ e:Nat,Lg g k.toNat e/\(e:Int) + 1=r))/\(o=none->Cy_ g i)
 | [],F,best,hF,_,_,_,hb=>⟨some best,F,by rw [lpF],fun r hr=>by cases hr;exact ⟨To_.refl F,hF,Int.le_refl _,fun k hk=>by simp at hk,.inl rfl⟩,fun h=>by cases h⟩
 | k :: l,F,best,hF,hl,hw,hg,hb=>by
  obtain ⟨hk0,hk1,hk2⟩:=hl k (List.mem_cons_self ..);obtain ⟨b,F1,h1,h3,h4⟩:=hL F k.toNat hF (by omega) hw (fun j hj=>let ⟨n,hn⟩:=hg j hj;⟨n,hn.snoc hk2⟩);rw [lpF,h1];cases b with
  | false=>
   obtain ⟨x,n,m,a1,a2⟩:=h4 rfl;exact ⟨none,F1,rfl,fun r hr=>(by cases hr),fun _=>⟨x,n + 1,m,.cons hk2 a1,a2⟩⟩
  | true=>
   obtain ⟨h2,hF1,d,hd,hlg⟩:=h3 rfl;have hw1:=h2.whites;obtain ⟨o,F2,g1,g3,g4⟩:=lpF_spec hL l F1 (max best (F1.getD k.toNat 0 + 1)) hF1 (fun x hx=>hl x (List.mem_cons_of_mem _ hx)) (by omega) (fun j hj=>hg j (h2.gr j hj)) (by omega);refine ⟨o,F2,g1,fun r hr=>?_,g4⟩;obtain ⟨g2,a1,a2,a3,a4⟩:=g3 r hr;rw [hd] at a2 a4;refine ⟨h2.trans g2,a1,by omega,fun x hx=>?_,?_⟩
   ·rcases List.mem_cons.1 hx with rfl | hx
    ·exact ⟨d,hlg,by omega⟩
    ·exact a3 x hx
   ·rcases a4 with a4 | ⟨x,hx,e,b1,b2⟩
    ·rcases Int.le_total best ((d:Int) + 1) with h | h
     ·exact .inr ⟨k,List.mem_cons_self ..,d,hlg,by omega⟩
     ·exact .inl (by omega)
    ·exact .inr ⟨x,List.mem_cons_of_mem _ hx,e,b1,b2⟩
theorem lookF_spec {g:List (List Int)} (hg:∀ l∈g,∀ k∈l,0<=k/\k < g.length):∀ (f:Nat) (F:List Int) (i:Nat),Fr_ g F->i < g.length->whites F < f->(∀ j,F.getD j 0=-2->∃ n,Wl g j i (n + 1)) ->
   ∃ b F',lookF g f F i=some (b,F')/\(b=true->To_ F F'/\Fr_ g F'/\∃ d:Nat,F'.getD i 0=d/\Lg g i d)/\(b=false->Cy_ g i)
 | 0,F,i,_,_,h,_=>by omega
 | f + 1,F,i,hF,hi,hw,hgr=>by
  have hiF:i < F.length:=by rw [hF.len];exact hi
  rw [lookF];by_cases h1:F.getD i 0=-1
  ·rw [if_pos h1];have hw2:=whites_set hiF h1 (v:=-2) (by decide);obtain ⟨l,hl⟩:∃ l,g[i]?=some l:=⟨_,gE_ hi⟩;have hlg:g.getD i []=l:=by simp [List.getD_eq_getElem?_getD,hl]
   have hlm:l∈g:=List.mem_of_getElem? hl;rw [hlg];obtain ⟨o,F1,g1,g3,g4⟩:=lpF_spec (i:=i) (lookF_spec hg f) l (F.set i (-2)) 0 ⟨by simp [hF.len],fun j hj=>by
     rw [getD_put hiF];split
     ·exact .inr (.inl rfl)
     ·exact hF.ok j (by simpa using hj)⟩ (fun k hk=>⟨(hg l hlm k hk).1,(hg l hlm k hk).2,l,hl,by rw [Int.toNat_of_nonneg (hg l hlm k hk).1];exact hk⟩) (by omega) (fun j hj=>by
     rw [getD_put hiF] at hj;split at hj
     ·rename_i h;subst h;exact ⟨0,.nil⟩
     ·obtain ⟨n,hn⟩:=hgr j hj;exact ⟨n + 1,hn⟩) (Int.le_refl _)
   rw [g1];cases o with
   | none=>exact ⟨false,F1,rfl,fun h=>(by cases h),fun _=>g4 rfl⟩
   | some r=>
    obtain ⟨g2,a1,a2,a3,a4⟩:=g3 r rfl;have hi1:i < F1.length:=by rw [g2.len];simpa using hiF
    obtain ⟨d,rfl⟩:∃ d:Nat,r=d:=⟨r.toNat,by omega⟩;have hL:Lg g i d:=lg_of hl (fun k hk=>(hg l hlm k hk).1) (fun k hk=>let ⟨e,b1,b2⟩:=a3 k hk;⟨e,b1,by omega⟩) (by
     rcases a4 with a4 | ⟨k,hk,e,b1,b2⟩
     ·exact .inl (by omega)
     ·exact .inr ⟨k,hk,e,b1,by omega⟩)
    refine ⟨true,F1.set i d,rfl,fun _=>⟨⟨by rw [List.length_set,g2.len];simp,fun j hj=>?_,fun j hj=>?_⟩,⟨by rw [List.length_set];exact a1.len,fun j hj=>?_⟩,d,by rw [getD_put hi1,if_pos rfl],hL⟩,fun h=>by cases h⟩
    ·have hne:i≠j:=fun h=>by subst h;exact hj h1
     rw [getD_put hi1,if_neg hne,g2.st j (by rw [getD_put hiF,if_neg hne];exact hj),getD_put hiF,if_neg hne]
    ·rw [getD_put hi1] at hj;split at hj
     ·omega
     ·rename_i hne;have:=g2.gr j hj;rw [getD_put hiF,if_neg hne] at this;exact this
    ·rw [getD_put hi1];split
     ·rename_i h;subst h;exact .inr (.inr ⟨d,rfl,hL⟩)
     ·exact a1.ok j (by simpa using hj)
  ·rw [if_neg h1];refine ⟨_,F,rfl,fun h=>?_,fun h=>?_⟩
   ·have h:=of_decide_eq_true h;refine ⟨To_.refl F,hF,?_⟩;rcases hF.ok i hiF with h2 | h2 | h2
    ·omega
    ·omega
    ·exact h2
   ·have h:=of_decide_eq_false h;rcases hF.ok i hiF with h2 | h2 | ⟨d,h2,_⟩
    ·exact absurd h2 h1
    ·obtain ⟨n,hn⟩:=hgr i h2;exact ⟨i,0,n,.nil,hn⟩
    ·omega
theorem pigeon:∀ (N:Nat) (p:Nat->Nat),(∀ i,i<=N->p i < N)->∃ i j,i < j/\j<=N/\p i=p j
 | 0,p,h=>by have:=h 0 (Nat.le_refl _);omega
 | N + 1,p,h=>by
  by_cases hx:∃ i,i<=N/\p i=p (N + 1)
  ·obtain ⟨i,h1,h2⟩:=hx;exact ⟨i,N + 1,by omega,Nat.le_refl _,h2⟩
  ·have hx:∀ i,i<=N->p i≠p (N + 1):=fun i h1 h2=>hx ⟨i,h1,h2⟩;obtain ⟨i,j,h1,h2,h3⟩:=pigeon N (fun i=>if p i=N then p (N + 1) else p i) (fun i hi=>by
    have h1:=h i (by omega);have h2:=hx i hi;have h3:=h (N + 1) (Nat.le_refl _);show (if p i=N then p (N + 1) else p i) < N
    split <;> omega)
   refine ⟨i,j,h1,by omega,?_⟩;have a:=hx i (by omega);have b:=hx j (by omega);revert h3;show (if p i=N then p (N + 1) else p i)=(if p j=N then p (N + 1) else p j)->_
   split <;> split <;> intro h3 <;> omega
theorem Wl.fn {g:List (List Int)} {a b n:Nat} (h:Wl g a b n):∃ p:Nat->Nat,p 0=a/\p n=b/\∀ i,i < n->Eg g (p i) (p (i + 1)):=by
 induction h with
 | nil=>rename_i a;exact ⟨fun _=>a,rfl,rfl,fun i hi=>by omega⟩
 | cons e w ih=>
  rename_i a b c n;obtain ⟨p,h1,h2,h3⟩:=ih;refine ⟨fun i=>if i=0 then a else p (i - 1),rfl,by simpa using h2,fun i hi=>?_⟩
  cases i with
  | zero=>simpa [h1] using e
  | succ i=>simpa using h3 i (by omega)
theorem Wl.of {g:List (List Int)} {p:Nat->Nat} {n:Nat} (h:∀ i,i < n->Eg g (p i) (p (i + 1))):∀ d i,i + d<=n->Wl g (p i) (p (i + d)) d
 | 0,i,_=>.nil
 | d + 1,i,hi=>by
  have:=Wl.of h d (i + 1) (by omega);rw [show i + 1 + d=i + (d + 1) by omega] at this;exact .cons (h i (by omega)) this
theorem Eg.lt {g:List (List Int)} {a b:Nat} (h:Eg g a b):a < g.length:=by
 obtain ⟨l,h,_⟩:=h;exact (List.getElem?_eq_some_iff.1 h).1
theorem Wl.cyc {g:List (List Int)} {a b n:Nat} (h:Wl g a b n) (hn:g.length < n):Cy_ g a:=by
 obtain ⟨p,h1,h2,h3⟩:=h.fn;obtain ⟨i,j,a1,a2,a3⟩:=pigeon g.length p (fun i hi=>(h3 i (by omega)).lt);have w1:=Wl.of h3 i 0 (by omega);have w2:=Wl.of h3 (j - i) i (by omega);rw [show i + (j - i)=j by omega,← a3] at w2;rw [Nat.zero_add,h1] at w1;refine ⟨p i,i,j - i - 1,w1,?_⟩
 rwa [show j - i - 1 + 1=j - i by omega]
end Go.Pn
namespace Go.Pn
open Go
theorem zS_len {z:Zt}:(zS z).length=z.N.length:=by unfold zS;simp
theorem zS_step {i:Nat} {s t:State} {x:Event} {z:Zt}:zS (zstep i s t x z)=if plc (zS z) t < 0 then zS z ++ [t] else zS z:=by
 unfold zstep;split
 ·unfold zS;simp
 ·rfl
theorem zstep_mv {i:Nat} {s t:State} {x:Event} {z:Zt}:(zstep i s t x z).mv=z.mv ++ [if plc (zS z) t < 0 then (z.N.length:Int) else plc (zS z) t]:=by
 unfold zstep; split <;> rfl
theorem zstep_B {i:Nat} {s t:State} {x:Event} {z:Zt}:(zstep i s t x z).B=z.B ++ frs s t:=by
 unfold zstep; split <;> rfl
theorem zrow_x {c:Control} {most i:Nat} {s:State}:∀ (l:List Event) (z:Zt),match zrow c most i s l z with
  | .inl e=>xrow c most s l (zS z) z.mv=.inl e
  | .inr r=>xrow c most s l (zS z) z.mv=.inr (zS r,r.mv)
 | [],z=>rfl
 | x :: l,z=>by
  unfold zrow xrow;by_cases h0:(aft c s x).2=0
  ·rw [if_pos h0,if_pos h0,zS_len];by_cases hp:plc (zS z) (aft c s x).1 < 0
   ·rw [if_pos hp];by_cases hM:z.N.length=most
    ·rw [if_pos ⟨hp,hM⟩,if_pos hM]
    ·rw [if_neg (fun h=>hM h.2),if_neg hM];have ih:=zrow_x l (zstep i s (aft c s x).1 x z) (c:=c) (most:=most) (i:=i) (s:=s);rw [zS_step,if_pos hp,zstep_mv,if_pos hp] at ih;exact ih
   ·rw [if_neg (fun h=>hp h.1),if_neg hp];have ih:=zrow_x l (zstep i s (aft c s x).1 x z) (c:=c) (most:=most) (i:=i) (s:=s);rw [zS_step,if_neg hp,zstep_mv,if_neg hp] at ih;exact ih
  ·rw [if_neg h0,if_neg h0]
theorem zall_x {c:Control} {most:Nat}:∀ (n i:Nat) (z:Zt) (M:List (List Int)),match zall c most false n i z M with
  | .inl e=>xall c most n i (zS z) M=.inl e
  | .inr r=>xall c most n i (zS z) M=.inr ⟨zS r.1,r.2⟩
 | 0,i,z,M=>rfl
 | n + 1,i,z,M=>by
  unfold zall xall;rw [show (zS z)[i]?=(z.N[i]?).map (·.state) by unfold zS;rw [List.getElem?_map]];cases hy:z.N[i]? with
  | none=>rfl
  | some y=>
   dsimp only [Option.map_some];rw [tld_false];have h:=zrow_x (pend y.state) { z with mv:=[] } (c:=c) (most:=most) (i:=i) (s:=y.state);cases hx:zrow c most i y.state (pend y.state) { z with mv:=[] } with
   | inl e=>rw [hx] at h;dsimp only at h ⊢;rw [show xrow c most y.state (pend y.state) (zS z) []=.inl e from h]
   | inr r=>
    rw [hx] at h;dsimp only at h ⊢;rw [show xrow c most y.state (pend y.state) (zS z) []=.inr (zS r,r.mv) from h];exact zall_x n (i + 1) r _
theorem zrow_ne {c:Control} {most i:Nat} {s:State}:∀ (l:List Event) (z:Zt) {e:Int},zrow c most i s l z=.inl e->e≠0
 | [],z,e,h=>by cases h
 | x :: l,z,e,h=>by
  unfold zrow at h;split at h
  ·split at h
   ·cases h;omega
   ·exact zrow_ne l _ h
  ·cases h;assumption
theorem zall_ne {c:Control} {most:Nat} {p:Bool}:∀ (n i:Nat) (z:Zt) (M:List (List Int)) {e:Int},zall c most p n i z M=.inl e->e≠0
 | 0,i,z,M,e,h=>by cases h;omega
 | n + 1,i,z,M,e,h=>by
  unfold zall at h;split at h
  ·cases h
  ·split at h
   ·rename_i hx;cases h;exact zrow_ne _ _ hx
   ·exact zall_ne n _ _ _ h
def bgr (c:Control) (s:State) (l:List Event):List Stroke:=l.flatMap fun x=>frs s (aft c s x).1
def bgi (c:Control) (p:Bool) (S:List State):List Stroke:=S.flatMap fun s=>bgr c s (tld p s)
def Clo (c:Control) (p:Bool) (S:List State) (s:State) (l:List Event):Prop:=∀ x∈l,(aft c s x).2=0/\(aft c s x).1∈S
theorem zrow_cl {c:Control} {most i:Nat} {s:State} {p:Bool}:∀ (l:List Event) (z:Zt) {r:Zt},zrow c most i s l z=.inr r->r.B=z.B ++ bgr c s l/\Clo c p (zS r) s l/\∃ X,zS r=zS z ++ X
 | [],z,r,h=>by
  obtain rfl:=Sum.inr.inj h;exact ⟨by simp [bgr],fun x hx=>by simp at hx,[],by simp⟩
 | x :: l,z,r,h=>by
  unfold zrow at h;split at h
  ·rename_i h0;split at h
   ·cases h
   ·obtain ⟨a1,a2,X,a3⟩:=zrow_cl l _ h (p:=p);rw [zS_step] at a3;have hin:(aft c s x).1∈zS r:=by
     rw [a3];by_cases hp:plc (zS z) (aft c s x).1 < 0
     ·rw [if_pos hp];simp
     ·obtain ⟨j,hj,_,hj2⟩:=plc_range hp;obtain ⟨g1,g2,_⟩:=List.findIdx?_eq_some_iff_getElem.1 hj2;rw [if_neg hp,List.mem_append];left;rw [sst_iff.1 g2];exact List.getElem_mem g1
    refine ⟨by rw [a1,zstep_B];simp [bgr],fun y hy=>?_,?_⟩
    ·rcases List.mem_cons.1 hy with rfl | hy
     ·exact ⟨h0,hin⟩
     ·exact a2 y hy
    ·split at a3
     ·exact ⟨_,by rw [a3,List.append_assoc]⟩
     ·exact ⟨_,a3⟩
  ·cases h
theorem zall_cl {c:Control} {most:Nat} {p:Bool}:∀ (n i:Nat) (z:Zt) (M:List (List Int)) {r:Zt×List (List Int)},i<=z.N.length->z.B=bgi c p ((zS z).take i)->(∀ s∈(zS z).take i,Clo c p (zS z) s (tld p s))->zall c most p n i z M=.inr r ->
  r.1.B=bgi c p (zS r.1)/\(∀ s∈zS r.1,Clo c p (zS r.1) s (tld p s))/\∃ X,zS r.1=zS z ++ X
 | 0,i,z,M,r,_,_,_,h=>by cases h
 | n + 1,i,z,M,r,hi,hB,hC,h=>by
  unfold zall at h;split at h
  ·rename_i hy;obtain rfl:=Sum.inr.inj h;have h1:=List.getElem?_eq_none_iff.1 hy;have ht:(zS z).take i=zS z:=List.take_of_length_le (by rw [zS_len];omega);rw [ht] at hB hC;exact ⟨hB,hC,[],by simp⟩
  ·rename_i y hy;split at h
   ·cases h
   ·rename_i r1 hx;obtain ⟨a1,a2,X,a3⟩:=zrow_cl _ _ hx (p:=p);have hl:=(List.getElem?_eq_some_iff.1 hy).1;have hS:(zS z)[i]?=some y.state:=by unfold zS;rw [List.getElem?_map,hy];rfl
    have a3:zS r1=zS z ++ X:=a3;have ht:(zS r1).take (i + 1)=(zS z).take i ++ [y.state]:=by
     rw [a3,List.take_append_of_le_length (by rw [zS_len];omega),List.take_add_one,hS];rfl
    have hlen:z.N.length<=r1.N.length:=by
     have:=congrArg List.length a3;rw [List.length_append,zS_len,zS_len] at this;omega
    obtain ⟨b1,b2,X2,b3⟩:=zall_cl n (i + 1) r1 _ (by omega) (by
     rw [ht,a1];show z.B ++ _=_;rw [hB];unfold bgi;simp) (fun s hs=>by
     rw [ht] at hs;rcases List.mem_append.1 hs with hs | hs
     ·intro x hx2;have:=hC s hs x hx2;exact ⟨this.1,by rw [a3];exact List.mem_append_left _ this.2⟩
     ·obtain rfl:s=_:=by simpa using hs
      exact a2) h
    exact ⟨b1,b2,X ++ X2,by rw [b3,a3,List.append_assoc]⟩
theorem zall_zi {c:Control} {most:Nat} {p:Bool}:∀ (n i:Nat) (z:Zt) (M:List (List Int)) {r:Zt×List (List Int)},Zi c most z->zall c most p n i z M=.inr r->Zi c most r.1
 | 0,i,z,M,r,_,h=>by cases h
 | n + 1,i,z,M,r,hZ,h=>by
  unfold zall at h;split at h
  ·obtain rfl:=Sum.inr.inj h;exact hZ
  ·rename_i y hy;split at h
   ·cases h
   ·rename_i r1 hx;have hfit:Fit c y.state:=(hZ.al _ (List.mem_map.2 ⟨_,List.mem_of_getElem? hy,rfl⟩)).1;exact zall_zi n (i + 1) r1 _ (zrow_ok hfit _ { z with mv:=[] } ⟨hZ.al,hZ.le,hZ.fs,hZ.par⟩ ⟨y,hy,rfl⟩ hx).1 h
structure Sr (c:Control) (s:State) (p:Bool) (most:Nat) (r:Zt×List (List Int)):Prop where
 eq:srF c s p most=.inr r
 zi:Zi c most r.1
 bg:r.1.B=bgi c p (zS r.1)
 cl:∀ t∈zS r.1,Clo c p (zS r.1) t (tld p t)
 hd:(zS r.1)[0]?=some s
theorem Sr.of {c:Control} {s:State} {p:Bool} {most:Nat} {r:Zt×List (List Int)} (hf:Fit c s) (hq:Qt c s) (hm:1<=most) (h:srF c s p most=.inr r):Sr c s p most r:=by
 have hz:=z0t_ok hf hq hm;obtain ⟨h1,h2,X,h3⟩:=zall_cl FF 0 (z0t s) [] (by simp [z0t]) rfl (by simp) h;exact ⟨h,zall_zi FF 0 _ _ hz h,h1,h2,by rw [h3];rfl⟩
theorem Sr.sp {c:Control} {s:State} {most:Nat} {r:Zt×List (List Int)} (hm:most<=120) (h:Sr c s false most r):Sp_ c s ⟨zS r.1,r.2⟩:=by
 have hx:=zall_x FF 0 (z0t s) [] (c:=c) (most:=most);rw [show zall c most false FF 0 (z0t s) []=.inr r from h.eq] at hx;refine ⟨h.zi.al,?_,xall_fd FF 0 _ [] ⟨rfl,by simp [zS,z0t],rfl,?_,fun j s mv hj=>by omega,fun k h1 h2=>by simp [zS,z0t] at h2;omega⟩ hx⟩
 ·have:=h.zi.le;show (zS r.1).length<=120;rw [zS_len];omega
 ·intro i j t hi hj;have h1:=(List.getElem?_eq_some_iff.1 hi).1;have h2:=(List.getElem?_eq_some_iff.1 hj).1;simp [zS,z0t] at h1 h2;omega
theorem m101_spec {c:Control} {s:State} (hc:Rc c) (hf:Fit c s) (hq:Qt c s) (p:Bool) {most:Int} (h1:1<=most) (h2:most<=16384) :
  m101 FF c s p most=match srF c s p most.toNat with | .inl e=>some ([],e) | .inr r=>some (r.1.F,0):=by
 unfold m101;rw [m95_spec hc hf hq,ob_,zf,cf_,df_ (by omega),df_ (by omega),Bool.or_false,cf_];have h:=m174_spec hc.rt hf hq (most:=most.toNat) (by omega) (by omega) p;rw [show ((most.toNat:Nat):Int)=most by omega] at h;rw [h];cases srF c s p most.toNat <;> rfl
theorem m101_few {c:Control} {s:State} (hc:Rc c) (hf:Fit c s) (hq:Qt c s) (p:Bool) {most:Int} (h1:most < 1\/16384 < most):m101 FF c s p most=some ([],2):=by
 unfold m101;rw [m95_spec hc hf hq,ob_,zf,cf_];rcases h1 with h1 | h1
 ·rw [dt_ h1,Bool.true_or,ct_]
 ·rw [dt_ (show most > 16384 from h1),Bool.or_true,ct_]
theorem m101_err {c:Control} {s:State} {e:Int} (he:(e != 0)=true) (h:m95 FF c s=some ([],e)) (p:Bool) (most:Int):m101 FF c s p most=some ([],e):=by
 unfold m101;rw [h,ob_];dsimp only;rw [he,ct_]
theorem srchX {α β:Type} {L:Nat->Int->Option (Lo Int β)} {xs:List α} {q:α->Bool} {r:Nat->α->β}
  (h:∀ (n i:Nat) x,xs[i]?=some x->L (n + 1) (i:Int)=bif q x then some (.ret (r i x)) else L n ((i + 1:Nat):Int)) (h':∀ n:Nat,L (n + 1) (xs.length:Int)=some (.brk (xs.length:Int))) :
  ∀ (n i:Nat),i<=xs.length->xs.length - i < n->(∀ k y,k < i->xs[k]?=some y->q y=false) ->
   (∃ j x,xs.findIdx? q=some j/\xs[j]?=some x/\q x=true/\L n (i:Int)=some (.ret (r j x)))\/(xs.findIdx? q=none/\L n (i:Int)=some (.brk (xs.length:Int)))
 | 0,i,_,h1,_=>by omega
 | n + 1,i,h1,h2,h3=>by
  by_cases hi:i < xs.length
  ·have hx:xs[i]?=some xs[i]:=gE_ hi;rw [h n i _ hx];cases hq:q xs[i] with
   | true=>
    refine .inl ⟨i,xs[i],List.findIdx?_eq_some_iff_getElem.2 ⟨hi,hq,fun j hj=>?_⟩,hx,hq,rfl⟩;rw [h3 j _ hj (gE_ (by omega))];simp
   | false=>
    rw [cf_];exact srchX h h' n (i + 1) (by omega) (by omega) fun k y hk hy=>by
     by_cases hki:k=i
     ·subst hki;rw [hx] at hy;cases hy;exact hq
     ·exact h3 k y (by omega) hy
  ·obtain rfl:i=xs.length:=by omega
   refine .inr ⟨?_,h' n⟩;rw [List.findIdx?_eq_none_iff];intro y hy;obtain ⟨k,hk⟩:=List.getElem?_of_mem hy;exact h3 k y (List.getElem?_eq_some_iff.1 hk).1 hk
theorem m63_l1_spec {c:Control} (hb:Bd_ c) {F:List Found} (hF:∀ f∈F,Fit c f.State) (hl:F.length<=20000) (e:Int) :
  (∃ j f,F.findIdx? (fun f=>Sd f.State)=some j/\F[j]?=some f/\Sd f.State=true/\m63_l1 FF (F,e) FF 0=some (.ret (f.Run,true,0)))\/(F.findIdx? (fun f=>Sd f.State)=none/\m63_l1 FF (F,e) FF 0=some (.brk (F.length:Int))):=by
 have h:=srchX (L:=m63_l1 FF (F,e)) (xs:=F) (q:=fun f=>Sd f.State) (r:=fun _ f=>(f.Run,true,0)) (fun n i x hx=>by
  have hi:=(List.getElem?_eq_some_iff.1 hx).1;rw [m63_l1];simp only [lt_dec,dt_ hi,ct_,idx_nat,hx,ob_,m96_spec hb (hF _ (List.mem_of_getElem? hx))];rw [wr_nat (by omega)]) (fun n=>by
  rw [m63_l1];simp only [lt_dec,df_ (Nat.lt_irrefl _),cf_]) FF 0 (by omega) (by unfold FF;omega) (fun k y hk=>by omega)
 rw [n0] at h;exact h
def stF (F:List Found):List State:=(F.filter fun f=>Sd f.State).map (·.State)
theorem stF_take {F:List Found} {i:Nat} (h:i < F.length):stF (F.take (i + 1))=stF (F.take i) ++ (if Sd F[i].State=true then [F[i].State] else []):=by
 unfold stF;rw [List.take_add_one,gE_ h,List.filter_append,List.map_append];congr 1;by_cases hs:Sd F[i].State=true
 ·rw [if_pos hs];simp [hs]
 ·rw [if_neg hs];simp [hs]
theorem stF_len {F:List Found}:(stF F).length<=F.length:=by unfold stF;rw [List.length_map];exact List.length_filter_le ..
theorem m65_l1_spec {c:Control} (hb:Bd_ c) {F:List Found} (hF:∀ f∈F,Fit c f.State) (hl:F.length<=20000) (e:Int):∃ q,m65_l1 FF (F,e) FF (0,[])=some (q,stF F):=by
 obtain ⟨v,hv,h⟩:=forI (L:=m65_l1 FF (F,e)) (mk:=fun i (v:List State)=>((i:Int),v)) (N:=F.length) (I:=fun i v=>v=stF (F.take i)) (fun n i v hi hI=>by
  subst hI;refine ⟨_,rfl,?_⟩;have hx:F[i]?=some F[i]:=gE_ hi;have h1:=stF_len (F:=F.take i);rw [List.length_take] at h1;rw [m65_l1];simp only [lt_dec,dt_ hi,ct_,idx_nat,hx,ob_,m96_spec hb (hF _ (List.getElem_mem hi))];rw [wr_nat (by omega),stF_take hi];cases Sd F[i].State with
  | true=>rw [ct_,app_ok (by simp;omega),if_pos rfl];rfl
  | false=>rw [cf_,if_neg (by simp),List.append_nil];rfl) (fun n v _=>by
  rw [m65_l1];simp only [lt_dec,df_ (Nat.lt_irrefl _),cf_]) FF 0 [] (by omega) (by unfold FF;omega) rfl
 try dsimp only at h
 rw [n0] at h;rw [h,hv,List.take_length];exact ⟨_,rfl⟩
theorem eqq120_eq {a b:Stroke}:eqq120 a b=true↔a=b:=by
 cases a;cases b
 simp [eqq120]
instance:DecidableEq Stroke:=fun _ _=>decidable_of_iff _ eqq120_eq
def nv1 (B:List Stroke) (a:Nat) (w:Bool):List Stroke:=if (⟨(a:Int),w⟩:Stroke)∈B then [] else [⟨(a:Int),w⟩]
def nvF (n:Nat) (B:List Stroke):List Stroke:=(List.range n).flatMap fun a=>nv1 B a false ++ nv1 B a true
theorem nvF_succ {n:Nat} {B:List Stroke}:nvF (n + 1) B=nvF n B ++ (nv1 B n false ++ nv1 B n true):=by unfold nvF;rw [List.range_succ];simp
theorem nv1_len {B:List Stroke} {a:Nat} {w:Bool}:(nv1 B a w).length<=1:=by unfold nv1; split <;> simp
theorem nvF_len {n:Nat} {B:List Stroke}:(nvF n B).length<=2 * n:=by
 induction n with
 | zero=>simp [nvF]
 | succ n ih=>
  have h1:=nv1_len (B:=B) (a:=n) (w:=false);have h2:=nv1_len (B:=B) (a:=n) (w:=true);rw [nvF_succ,List.length_append,List.length_append];omega
theorem frs_len {s t:State}:(frs s t).length<=s.Ends.length:=fmr_len
end Go.Pn
namespace Go.Pn
open Go
theorem idx_gd {G:List Int} {i:Nat} (h:i < G.length):idx G (i:Int)=some (G.getD i 0):=by
 rw [idx_nat,List.getD_eq_getElem?_getD,gE_ h];rfl
theorem M_ok {c:Control} (hc:Rt c) {S:List State} {M:List (List Int)} {s0:State} (hS:Sp_ c s0 ⟨S,M⟩):∀ l∈M,∀ k∈l,0<=k/\k < M.length:=fun l hl k hk=>by
 have h1:=(hS.rows hc.bd l hl).2 k hk;have hml:M.length=S.length:=hS.fd.ml;dsimp only at h1;omega
end Go.Pn
namespace Go.Pn
open Go
def txt (s:State):List UInt8:=nb s.Ends ++ nb s.Timers ++ fb s.Valves ++ fb s.Inputs ++ fb s.Values
theorem m170_l2_spec {l:List Int} (hl:l.length<=1000) (h:∀ a∈l,0<=a/\a < 10) (b:ByteArray) (hb:b.size<=100000):∃ q r,m170_l2 FF l FF (0,b)=some (q,r)/\r.data.toList=b.data.toList ++ nb l:=by
 obtain ⟨v,hv,hh⟩:=forI (L:=m170_l2 FF l) (mk:=fun i (v:ByteArray)=>((i:Int),v)) (N:=l.length) (I:=fun i v=>v.data.toList=b.data.toList ++ nb (l.take i)) (fun n i v hi hI=>by
  have hb':=h l[i] (List.getElem_mem hi);have hsz:v.size=b.size + 2 * i:=by rw [size_len,hI,List.length_append,nb_len,List.length_take,← size_len];omega
  have hxs:(⟨#[UInt8.ofNat (48 + (l[i]).toNat)]⟩:ByteArray).size=1:=rfl;rw [m170_l2];dsimp only;rw [lt_dec,dt_ hi,ct_,idx_nat,gE_ hi,ob_,m161_spec hb'.1 hb'.2,ob_];unfold m160 m162;rw [if_pos (by omega),ob_];have hs2:(v ++ (⟨#[UInt8.ofNat (48 + (l[i]).toNat)]⟩:ByteArray)).size=b.size + 2 * i + 1:=by
   rw [size_len,ba_app,List.length_append,← size_len,hsz];rfl
  rw [if_pos (by omega),ob_,wr_nat (by omega)];refine ⟨_,?_,rfl⟩;rw [ba_push,ba_app,hI,List.take_add_one,gE_ hi];unfold nb;rw [List.flatMap_append];simp) (fun n v _=>by
  rw [m170_l2];dsimp only;rw [lt_dec,df_ (Nat.lt_irrefl _),cf_]) FF 0 b (by omega) (by unfold FF;omega) (by simp [nb])
 try dsimp only at hh
 rw [n0] at hh;rw [List.take_length] at hv;exact ⟨_,v,hh,hv⟩
theorem m170_l4_spec {l:List Bool} (hl:l.length<=1000) (b:ByteArray) (hb:b.size<=100000):∃ q r,m170_l4 FF l FF (0,b)=some (q,r)/\r.data.toList=b.data.toList ++ fb l:=by
 obtain ⟨v,hv,hh⟩:=forI (L:=m170_l4 FF l) (mk:=fun i (v:ByteArray)=>((i:Int),v)) (N:=l.length) (I:=fun i v=>v.data.toList=b.data.toList ++ fb (l.take i)) (fun n i v hi hI=>by
  have hsz:v.size=b.size + i:=by rw [size_len,hI,List.length_append,← size_len];unfold fb;rw [List.length_map,List.length_take];omega
  have key:∃ r:ByteArray,((m165 FF l[i]).bind fun x5=>ssl x5 0 (1:Int))=some r/\r.data.toList=[if l[i]=true then 116 else 102]:=by
   cases l[i]
   ·exact ⟨⟨#[102]⟩,by kernel_rfl,rfl⟩
   ·exact ⟨⟨#[116]⟩,by kernel_rfl,rfl⟩
  obtain ⟨r,hr,hr2⟩:=key;obtain ⟨x5,h5,h6⟩:=Option.bind_eq_some_iff.1 hr;have hrs:r.size=1:=by rw [size_len,hr2];rfl
  rw [m170_l4];dsimp only;rw [lt_dec,dt_ hi,ct_,idx_nat,gE_ hi,ob_,h5,ob_,h6,ob_];unfold m160;rw [if_pos (by omega),ob_,wr_nat (by omega)];refine ⟨_,?_,rfl⟩;rw [ba_app,hI,hr2,List.take_add_one,gE_ hi];unfold fb;rw [List.map_append];simp) (fun n v _=>by
  rw [m170_l4];dsimp only;rw [lt_dec,df_ (Nat.lt_irrefl _),cf_]) FF 0 b (by omega) (by unfold FF;omega) (by simp [fb])
 try dsimp only at hh
 rw [n0] at hh;rw [List.take_length] at hv;exact ⟨_,v,hh,hv⟩
theorem fb_len {l:List Bool}:(fb l).length=l.length:=by unfold fb;simp
theorem m170_spec {c:Control} {s:State} (hb:Bd_ c) (h:Fit c s):∃ k,m170 FF s=some k/\k.data.toList=txt s:=by
 have hs:=h.sm hb;have l1:=hs.e;have l2:=hs.t;have l3:=hs.v;have l4:=hs.i;have l5:=hs.x;have z:ByteArray.empty.size=0:=rfl;have sz:∀ {r:ByteArray} {l:List UInt8},r.data.toList=l->r.size=l.length:=fun h=>by rw [size_len,h]
 obtain ⟨q1,r1,e1,d1⟩:=m170_l2_spec l1 (fun a ha=>by have:=h.ee a ha;omega) ByteArray.empty (by omega);have d1:r1.data.toList=nb s.Ends:=by rw [d1];rfl
 have s1:=sz d1;rw [nb_len] at s1;obtain ⟨q2,r2,e2,d2⟩:=m170_l2_spec l2 (fun a ha=>by have:=h.tt a ha;omega) r1 (by omega);rw [d1] at d2;have s2:=sz d2;rw [List.length_append,nb_len,nb_len] at s2;obtain ⟨q3,r3,e3,d3⟩:=m170_l4_spec l3 r2 (by omega);rw [d2] at d3;have s3:=sz d3;rw [List.length_append,List.length_append,nb_len,nb_len,fb_len] at s3;obtain ⟨q4,r4,e4,d4⟩:=m170_l4_spec l4 r3 (by omega);rw [d3] at d4;have s4:=sz d4;rw [List.length_append,List.length_append,List.length_append,nb_len,nb_len,fb_len,fb_len] at s4;obtain ⟨q5,r5,e5,d5⟩:=m170_l4_spec l5 r4 (by omega);rw [d4] at d5;have w1:∀ n,m170_l1 FF s (n + 3) (0,ByteArray.empty)=some (2,r2):=fun n=>by
  show ((m170_l2 FF s.Ends FF (0,ByteArray.empty)).bind fun o6s=>m170_l1 FF s (n + 2) (1,o6s.2))=_;rw [e1,ob_];show ((m170_l2 FF s.Timers FF (0,r1)).bind fun o6s=>m170_l1 FF s (n + 1) (2,o6s.2))=_;rw [e2];rfl
 have w2:∀ n,m170_l3 FF s (n + 4) (0,r2)=some (3,r5):=fun n=>by
  show ((m170_l4 FF s.Valves FF (0,r2)).bind fun o6s=>m170_l3 FF s (n + 3) (1,o6s.2))=_;rw [e3,ob_];show ((m170_l4 FF s.Inputs FF (0,r3)).bind fun o6s=>m170_l3 FF s (n + 2) (2,o6s.2))=_;rw [e4,ob_];show ((m170_l4 FF s.Values FF (0,r4)).bind fun o6s=>m170_l3 FF s (n + 1) (3,o6s.2))=_;rw [e5];rfl
 have w1:m170_l1 FF s FF (0,ByteArray.empty)=some (2,r2):=w1 99997;have w2:m170_l3 FF s FF (0,r2)=some (3,r5):=w2 99996;unfold m170;rw [w1,ob_,w2];exact ⟨r5,rfl,d5⟩
theorem txt_inj {c:Control} {s t:State} (hs:Fit c s) (ht:Fit c t) (h:txt s=txt t):s=t:=by
 unfold txt at h;have n1:(nb s.Ends).length=(nb t.Ends).length:=by rw [nb_len,nb_len,hs.e,ht.e]
 have n2:(nb s.Timers).length=(nb t.Timers).length:=by rw [nb_len,nb_len,hs.t,ht.t]
 have n3:(fb s.Valves).length=(fb t.Valves).length:=by rw [fb_len,fb_len,hs.v,ht.v]
 have n4:(fb s.Inputs).length=(fb t.Inputs).length:=by rw [fb_len,fb_len,hs.i,ht.i]
 obtain ⟨h,e5⟩:=List.append_inj h (by simp only [List.length_append];omega);obtain ⟨h,e4⟩:=List.append_inj h (by simp only [List.length_append];omega);obtain ⟨h,e3⟩:=List.append_inj h (by simp only [List.length_append];omega);obtain ⟨e1,e2⟩:=List.append_inj h (by omega);have e1:=nb_inj (fun a ha=>by have:=hs.ee a ha;omega) (fun a ha=>by have:=ht.ee a ha;omega) e1;have e2:=nb_inj (fun a ha=>by have:=hs.tt a ha;omega) (fun a ha=>by have:=ht.tt a ha;omega) e2;have e3:=fb_inj e3;have e4:=fb_inj e4;have e5:=fb_inj e5;cases s;cases t
 simp_all
def Kt (c:Control) (S:List State) (m:List (ByteArray×Int)):Prop:=∀ s,Fit c s->∀ k,m170 FF s=some k->mat eqqS m k=(S.findIdx? fun x=>sst s x).map fun (j:Nat)=>(j:Int)
theorem Kt.nil (c:Control):Kt c [] []:=fun s _ k _=>rfl
theorem Kt.put {c:Control} {S:List State} {m:List (ByteArray×Int)} {t:State} {k:ByteArray} (hb:Bd_ c) (h:Kt c S m) (ht:Fit c t) (hk:m170 FF t=some k) (hn:S.findIdx? (fun x=>sst t x)=none):Kt c (S ++ [t]) (mput eqqS m k (S.length:Int)):=by
 intro s hs j hj;rw [mat_putS,List.findIdx?_append];by_cases e:s=t
 ·subst e;rw [hk] at hj;obtain rfl:=Option.some.inj hj;rw [if_pos rfl,hn];simp [sst_refl]
 ·have hne:j≠k:=fun e2=>by
   subst e2;obtain ⟨a,ha,a1⟩:=m170_spec hb hs;obtain ⟨b,hb',b1⟩:=m170_spec hb ht;rw [hj] at ha;rw [hk] at hb';obtain rfl:=Option.some.inj ha;obtain rfl:=Option.some.inj hb';exact e (txt_inj hs ht (a1.symm.trans b1))
  have hst:sst s t=false:=by
   cases hx:sst s t with
   | false=>rfl
   | true=>exact absurd (sst_iff.1 hx) e
  rw [if_neg hne,h s hs j hj];cases S.findIdx? (fun x=>sst s x) with
  | some q=>rfl
  | none=>simp [hst]
def Bg (m:List (Stroke×Bool)) (B:List Stroke):Prop:=∀ y,(mat eqq120 m y).getD false=decide (y∈B)
theorem Bg.put {m:List (Stroke×Bool)} {B:List Stroke} (h:Bg m B) (y:Stroke):Bg (mput eqq120 m y true) (B ++ [y]):=by
 classical
 intro k;rw [mat_putG (fun a b=>eqq120_eq)];by_cases e:k=y
 ·subst e;rw [if_pos (eqq120_eq.2 rfl)];simp
 ·rw [if_neg (fun h=>e (eqq120_eq.1 h)),h k];simp [e]
theorem m172_l2_spec (l:List Stroke) (e:Int) (hl:l.length<=1000) {m:List (Stroke×Bool)} {B:List Stroke} (h:Bg m B):∃ q m',m172_1_l2 (l,e) FF (0,m)=some (q,m')/\Bg m' (B ++ l):=by
 obtain ⟨v,hv,hh⟩:=forI (L:=m172_1_l2 (l,e)) (mk:=fun i (v:List (Stroke×Bool))=>((i:Int),v)) (N:=l.length) (I:=fun i v=>Bg v (B ++ l.take i)) (fun n i v hi hI=>by
  rw [m172_1_l2];simp only [lt_dec,dt_ hi,ct_,idx_nat,gE_ hi,ob_];rw [wr_nat (by omega)];refine ⟨_,?_,rfl⟩;rw [List.take_add_one,gE_ hi,← List.append_assoc];exact hI.put _) (fun n v _=>by
  rw [m172_1_l2];simp only [lt_dec,df_ (Nat.lt_irrefl _),cf_]) FF 0 m (by omega) (by unfold FF;omega) (by simpa using h)
 try dsimp only at hh
 rw [n0] at hh;rw [List.take_length] at hv;exact ⟨_,v,hh,hv⟩
theorem m234_spec {c:Control} {s:State} (hc:Rc c) (hf:Fit c s) (hq:Qt c s) (p:Bool) (a b:Int) (N:List Node) (m:List (ByteArray×Int)) (M:List (List Int)) (g:List (Stroke×Bool)) :
  m234_1 FF s c.Actuators p a b c.Inputs c.Signals c.Plus c.Minus N m M g=some (tld p s,0):=by
 have hb:=hc.rt.bd;have h1:=pend_len (hf.sm hb);have h2:=(hf.sm hb).i;unfold m234_1;rw [show (⟨c.Actuators,c.Inputs,c.Signals,c.Plus,c.Minus⟩:Control)=c from rfl,m45_spec hc hf hq,ob_];dsimp only;rw [zf,Bool.false_or];cases p with
 | false=>rw [tld_false];rfl
 | true=>
  rw [Bool.not_true,cf_];obtain ⟨v,hv,hl⟩:=forI (L:=m234_1_l1 s) (mk:=fun i (v:List Event)=>((i:Int),v)) (N:=s.Inputs.length) (I:=fun i v=>v=pend s ++ (List.range i).map (prs s)) (fun n i v hi hI=>by
   subst hI;refine ⟨_,rfl,?_⟩;have hp:prs s i=⟨2,(i:Int),!s.Inputs[i]⟩:=by
    unfold prs;rw [List.getD_eq_getElem?_getD,gE_ hi];rfl
   rw [m234_1_l1];dsimp only;rw [lt_dec,dt_ hi,ct_,idx_nat,gE_ hi,ob_,← hp,app_ok (by simp;omega),ob_,wr_nat (by omega),List.range_succ,List.map_append,← List.append_assoc];rfl) (fun n v _=>by
   rw [m234_1_l1];dsimp only;rw [lt_dec,df_ (Nat.lt_irrefl _),cf_]) FF 0 (pend s) (by omega) (by unfold FF;omega) (by simp)
  subst hv;try dsimp only at hl
  rw [n0] at hl;rw [hl];unfold tld;rw [if_pos rfl];rfl
theorem m172_l1_spec {c:Control} (hc:Rc c) {most:Nat} (hmo:most<=16384) {y:Node} (hf:Fit c y.state) (hq:Qt c y.state) (i0:Nat) (M:List (List Int)) (l:List Event) (hl:l.length<=3000) (w:Int) :
  ∀ (k n j:Nat) (z:Zt) (m:List (ByteArray×Int)) (g:List (Stroke×Bool)),j + k=l.length->k < n->Zi c most z->z.N[i0]?=some y->z.mv.length<=j->Kt c (zS z) m->Bg g z.B ->
   match zrow c most i0 y.state (l.drop j) z with
   | .inl e=>∃ q,m172_1_l1 FF (i0:Int) c.Actuators (most:Int) c.Inputs c.Signals c.Plus c.Minus M y (l,w) n ((j:Int),z.N,m,g,z.mv)=some (.ret (e,q))
   | .inr r=>∃ q m' g',m172_1_l1 FF (i0:Int) c.Actuators (most:Int) c.Inputs c.Signals c.Plus c.Minus M y (l,w) n ((j:Int),z.N,m,g,z.mv)=some (.brk (q,r.N,m',g',r.mv))/\Kt c (zS r) m'/\Bg g' r.B
 | _,0,_,_,_,_,_,h,_,_,_,_,_=>by omega
 | 0,n + 1,j,z,m,g,h1,_,_,_,_,hK,hG=>by
  obtain rfl:j=l.length:=by omega
  rw [List.drop_length];unfold zrow m172_1_l1;dsimp only;rw [lt_dec,df_ (Nat.lt_irrefl _),cf_];exact ⟨_,m,g,rfl,hK,hG⟩
 | k + 1,n + 1,j,z,m,g,h1,h2,hZ,hy,hmv,hK,hG=>by
  have hb:=hc.rt.bd;have hj:j < l.length:=by omega
  have hle:=hZ.le;have hi0:=(List.getElem?_eq_some_iff.1 hy).1;have g5:=hb.a';have g4:=hf.e;rw [List.drop_eq_getElem_cons hj];unfold zrow m172_1_l1;dsimp only;obtain ⟨q,e1⟩:=m46_spec (x:=l[j]) hc hf hq;rw [show (⟨c.Actuators,c.Inputs,c.Signals,c.Plus,c.Minus⟩:Control)=c from rfl,lt_dec,dt_ hj,ct_,idx_nat,gE_ hj,ob_,e1,ob_];dsimp only;by_cases h0:(aft c y.state l[j]).2=0
  ·have hfa:=aft_ok hf h0;have b2:=frs_len (s:=y.state) (t:=(aft c y.state l[j]).1);obtain ⟨q2,g',e2,hG'⟩:=m172_l2_spec (frs y.state (aft c y.state l[j]).1) 0 (by omega) hG;obtain ⟨t,et,_⟩:=m170_spec hb hfa.1;have hmt:=hK _ hfa.1 t et;rw [if_pos h0,h0,zf,cf_,m235_spec hb hf hfa.1,ob_];dsimp only;rw [zf,cf_,e2,ob_,et,ob_,hmt];by_cases hp:plc (zS z) (aft c y.state l[j]).1 < 0
   ·have hn:=plc_neg hp;rw [hn];simp only [Option.map_none,Option.isSome_none,Bool.not_false,ct_,ob_,app_ok (show z.N.length + [(⟨(aft c y.state l[j]).1,(i0:Int),l[j]⟩:Node)].length<=1073741824 by simp;omega)];rw [app_ok (by simp;omega),ob_];by_cases hM:z.N.length=most
    ·rw [if_pos ⟨hp,hM⟩,dt_ (by simp;omega),ct_];exact ⟨_,rfl⟩
    ·have hm:¬ (plc (zS z) (aft c y.state l[j]).1 < 0/\z.N.length=most):=fun h=>hM h.2;rw [if_neg hm,df_ (by simp;omega),cf_,wr_nat (by omega)];obtain ⟨h3,⟨X,hX⟩,_⟩:=hZ.step hf ⟨y,hy,rfl⟩ h0 hm;have hK':=hK.put hb hfa.1 et hn;have ih:=m172_l1_spec hc hmo hf hq i0 M l hl w k n (j + 1) (zstep i0 y.state (aft c y.state l[j]).1 l[j] z) (mput eqqS m t ((zS z).length:Int)) g' (by omega) (by omega) h3 (by rw [hX,List.getElem?_append_left hi0];exact hy) (by rw [zstep_mv];simp;omega) (by rw [zS_step,if_pos hp];exact hK') (by rw [zstep_B];exact hG');have eN:(zstep i0 y.state (aft c y.state l[j]).1 l[j] z).N=z.N ++ [⟨(aft c y.state l[j]).1,(i0:Int),l[j]⟩]:=by unfold zstep;rw [if_pos hp]
     rw [eN,zstep_mv,if_pos hp,zS_len] at ih;exact ih
   ·obtain ⟨k',hk1,hk2,hk3⟩:=plc_range hp;have hm:¬ (plc (zS z) (aft c y.state l[j]).1 < 0/\z.N.length=most):=fun h=>hp h.1;rw [hk3];simp only [Option.map_some,Option.isSome_some,Bool.not_true,cf_,Option.getD_some,ob_];rw [app_ok (by simp;omega),ob_,if_neg hm,df_ (by omega),cf_,wr_nat (by omega)];obtain ⟨h3,⟨X,hX⟩,_⟩:=hZ.step hf ⟨y,hy,rfl⟩ h0 hm;have ih:=m172_l1_spec hc hmo hf hq i0 M l hl w k n (j + 1) (zstep i0 y.state (aft c y.state l[j]).1 l[j] z) m g' (by omega) (by omega) h3 (by rw [hX,List.getElem?_append_left hi0];exact hy) (by rw [zstep_mv];simp;omega) (by rw [zS_step,if_neg hp];exact hK) (by rw [zstep_B];exact hG');have eN:(zstep i0 y.state (aft c y.state l[j]).1 l[j] z).N=z.N:=by unfold zstep;rw [if_neg hp]
    rw [eN,zstep_mv,if_neg hp,hk2] at ih;exact ih
  ·rw [if_neg h0,show ((aft c y.state l[j]).2 != 0)=true by simpa using h0,ct_];exact ⟨_,rfl⟩
theorem m172_spec {c:Control} (hc:Rc c) {most:Nat} (hmo:most<=16384) (p:Bool) {i:Nat} {z:Zt} {y:Node} (hZ:Zi c most z) (hy:z.N[i]?=some y) {m:List (ByteArray×Int)} {g:List (Stroke×Bool)} (hK:Kt c (zS z) m) (hG:Bg g z.B) (M:List (List Int)) (hM:M.length<=20000) (e:Int) :
  match zrow c most i y.state (tld p y.state) { z with mv:=[] } with
  | .inl e'=>∃ q,m172_1 FF (i:Int) c.Actuators p (most:Int) e c.Inputs c.Signals c.Plus c.Minus z.N m M g=some (e',q)
  | .inr r=>∃ m' g',m172_1 FF (i:Int) c.Actuators p (most:Int) e c.Inputs c.Signals c.Plus c.Minus z.N m M g=some (0,r.N,m',M ++ [r.mv],g')/\Kt c (zS r) m'/\Bg g' r.B:=by
 have hb:=hc.rt.bd;obtain ⟨hf,hq⟩:=hZ.al _ (List.mem_map.2 ⟨_,List.mem_of_getElem? hy,rfl⟩);have htl:=tld_len (p:=p) (hf.sm hb);have h:=m172_l1_spec hc hmo hf hq i M (tld p y.state) htl 0 _ FF 0 { z with mv:=[] } m g (Nat.zero_add _) (by unfold FF;omega) ⟨hZ.al,hZ.le,hZ.fs,hZ.par⟩ hy (by simp) hK hG;rw [n0,List.drop_zero] at h;unfold m172_1;rw [idx_nat,hy,ob_,m234_spec hc hf hq,ob_];dsimp only at h ⊢;rw [zf,cf_];cases hx:zrow c most i y.state (tld p y.state) { z with mv:=[] } with
 | inl e'=>
  rw [hx] at h;obtain ⟨q,h⟩:=h;dsimp only;rw [h];exact ⟨_,rfl⟩
 | inr r=>
  rw [hx] at h;obtain ⟨q,m',g',h,h1,h2⟩:=h;dsimp only;rw [h,ob_];dsimp only;rw [app_ok (by simp;omega)];exact ⟨m',g',rfl,h1,h2⟩
theorem m233_spec {c:Control} (hc:Rc c) {most:Nat} (hmo:most<=16384) (p:Bool):∀ (n i:Nat) (z:Zt) (M:List (List Int)) (m:List (ByteArray×Int)) (g:List (Stroke×Bool)),Zi c most z->i<=z.N.length->most < n + i->M.length=i->Kt c (zS z) m->Bg g z.B ->
  match zall c most p n i z M with
  | .inl e=>∃ q w,m233_l1 (m98_r1 FF c p (most:Int)) (fun s=>((s.1.2.1).length:Int)) (fun s=>s.1.1) n ((i:Int),((0,z.N,m,M,g),0))=some (.brk (q,((e,w),0)))
  | .inr r=>∃ q m' g',m233_l1 (m98_r1 FF c p (most:Int)) (fun s=>((s.1.2.1).length:Int)) (fun s=>s.1.1) n ((i:Int),((0,z.N,m,M,g),0))=some (.brk (q,((0,r.1.N,m',r.2,g'),0)))/\Bg g' r.1.B
 | 0,i,z,M,m,g,hZ,h2,h3,_,_,_=>by have:=hZ.le;omega
 | n + 1,i,z,M,m,g,hZ,h2,h3,hM,hK,hG=>by
  have hle:=hZ.le;unfold zall;rw [m233_l1];dsimp only;by_cases hi:i < z.N.length
  ·have hy:z.N[i]?=some z.N[i]:=gE_ hi;have hfit:Fit c z.N[i].state:=(hZ.al _ (List.mem_map.2 ⟨_,List.getElem_mem hi,rfl⟩)).1;have h:=m172_spec hc hmo p hZ hy hK hG M (by omega) 0;rw [hy,lt_dec,dt_ hi,show ((0:Int) == 0)=true from rfl,Bool.and_true,ct_,m98_r1];dsimp only;cases hx:zrow c most i z.N[i].state (tld p z.N[i].state) { z with mv:=[] } with
   | inl e=>
    have hne:=zrow_ne _ _ hx;rw [hx] at h;obtain ⟨q,h⟩:=h;obtain ⟨n,rfl⟩:∃ n',n=n' + 1:=⟨n - 1,by omega⟩;dsimp only;rw [h,ob_,ob_];dsimp only;rw [Bool.not_true,cf_,m233_l1];dsimp only;rw [show (e == 0)=false by simpa using hne,Bool.and_false,cf_];exact ⟨_,_,rfl⟩
   | inr r=>
    rw [hx] at h;obtain ⟨m',g',h,hK',hG'⟩:=h;dsimp only;obtain ⟨a1,X,a2⟩:=zrow_ok hfit _ { z with mv:=[] } ⟨hZ.al,hZ.le,hZ.fs,hZ.par⟩ ⟨_,hy,rfl⟩ hx;rw [h,ob_,ob_];dsimp only;rw [Bool.not_true,cf_,wr_nat (by omega)];exact m233_spec hc hmo p n (i + 1) r _ m' g' a1 (by rw [a2];simp;omega) (by omega) (by simp [hM]) hK' hG'
  ·rw [List.getElem?_eq_none (by omega),lt_dec,df_ hi,Bool.false_and,cf_];exact ⟨_,m,g,rfl,hG⟩
theorem m98_spec {c:Control} {s:State} (hc:Rc c) (hf:Fit c s) (hq:Qt c s) (p:Bool) {most:Int} (h1:1<=most) (h2:most<=16384):match srF c s p most.toNat with
  | .inl e=>∃ w,m98 FF c s p most=some (.inr (e,w))/\e≠0
  | .inr r=>∃ m' g',m98 FF c s p most=some (.inr (0,c.Actuators,p,most,0,c.Inputs,c.Signals,c.Plus,c.Minus,r.1.N,m',r.2,g'))/\Bg g' r.1.B:=by
 have hb:=hc.rt.bd;have hmn:((most.toNat:Nat):Int)=most:=by omega
 obtain ⟨t,et,_⟩:=m170_spec hb hf;have hK:Kt c (zS (z0t s)) (mput eqqS [] t 0):=(Kt.nil c).put hb hf et rfl;have h:=m233_spec hc (most:=most.toNat) (by omega) p FF 0 (z0t s) [] (mput eqqS [] t 0) [] (z0t_ok hf hq (by omega)) (by simp [z0t]) (by unfold FF;omega) rfl hK (fun y=>by simp [z0t];rfl);rw [n0,hmn] at h;unfold srF m98;rw [m45_spec hc hf hq,ob_];dsimp only;rw [zf,cf_,df_ (by omega),df_ (by omega),Bool.or_false,cf_,et,ob_];unfold m171 m233;rw [ob_];cases hx:zall c most.toNat p FF 0 (z0t s) [] with
 | inl e=>
  rw [hx] at h;obtain ⟨q,w,h⟩:=h;dsimp only;rw [show ([(⟨s,(-1:Int),(⟨(0:Int),(0:Int),false⟩:Event)⟩:Node)]:List Node)=(z0t s).N from rfl,h];exact ⟨_,rfl,zall_ne _ _ _ _ hx⟩
 | inr r=>
  rw [hx] at h;obtain ⟨q,m',g',h,hG⟩:=h;dsimp only;rw [show ([(⟨s,(-1:Int),(⟨(0:Int),(0:Int),false⟩:Event)⟩:Node)]:List Node)=(z0t s).N from rfl,h];exact ⟨m',g',rfl,hG⟩
theorem m98_few {c:Control} {s:State} (hc:Rc c) (hf:Fit c s) (hq:Qt c s) (p:Bool) {most:Int} (h1:most < 1\/16384 < most):m98 FF c s p most=some (.inl 2):=by
 unfold m98;rw [m45_spec hc hf hq,ob_];dsimp only;rw [zf,cf_];rcases h1 with h1 | h1
 ·rw [dt_ h1,Bool.true_or,ct_]
 ·rw [dt_ (show most > 16384 from h1),Bool.or_true,ct_]
theorem m98_err {c:Control} {s:State} {e:Int} (he:(e != 0)=true) (h:m45 FF c s=some (e,[])) (p:Bool) (most:Int):m98 FF c s p most=some (.inl e):=by
 unfold m98;rw [h,ob_];dsimp only;rw [he,ct_]
end Go.Pn
namespace Go.Pn
open Go
theorem Lg.le {g:List (List Int)} {i d:Nat} (h:Lg g i d):d<=g.length:=by
 obtain ⟨b,hb⟩:=h.1;rcases Nat.lt_or_ge g.length d with h5 | h5
 ·exact absurd (hb.cyc h5) h.noCy
 ·exact h5
theorem m100_l1_spec {g:List (List Int)} (hg:∀ l∈g,∀ k∈l,0<=k/\k < g.length) (hgl:g.length<=120) (a2:Int) (a3:Bool) (a4 a5:Int) (a6:List ByteArray) (a7:List Signal) (a8 a9:List Int) (a10:List Node) (a11:List (ByteArray×Int)) (a13:List (Stroke×Bool)) {f i:Nat} (hL:∀ (F:List Int) (k:Nat),Fr_ g F->k < g.length->whites F + 200<=f->(∀ j,F.getD j 0=-2->∃ n,Wl g j k (n + 1)) ->
   ∃ b F',lookF g f F k=some (b,F')/\m100 f (k:Int) F a2 a3 a4 a5 a6 a7 a8 a9 a10 a11 g a13=some (b,F')) {l:List Int} (hl:∀ k∈l,0<=k/\k < g.length/\Eg g i k.toNat) (hll:l.length<=100) :
  ∀ (k n j:Nat) (F:List Int) (best:Int),j + k=l.length->k < n->Fr_ g F->whites F + 200<=f->(∀ j,F.getD j 0=-2->∃ n,Wl g j i n)->0<=best->best<=1000 ->
   ∃ o F',lpF g f (l.drop j) F best=some (o,F')/\∃ q,m100_l1 (m100 f) a2 a3 a4 a5 a6 a7 a8 a9 a10 a11 g a13 l n (best,(j:Int),F)=some (match o with | some r=>.brk (r,q,F') | none=>.ret (false,F'))
 | _,0,_,_,_,_,h,_,_,_,_,_=>by omega
 | 0,n + 1,j,F,best,h1,_,_,_,_,_,_=>by
  obtain rfl:j=l.length:=by omega
  refine ⟨some best,F,by rw [List.drop_length,lpF],(l.length:Int),?_⟩;rw [m100_l1];dsimp only;rw [lt_dec,df_ (Nat.lt_irrefl _),cf_]
 | k + 1,n + 1,j,F,best,h1,h2,hF,hw,hgr,hb0,hb1=>by
  have hj:j < l.length:=by omega
  have hm:=List.getElem_mem hj;obtain ⟨k0,k1,k2⟩:=hl _ hm;have hgr':∀ x,F.getD x 0=-2->∃ n,Wl g x (l[j]).toNat (n + 1):=fun x hx=>let ⟨n,hn⟩:=hgr x hx;⟨n,hn.snoc k2⟩
  obtain ⟨b,F1,e1,e2⟩:=hL F (l[j]).toNat hF (by omega) hw hgr';obtain ⟨b',F1',e1',f1,f2⟩:=lookF_spec hg f F (l[j]).toNat hF (by omega) (by omega) hgr';rw [e1] at e1';obtain ⟨rfl,rfl⟩:b=b'/\F1=F1':=by simpa using e1'
  rw [Int.toNat_of_nonneg k0] at e2;rw [List.drop_eq_getElem_cons hj,lpF,e1,m100_l1];dsimp only;rw [lt_dec,dt_ hj,ct_,idx_nat,gE_ hj,ob_,e2,ob_];cases b with
  | false=>exact ⟨none,F1,rfl,0,rfl⟩
  | true=>
   obtain ⟨t1,t2,d,t3,t4⟩:=f1 rfl;have hd:=t4.le;have hi1:idx F1 l[j]=some (F1.getD (l[j]).toNat 0):=by
    have:=idx_gd (G:=F1) (i:=(l[j]).toNat) (by rw [t2.len];omega)
    rwa [Int.toNat_of_nonneg k0] at this
   have hmx:(if F1.getD (l[j]).toNat 0 + 1 > best then F1.getD (l[j]).toNat 0 + 1 else best)=max best (F1.getD (l[j]).toNat 0 + 1):=by split <;> omega
   dsimp only;rw [Bool.not_true,cf_,hi1,ob_,wr_id (by omega) (by omega),hmx,wr_nat (by omega)];have hwt:=t1.whites;exact m100_l1_spec hg hgl a2 a3 a4 a5 a6 a7 a8 a9 a10 a11 a13 hL hl hll k n (j + 1) F1 _ (by omega) (by omega) t2 (by omega) (fun x hx=>hgr x (t1.gr x hx)) (by omega) (by omega)
theorem m100_spec {g:List (List Int)} (hg:∀ l∈g,∀ k∈l,0<=k/\k < g.length) (hrow:∀ l∈g,l.length<=100) (hgl:g.length<=120) (a2:Int) (a3:Bool) (a4 a5:Int) (a6:List ByteArray) (a7:List Signal) (a8 a9:List Int) (a10:List Node) (a11:List (ByteArray×Int)) (a13:List (Stroke×Bool)):∀ (f:Nat) (F:List Int) (i:Nat),Fr_ g F->i < g.length->whites F + 200<=f->(∀ j,F.getD j 0=-2->∃ n,Wl g j i (n + 1)) ->
   ∃ b F',lookF g f F i=some (b,F')/\m100 f (i:Int) F a2 a3 a4 a5 a6 a7 a8 a9 a10 a11 g a13=some (b,F')
 | 0,F,i,_,_,h,_=>by omega
 | f + 1,F,i,hF,hi,hw,hgr=>by
  have hiF:i < F.length:=by rw [hF.len];exact hi
  rw [lookF,m100,idx_gd hiF,ob_];by_cases h1:F.getD i 0=-1
  ·rw [if_pos h1,show (F.getD i 0 != -1)=false by simpa using h1,cf_,ob_];have hw2:=whites_set hiF h1 (v:=-2) (by decide);obtain ⟨l,hl⟩:∃ l,g[i]?=some l:=⟨_,gE_ hi⟩;have hlg:g.getD i []=l:=by simp [List.getD_eq_getElem?_getD,hl]
   have hlm:l∈g:=List.mem_of_getElem? hl;have hlr:=hrow l hlm;have hFr:Fr_ g (F.set i (-2)):=⟨by simp [hF.len],fun j hj=>by
     rw [getD_put hiF];split
     ·exact .inr (.inl rfl)
     ·exact hF.ok j (by simpa using hj)⟩
   have hll:∀ k∈l,0<=k/\k < g.length/\Eg g i k.toNat:=fun k hk=>⟨(hg l hlm k hk).1,(hg l hlm k hk).2,l,hl,by rw [Int.toNat_of_nonneg (hg l hlm k hk).1];exact hk⟩;have hgr2:∀ j,(F.set i (-2)).getD j 0=-2->∃ n,Wl g j i n:=fun j hj=>by
     rw [getD_put hiF] at hj;split at hj
     ·rename_i h;subst h;exact ⟨0,.nil⟩
     ·obtain ⟨n,hn⟩:=hgr j hj;exact ⟨n + 1,hn⟩
   obtain ⟨o,F1,e1,q,e2⟩:=m100_l1_spec hg hgl a2 a3 a4 a5 a6 a7 a8 a9 a10 a11 a13 (m100_spec hg hrow hgl a2 a3 a4 a5 a6 a7 a8 a9 a10 a11 a13 f) hll hlr l.length f 0 (F.set i (-2)) 0 (by omega) (by omega) hFr (by omega) hgr2 (Int.le_refl _) (by omega);obtain ⟨o',F1',e1',f1,_⟩:=lpF_spec (i:=i) (lookF_spec hg f) l (F.set i (-2)) 0 hFr hll (by omega) hgr2 (Int.le_refl _);rw [List.drop_zero] at e1;rw [e1] at e1';obtain ⟨rfl,rfl⟩:o=o'/\F1=F1':=by simpa using e1'
   rw [n0] at e2;rw [hlg,e1,idx_nat,hl,ob_,Int.toNat_natCast,e2,ob_];cases o with
   | none=>exact ⟨false,F1,rfl,rfl⟩
   | some r=>
    have hlen:=(f1 r rfl).2.1.len;refine ⟨true,F1.set i r,rfl,?_⟩;dsimp only;rw [idx_gd (by omega)];rfl
  ·rw [if_neg h1,show (F.getD i 0 != -1)=true by simpa using h1,ct_,ob_];exact ⟨_,F,rfl,rfl⟩
theorem fr_rep {g:List (List Int)}:Fr_ g (List.replicate g.length (-1))/\whites (List.replicate g.length (-1:Int))=g.length/\∀ j,(List.replicate g.length (-1:Int)).getD j 0≠-2:=by
 have hw:∀ n:Nat,(List.replicate n (-1:Int)).countP (·=-1)=n:=fun n=>by
  induction n with
  | zero=>rfl
  | succ n ih=>rw [List.replicate_succ,List.countP_cons,ih];simp
 refine ⟨⟨by simp,fun i hi=>?_⟩,hw _,fun j=>?_⟩
 ·left;have hi':i < g.length:=by simpa using hi
  simp only [List.getD_eq_getElem?_getD,List.getElem?_replicate,if_pos hi'];rfl
 ·simp only [List.getD_eq_getElem?_getD,List.getElem?_replicate];split <;> simp
theorem m37_spec {c:Control} {s:State} {most:Int} {r:Zt×List (List Int)} (hc:Rc c) (hf:Fit c s) (hq:Qt c s) (h1:1<=most) (h2:most<=40) (hr:Sr c s false most.toNat r) :
  (∃ d:Nat,Lg r.2 0 d/\m37 FF c s most=some ((d:Int),0))\/(Cy_ r.2 0/\m37 FF c s most=some (0,20)):=by
 have hS:=hr.sp (by omega);have hml:r.2.length=(zS r.1).length:=hS.fd.ml;have hle:(zS r.1).length<=120:=hS.le;have hp:0 < (zS r.1).length:=hS.pos;have h98:=m98_spec hc hf hq false h1 (by omega);rw [hr.eq] at h98;obtain ⟨m',g',h98,_⟩:=h98;obtain ⟨w1,w2,w3⟩:=fr_rep (g:=r.2);have hM:=M_ok hc.rt hS;obtain ⟨b,F',e1,e2⟩:=m100_spec hM (fun l hl=>by have:=(hS.rows hc.rt.bd l hl).1;omega) (by omega) c.Actuators false most 0 c.Inputs c.Signals c.Plus c.Minus r.1.N m' g' FF (List.replicate r.2.length (-1)) 0 w1 (by omega) (by rw [w2];unfold FF;omega) (fun j hj=>absurd hj (w3 j));obtain ⟨b',F'',e1',f1,f2⟩:=lookF_spec hM FF (List.replicate r.2.length (-1)) 0 w1 (by omega) (by rw [w2];unfold FF;omega) (fun j hj=>absurd hj (w3 j));rw [e1] at e1';obtain ⟨rfl,rfl⟩:b=b'/\F'=F'':=by simpa using e1'
 have hN:r.1.N.length=r.2.length:=by rw [hml,zS_len]
 rw [n0] at e2;unfold m37;rw [h98,ob_];dsimp only;rw [zf,cf_,hN,rep_spec (by omega) (by omega),ob_,e2,ob_];cases b with
 | false=>exact .inr ⟨f2 rfl,rfl⟩
 | true=>
  obtain ⟨_,t2,d,t3,t4⟩:=f1 rfl;refine .inl ⟨d,t4,?_⟩;have:=idx_gd (G:=F') (i:=0) (by rw [t2.len];omega);rw [n0,t3] at this;dsimp only;rw [Bool.not_true,cf_,this];rfl
theorem m39_l4_spec {B:List Stroke} {g:List (Stroke×Bool)} (hg:Bg g B) (e a:Int) (p:Bool) (b d:Int) (q1:List ByteArray) (q2:List Signal) (q3 q4:List Int) (N:List Node) (m:List (ByteArray×Int)) (M:List (List Int)) (i:Nat) (o:List Stroke) (ho:o.length<=1000) :
  ∃ k,m39_l4 (e,a,p,b,d,q1,q2,q3,q4,N,m,M,g) ((i:Int),o) FF (0,o)=some (k,o ++ (nv1 B i false ++ nv1 B i true)):=by
 have step:∀ (n:Nat) (j:Nat) (w:Bool) (v:List Stroke),j < 2->[false,true][j]?=some w->v.length<=2000 ->
   m39_l4 (e,a,p,b,d,q1,q2,q3,q4,N,m,M,g) ((i:Int),o) (n + 1) ((j:Int),v)=m39_l4 (e,a,p,b,d,q1,q2,q3,q4,N,m,M,g) ((i:Int),o) n (((j + 1:Nat):Int),v ++ nv1 B i w):=fun n j w v hi hw hv=>by
  rw [m39_l4];simp only [show ([false,true]:List Bool).length=2 from rfl,lt_dec,dt_ hi,ct_,idx_nat,hw,ob_,hg ⟨(i:Int),w⟩];rw [wr_nat (by omega)];unfold nv1;by_cases hm:(⟨(i:Int),w⟩:Stroke)∈B
  ·rw [dt_ hm,if_pos hm,List.append_nil];rfl
  ·rw [df_ hm,if_neg hm,Bool.not_false,ct_,app_ok (by simp;omega)];rfl
 have l1:=nv1_len (B:=B) (a:=i) (w:=false);show ∃ k,m39_l4 _ ((i:Int),o) (99999 + 1) (((0:Nat):Int),o)=_;rw [step _ 0 false o (by omega) rfl (by omega)];show ∃ k,m39_l4 _ ((i:Int),o) (99998 + 1) (((1:Nat):Int),o ++ nv1 B i false)=_;rw [step _ 1 true _ (by omega) rfl (by rw [List.length_append];omega)];show ∃ k,m39_l4 _ ((i:Int),o) (99997 + 1) (((2:Nat):Int),o ++ nv1 B i false ++ nv1 B i true)=_;rw [m39_l4];simp only [show ([false,true]:List Bool).length=2 from rfl,lt_dec,df_ (Nat.lt_irrefl 2),cf_,List.append_assoc];exact ⟨_,rfl⟩
theorem m39_spec {c:Control} {s:State} {most:Int} {r:Zt×List (List Int)} (hc:Rc c) (hf:Fit c s) (hq:Qt c s) (h1:1<=most) (h2:most<=40) (hr:Sr c s true most.toNat r) :
  m39 FF c s most=some (nvF (cA c) (bgi c true (zS r.1)),0):=by
 have hb:=hc.rt.bd;have h6:=hb.a';have h98:=m98_spec hc hf hq true h1 (by omega);rw [hr.eq] at h98;obtain ⟨m',g',h98,hG⟩:=h98;rw [hr.bg] at hG;unfold m39;rw [h98,ob_];dsimp only;rw [zf,cf_];obtain ⟨v,hv,h⟩:=forI (L:=m39_l3 FF c (0,c.Actuators,true,most,0,c.Inputs,c.Signals,c.Plus,c.Minus,r.1.N,m',r.2,g')) (mk:=fun i (v:List Stroke)=>((i:Int),v)) (N:=cA c) (I:=fun i v=>v=nvF i (bgi c true (zS r.1))) (fun n i v hi hI=>by
  subst hI;refine ⟨_,rfl,?_⟩;have hle:=nvF_len (n:=i) (B:=bgi c true (zS r.1));rw [m39_l3];dsimp only;obtain ⟨k,h4⟩:=m39_l4_spec hG 0 c.Actuators true most 0 c.Inputs c.Signals c.Plus c.Minus r.1.N m' r.2 i (nvF i (bgi c true (zS r.1))) (by omega);rw [hb.a,lt_dec,dt_ hi,ct_,← hb.a,h4,ob_,wr_nat (by omega),nvF_succ]) (fun n v _=>by
  rw [m39_l3];dsimp only;rw [hb.a,lt_dec,df_ (Nat.lt_irrefl _),cf_]) FF 0 [] (by omega) (by unfold FF;omega) rfl
 try dsimp only at h
 rw [n0] at h;rw [h,hv];rfl
theorem m195_spec {l:List Event} (hl:l.length<=90000):m195_1 FF l=some l.reverse:=by
 unfold m195_1;rcases Nat.eq_zero_or_pos l.length with h0 | h0
 ·obtain rfl:=List.length_eq_zero_iff.1 h0;rfl
 ·have key:∀ (n a b:Nat) (u:List Event),a + b + 1=l.length->b < n + a->u.length=l.length->(∀ k,u[k]?=if k < a\/b < k then l.reverse[k]? else l[k]?)->a<=b + 1 ->
    ∃ x y,m195_1_l1 (n + 1) ((a:Int),(b:Int),u)=some (x,y,l.reverse):=by
   intro n
   induction n with
   | zero=>
    intro a b u h1 h2 h3 h4 h5;rw [m195_1_l1];dsimp only;rw [lt_dec,df_ (by omega),cf_];have:u=l.reverse:=List.ext_getElem? fun k=>by
     rw [h4 k];split
     ·rfl
     ·omega
    exact ⟨(a:Int),(b:Int),by rw [this]⟩
   | succ n ih=>
    intro a b u h1 h2 h3 h4 h5;by_cases hab:a < b
    ·have ha:a < u.length:=by omega
     have hb:b < u.length:=by omega
     have e1:u[a]?=some u[a]:=gE_ ha;have e2:u[b]?=some u[b]:=gE_ hb;rw [m195_1_l1];dsimp only;simp only [lt_dec,dt_ hab,ct_,idx_nat,e1,e2,ob_,Int.toNat_natCast];rw [List.getElem?_set_ne (by omega),e2,ob_,wr_nat (by omega),wr_id (by omega) (by omega),show ((b:Int) - 1)=((b - 1:Nat):Int) by omega];refine ih (a + 1) (b - 1) _ (by omega) (by omega) (by simp [h3]) (fun k=>?_) (by omega);have ga:u[a]=l[a]'(by omega):=by
      have:=h4 a;rw [if_neg (by omega),e1,gE_ (by omega)] at this;exact Option.some.inj this
     have gb:u[b]=l[b]'(by omega):=by
      have:=h4 b;rw [if_neg (by omega),e2,gE_ (by omega)] at this;exact Option.some.inj this
     rw [List.getElem?_set,List.getElem?_set];by_cases hkb:b=k
     ·subst hkb;rw [if_pos rfl,if_pos (by simp;omega),if_pos (by omega),List.getElem?_reverse (by omega),ga,show l.length - 1 - b=a by omega,gE_ (by omega)]
     ·rw [if_neg hkb];by_cases hka:a=k
      ·subst hka;rw [if_pos rfl,if_pos ha,if_pos (by omega),List.getElem?_reverse (by omega),gb,show l.length - 1 - a=b by omega,gE_ (by omega)]
      ·rw [if_neg hka,h4 k];by_cases hc:k < a\/b < k
       ·rw [if_pos hc,if_pos (by omega)]
       ·rw [if_neg hc,if_neg (by omega)]
    ·rw [m195_1_l1];dsimp only;rw [lt_dec,df_ hab,cf_];have:u=l.reverse:=List.ext_getElem? fun k=>by
      rw [h4 k];split
      ·rfl
      ·have hk:k=a:=by omega
       have hk2:l.length - 1 - k=k:=by omega
       rw [List.getElem?_reverse (by omega),hk2]
     exact ⟨(a:Int),(b:Int),by rw [this]⟩
  rw [wr_id (by omega) (by omega),show ((l.length:Int) - 1)=((l.length - 1:Nat):Int) by omega];obtain ⟨x,y,h⟩:=key 99999 0 (l.length - 1) l (by omega) (by omega) rfl (fun k=>by
   split
   ·rw [List.getElem?_eq_none (l:=l) (by omega),List.getElem?_eq_none (l:=l.reverse) (by simp;omega)]
   ·rfl) (by omega)
  have h:m195_1_l1 FF (0,((l.length - 1:Nat):Int),l)=some (x,y,l.reverse):=h;rw [h];rfl
theorem m127_l1_spec {c:Control} {most:Nat} {z:Zt} (hZ:Zi c most z) (hm:most<=20000):∀ (i n:Nat) (f:Found) (o:List Event),z.F[i]?=some f->i < n->o.length + i<=40000->∃ q,m127_l1 z.N n ((i:Int),o)=some (q,o ++ f.Run.reverse):=by
 intro i
 induction i using Nat.strongRecOn with
 | ind i ih=>
  intro n f o hf hn ho;have hi:i < z.N.length:=by rw [← hZ.len];exact (List.getElem?_eq_some_iff.1 hf).1
  have hy:z.N[i]?=some z.N[i]:=gE_ hi;obtain ⟨n,rfl⟩:∃ n',n=n' + 1:=⟨n - 1,by omega⟩;rw [m127_l1];dsimp only;rw [idx_nat,hy,ob_];rcases hZ.par i _ f hy hf with ⟨h1,h2⟩ | ⟨p,h1,h2,g,h3,h4⟩
  ·rw [h1,show decide ((-1:Int)>=0)=false from rfl,cf_,h2];exact ⟨(i:Int),by simp⟩
  ·have hr:=hZ.run _ _ hf;have hle:=hZ.le;rw [h2,dt_ (show (p:Int)>=0 by omega),ct_,ob_,app_ok (by simp;omega),ob_,ob_,h2];obtain ⟨q,hq⟩:=ih p h1 n g (o ++ [z.N[i].event]) h3 (by omega) (by simp;omega);exact ⟨q,by rw [hq,h4];simp⟩
theorem row_empty {c:Control} {s:State} {most:Nat} {r:Zt×List (List Int)} (hm:most<=120) (hr:Sr c s false most r) {i:Nat} {f:Found} {l:List Int} (hf:r.1.F[i]?=some f) (hl:r.2[i]?=some l):((l.length:Int) == 0)=Sd f.State:=by
 have hS:=hr.sp hm;have hs:(zS r.1)[i]?=some f.State:=by rw [← hr.zi.fs,List.getElem?_map,hf];rfl
 have hR:=hS.fd.row i _ _ (List.getElem?_eq_some_iff.1 hs).1 hs hl;unfold Sd;rw [hR.len]
theorem find_spec {c:Control} {s:State} {most:Int} {r:Zt×List (List Int)} (hc:Rc c) (hf:Fit c s) (hq:Qt c s) (h1:1<=most) (h2:most<=40) (hr:Sr c s false most.toNat r) :
  (∃ (j:Nat) (f:Found),r.1.F.findIdx? (fun f=>Sd f.State)=some j/\r.1.F[j]?=some f/\Sd f.State=true/\m62 FF c s most=some (f.Run,true,0)/\m63 FF c s most=some (f.Run,true,0)) \/
  (r.1.F.findIdx? (fun f=>Sd f.State)=none/\m62 FF c s most=some ([],false,0)/\m63 FF c s most=some ([],false,0)):=by
 have hb:=hc.rt.bd;have hS:=hr.sp (by omega);have hml:r.2.length=(zS r.1).length:=hS.fd.ml;have hle:(zS r.1).length<=120:=hS.le;have hFl:r.1.F.length=(zS r.1).length:=by rw [← hr.zi.fs];simp
 have hFt:∀ f∈r.1.F,Fit c f.State:=fun f hf=>(hr.zi.al _ (by rw [← hr.zi.fs];exact List.mem_map.2 ⟨f,hf,rfl⟩)).1;have h98:=m98_spec hc hf hq false h1 (by omega);have h101:=m101_spec hc hf hq false h1 (by omega);rw [hr.eq] at h98 h101;obtain ⟨m',g',h98,_⟩:=h98;have h3:=m63_l1_spec hb hFt (by omega) 0;have h4:=srchX (L:=m125_l1 FF r.2) (xs:=r.2) (q:=fun l=>(l.length:Int) == 0) (r:=fun j _=>(j:Int)) (fun n i x hx=>by
  have hi:=(List.getElem?_eq_some_iff.1 hx).1;rw [m125_l1];simp only [lt_dec,dt_ hi,ct_,idx_nat,hx,ob_,m126];rw [wr_nat (by omega)]) (fun n=>by
  rw [m125_l1];simp only [lt_dec,df_ (Nat.lt_irrefl _),cf_]) FF 0 (by omega) (by unfold FF;omega) (fun k y hk=>by omega)
 rw [n0] at h4;have hqe:r.2.findIdx? (fun l=>(l.length:Int) == 0)=r.1.F.findIdx? (fun f=>Sd f.State):=by
  have e:r.2.map (fun l=>(l.length:Int) == 0)=r.1.F.map (fun f=>Sd f.State):=List.ext_getElem? fun k=>by
   rw [List.getElem?_map,List.getElem?_map];by_cases hk:k < r.2.length
   ·rw [gE_ hk,gE_ (show k < r.1.F.length by omega)];exact congrArg some (row_empty (by omega) hr (gE_ (show k < r.1.F.length by omega)) (gE_ hk))
   ·rw [List.getElem?_eq_none (by omega),List.getElem?_eq_none (by omega)];rfl
  have e1:=List.findIdx?_map (p:=id) (f:=fun l:List Int=>(l.length:Int) == 0) (l:=r.2);have e2:=List.findIdx?_map (p:=id) (f:=fun f:Found=>Sd f.State) (l:=r.1.F);rw [e] at e1;exact e1.symm.trans e2
 rw [hqe] at h4;have run:∀ (j:Nat) f,r.1.F[j]?=some f->∀ a1 a2 a3 a4 a5 a6 a7 a8 a10 a11 a12,m127 FF (j:Int) a1 a2 a3 a4 a5 a6 a7 a8 r.1.N a10 a11 a12=some f.Run:=fun j f hj=>by
  intros
  have hjl:=(List.getElem?_eq_some_iff.1 hj).1;obtain ⟨q,hq⟩:=m127_l1_spec hr.zi (by omega) j FF f [] hj (by unfold FF;omega) (by simp;omega);have hrl:=hr.zi.run _ _ hj;unfold m127;rw [hq,ob_];dsimp only;rw [List.nil_append,m195_spec (by simp;omega),List.reverse_reverse];rfl
 unfold m62 m63;rw [h98,h101,ob_,ob_];dsimp only;rw [zf,cf_,cf_];unfold m125;rcases h4 with ⟨j,l,g1,g2,_,g3⟩ | ⟨g1,g3⟩
 ·rcases h3 with ⟨j',f,k1,k2,k3,k4⟩ | ⟨k1,_⟩
  ·rw [g1] at k1;obtain rfl:=Option.some.inj k1;rw [g3,k4,ob_,ob_,ob_];dsimp only;rw [df_ (by omega),cf_,run j f k2];exact .inl ⟨j,f,g1,k2,k3,rfl,rfl⟩
  ·rw [g1] at k1;cases k1
 ·rcases h3 with ⟨j',f,k1,_⟩ | ⟨_,k4⟩
  ·rw [g1] at k1;cases k1
  ·rw [g3,k4,ob_,ob_,ob_];exact .inr ⟨g1,rfl,rfl⟩
theorem m64_spec {c:Control} {s:State} {most:Int} {r:Zt×List (List Int)} (hc:Rc c) (hf:Fit c s) (hq:Qt c s) (h1:1<=most) (h2:most<=40) (hr:Sr c s false most.toNat r) :
  m64 FF c s most=some (stF r.1.F,0)/\m65 FF c s most=some (stF r.1.F,0):=by
 have hb:=hc.rt.bd;have hS:=hr.sp (by omega);have hml:r.2.length=(zS r.1).length:=hS.fd.ml;have hle:(zS r.1).length<=120:=hS.le;have hFl:r.1.F.length=(zS r.1).length:=by rw [← hr.zi.fs];simp
 have hFt:∀ f∈r.1.F,Fit c f.State:=fun f hf=>(hr.zi.al _ (by rw [← hr.zi.fs];exact List.mem_map.2 ⟨f,hf,rfl⟩)).1;have h98:=m98_spec hc hf hq false h1 (by omega);have h101:=m101_spec hc hf hq false h1 (by omega);rw [hr.eq] at h98 h101;obtain ⟨m',g',h98,_⟩:=h98;obtain ⟨q,h3⟩:=m65_l1_spec hb hFt (by omega) 0;unfold m64 m65;rw [h98,h101,ob_,ob_];dsimp only;rw [zf,cf_,cf_,h3,ob_];refine ⟨?_,rfl⟩;obtain ⟨v,hv,h⟩:=forI (L:=m64_l1 FF (0,c.Actuators,false,most,0,c.Inputs,c.Signals,c.Plus,c.Minus,r.1.N,m',r.2,g')) (mk:=fun i (v:List State)=>((i:Int),v)) (N:=r.2.length) (I:=fun i v=>v=stF (r.1.F.take i)) (fun n i v hi hI=>by
  subst hI;refine ⟨_,rfl,?_⟩;have hx:r.2[i]?=some r.2[i]:=gE_ hi;have hiF:i < r.1.F.length:=by omega
  have hiN:i < r.1.N.length:=by rw [← hr.zi.len];omega
  have hfx:r.1.F[i]?=some r.1.F[i]:=gE_ hiF;have hnx:r.1.N[i]?=some r.1.N[i]:=gE_ hiN;have hst:r.1.N[i].state=r.1.F[i].State:=by
   have:=congrArg (·[i]?) hr.zi.fs;unfold zS at this;rw [List.getElem?_map,List.getElem?_map,hfx,hnx] at this;exact (Option.some.inj this).symm
  have hre:=row_empty (by omega) hr hfx hx;have hsm:=(hFt _ (List.getElem_mem hiF)).sm hb;have h1:=stF_len (F:=r.1.F.take i);rw [List.length_take] at h1;rw [m64_l1];simp only [lt_dec,dt_ hi,ct_,idx_nat,hx,hnx,ob_,hre,hst,m128_spec hsm.e,m128_spec hsm.t,m129_spec hsm.v,m129_spec hsm.i,m129_spec hsm.x];rw [wr_nat (by omega),stF_take hiF];cases Sd r.1.F[i].State with
  | true=>rw [ct_,app_ok (by simp;omega),if_pos rfl];rfl
  | false=>rw [cf_,if_neg (by simp),List.append_nil];rfl) (fun n v _=>by
  rw [m64_l1];simp only [lt_dec,df_ (Nat.lt_irrefl _),cf_]) FF 0 [] (by omega) (by unfold FF;omega) rfl
 try dsimp only at h
 rw [n0] at h;rw [h,hv,List.take_of_length_le (by omega)];rfl
end Go.Pn
namespace Go.Pn
open Go
set_option maxRecDepth 1000000 in
theorem awakeF2:m30 100000=some true:=by kernel_rfl
theorem m30_spec:m30 FF=some true:=awakeF2
theorem srch_spec {c:Control} (hw:Fw c) (hs:c.Signals.length<=16\/64 < c.Signals.length) (s:State) (p:Bool) {most:Int} (hm:most<=40\/16384 < most) :
  (∃ e,e≠0/\m101 FF c s p most=some ([],e)/\(m98 FF c s p most=some (.inl e)\/∃ w,m98 FF c s p most=some (.inr (e,w))))\/(Rc c/\Fit c s/\Qt c s/\1<=most/\most<=40/\∃ r,Sr c s p most.toNat r):=by
 rcases evs_spec hw hs s with ⟨e,he,he',_,h2,h3⟩ | ⟨hc,hf,hq⟩
 ·exact .inl ⟨e,he,m101_err he' h3 p most,.inl (m98_err he' h2 p most)⟩
 ·by_cases hmm:most < 1\/16384 < most
  ·exact .inl ⟨2,by omega,m101_few hc hf hq p hmm,.inl (m98_few hc hf hq p hmm)⟩
  ·have h1:1<=most:=by omega
   have h2:most<=40:=by omega
   have h101:=m101_spec hc hf hq p h1 (by omega);have h98:=m98_spec hc hf hq p h1 (by omega);cases hx:srF c s p most.toNat with
   | inl e=>
    rw [hx] at h101 h98;obtain ⟨w,h98,he⟩:=h98;exact .inl ⟨e,he,h101,.inr ⟨w,h98⟩⟩
   | inr r=>exact .inr ⟨hc,hf,hq,h1,h2,r,Sr.of hf hq (by omega) hx⟩
theorem ne_b {e:Int} (h:e≠0):(e != 0)=true:=by simpa using h
end Go.Pn
namespace Go.Pn
open Go
theorem act_pend {s:State} {x:Event} (h:x∈pend s):(x.Kind=0\/x.Kind=1)/\act s x≠none:=by
 rcases mem_pend.1 h with ⟨i,hi,hd,rfl⟩ | ⟨i,hi,hd,rfl⟩
 ·refine ⟨.inl rfl,?_⟩;unfold act;rw [if_pos rfl,getD_idx hi];dsimp only;rcases hd with hd | hd
  ·rw [if_pos hd];simp
  ·rw [if_neg (by omega),if_pos hd];simp
 ·refine ⟨.inr rfl,?_⟩;unfold act;rw [if_neg (show ¬ (1:Int)=0 by decide),if_pos rfl,getD_idx hi];dsimp only;rw [if_pos hd];simp
theorem aft_tld {c:Control} {p:Bool} {s:State} {x:Event} (h:x∈tld p s):(aft c s x).2=0\/(aft c s x).2=21:=by
 have key:(0<=x.Kind/\x.Kind < 3)/\act s x≠none:=by
  unfold tld at h;rcases List.mem_append.1 h with h | h
  ·obtain ⟨h1,h2⟩:=act_pend h;exact ⟨by omega,h2⟩
  ·cases p with
   | false=>simp at h
   | true=>
    rw [if_pos rfl] at h;obtain ⟨i,hi,rfl⟩:=List.mem_map.1 h;have hi:=List.mem_range.1 hi;refine ⟨⟨by unfold prs;simp,by unfold prs;simp⟩,?_⟩;unfold act prs;rw [if_neg (show ¬ (2:Int)=0 by decide),if_neg (show ¬ (2:Int)=1 by decide)];dsimp only;rw [idx_nat,gE_ hi,List.getD_eq_getElem?_getD,gE_ hi];dsimp only [Option.getD_some];cases s.Inputs[i] <;> simp
 unfold aft;rw [if_neg (by omega)];cases ha:act s x with
 | none=>exact absurd ha key.2
 | some s'=>
  dsimp only;cases rst c 65 s' with
  | none=>exact .inr rfl
  | some t=>exact .inl rfl
theorem zrow_err {c:Control} {most i:Nat} {s:State}:∀ (l:List Event) (z:Zt) {e:Int},(∀ x∈l,(aft c s x).2=0\/(aft c s x).2=21)->zrow c most i s l z=.inl e->e=12\/e=21
 | [],z,e,_,h=>by cases h
 | x :: l,z,e,hl,h=>by
  unfold zrow at h;split at h
  ·split at h
   ·cases h;exact .inl rfl
   ·exact zrow_err l _ (fun y hy=>hl y (List.mem_cons_of_mem _ hy)) h
  ·rename_i h0;cases h
   exact .inr ((hl x (List.mem_cons_self ..)).resolve_left h0)
theorem zall_err {c:Control} {most:Nat} {p:Bool}:∀ (n i:Nat) (z:Zt) (M:List (List Int)) {e:Int},Zi c most z->i<=z.N.length->most < n + i->zall c most p n i z M=.inl e->e=12\/e=21
 | 0,i,z,M,e,hZ,h1,h2,_=>by have:=hZ.le;omega
 | n + 1,i,z,M,e,hZ,h1,h2,h=>by
  unfold zall at h;split at h
  ·cases h
  ·rename_i y hy;split at h
   ·rename_i hx;cases h;exact zrow_err _ _ (fun x hx=>aft_tld hx) hx
   ·rename_i r1 hx;have hfit:Fit c y.state:=(hZ.al _ (List.mem_map.2 ⟨_,List.mem_of_getElem? hy,rfl⟩)).1;obtain ⟨a1,X,a2⟩:=zrow_ok hfit _ { z with mv:=[] } ⟨hZ.al,hZ.le,hZ.fs,hZ.par⟩ ⟨_,hy,rfl⟩ hx;have hl:=(List.getElem?_eq_some_iff.1 hy).1;have hX:=congrArg List.length a2;rw [List.length_append] at hX;dsimp only at hX;exact zall_err n (i + 1) r1 _ a1 (by omega) (by omega) h
theorem srF_err {c:Control} {s:State} {p:Bool} {most:Nat} {e:Int} (hf:Fit c s) (hq:Qt c s) (hm:1<=most) (hm2:most<=16384) (h:srF c s p most=.inl e):e=12\/e=21:=
 zall_err FF 0 _ _ (z0t_ok hf hq hm) (by simp [z0t]) (by unfold FF;omega) h
theorem right_spec {c:Control} (hw:Fw c) (hs:c.Signals.length<=16\/64 < c.Signals.length) (s:State) :
  (∃ b,m42 FF c=some b/\(b != 0)=true)\/(m42 FF c=some 0/\Rc c/\((∃ b,m43 FF c s=some b/\(b != 0)=true)\/(m43 FF c s=some 0/\Fit c s/\((m44 FF c s=some false)\/(m44 FF c s=some true/\Qt c s))))):=by
 obtain ⟨e,h1,h2,h3⟩:=chk_spec hw hs;by_cases he:e=0
 ·subst he;have hc:Rc c:=⟨h3 rfl,hw,h1,h2⟩;refine .inr ⟨h2,hc,?_⟩;by_cases hf:fitE c s=0
  ·have hfit:=(fitE_zero hc.rt.bd).1 hf;refine .inr ⟨by rw [m43_spec hc,hf],hfit,?_⟩;have h4:=m44_spec hc hfit;cases hx:stl c 65 s with
   | none=>rw [hx] at h4;exact .inl h4
   | some t=>
    rw [hx] at h4;dsimp only at h4;cases hst:sst (rnd c t) s with
    | false=>rw [hst] at h4;exact .inl h4
    | true=>rw [hst] at h4;exact .inr ⟨h4,t,hx,hst⟩
  ·exact .inl ⟨_,m43_spec hc,ne_b hf⟩
 ·exact .inl ⟨e,h2,ne_b he⟩
theorem ends_l1 {c:Control} {s:State} {S:List State} {M:List (List Int)} (hc:Rc c) (hS:Sp_ c s ⟨S,M⟩) {d:Nat} (hd:Lg M 0 d) (v:UInt8) (e:Int):∀ (k n i a:Nat) (t:State),i + k=d->k + 1 < n->S[a]?=some t->Wl M 0 a i ->
  m8_l1 FF c v ((d:Int),e) n ((i:Int),t)=some (.ret true)
 | _,0,_,_,_,_,h,_,_=>by omega
 | k,n + 1,i,a,t,h1,h2,ht,hw=>by
  have hle:S.length<=120:=hS.le;have hml:M.length=S.length:=hS.fd.ml;have hdl:=hd.le;have ha:=(List.getElem?_eq_some_iff.1 ht).1;obtain ⟨hf,hq⟩:=hS.al t (List.mem_of_getElem? ht);have hm:M[a]?=some (M[a]'(by omega)):=gE_ (by omega);have hR:=hS.fd.row a t _ ha ht hm;have hpl:=pend_fit hc.rt.bd hf;rw [m8_l1];dsimp only;rw [dt_ (show (i:Int)<=(d:Int) by omega),ct_,m45_spec hc hf hq,ob_,m31_spec hc hf hq,ob_];dsimp only;rw [show (Sd t != (((pend t).length:Int) == 0))=false by unfold Sd;simp,zf,Bool.or_false,Bool.or_false,cf_];cases hsd:Sd t with
  | true=>rw [ct_,m30_spec];rfl
  | false=>
   have hlen:(pend t).length≠0:=fun h0=>by
    unfold Sd at hsd;rw [h0] at hsd;cases hsd
   have hx0:(Ik.ofI (Ik.toI v):Int)=(v.toNat:Int):=by
    show wr (v.toNat:Int)=_;have:=v.toNat_lt;exact wr_id (by omega) (by omega)
   have hrem:rem (Ik.ofI (Ik.toI v):Int) ((pend t).length:Int)=some ((v.toNat % (pend t).length:Nat):Int):=by
    unfold rem;rw [if_neg (by omega),hx0];rfl
   have hlt:v.toNat % (pend t).length < (pend t).length:=Nat.mod_lt _ (by omega);have hx:(pend t)[v.toNat % (pend t).length]?=some (pend t)[v.toNat % (pend t).length]:=gE_ hlt;obtain ⟨h0,q,hq1,hq2⟩:=hR.ev _ _ hx;obtain ⟨l,e1⟩:=m46_spec (x:=(pend t)[v.toNat % (pend t).length]) hc hf hq;have hE:Eg M a q:=⟨_,hm,List.mem_of_getElem? hq1⟩;have hw':=hw.snoc hE;have:=hd.2 _ _ hw';rw [cf_,hrem,ob_,idx_nat,hx,ob_,e1,ob_];dsimp only;rw [h0,zf,cf_,wr_nat (by omega)];obtain ⟨k,rfl⟩:∃ k',k=k' + 1:=⟨k - 1,by omega⟩;exact ends_l1 hc hS hd v e k n (i + 1) q _ (by omega) (by omega) hq2 hw'
theorem ends_true (c:Control) (s:State) (v:UInt8):m8 FF c s v=some true:=by
 unfold m8;obtain ⟨b,h1,h2⟩:=m29_spec c s;rw [h1,ob_];cases b with
 | false=>simp only [Bool.not_false,ct_,ob_,m30_spec]
 | true=>
  obtain ⟨hw,hs,_⟩:=h2 rfl;rcases right_spec hw hs s with ⟨b,g1,g2⟩ | ⟨g1,hc,⟨b,g2,g3⟩ | ⟨g2,hf,g3 | ⟨g3,hq⟩⟩⟩
  ·simp only [Bool.not_true,cf_,g1,g2,ct_,ob_,m30_spec]
  ·simp only [Bool.not_true,cf_,g1,g2,g3,zf,ct_,ob_,m30_spec]
  ·simp only [Bool.not_true,Bool.not_false,cf_,g1,g2,g3,zf,ct_,ob_,m30_spec]
  ·simp only [Bool.not_true,cf_,g1,g2,g3,zf,ob_];rcases srch_spec hw hs s false (most:=40) (by omega) with ⟨e,he,_,k2⟩ | ⟨_,_,_,k1,k2,r,hr⟩
   ·have he':e=12\/e=21:=by
     have h98:=m98_spec hc hf hq false (most:=40) (by omega) (by omega);cases hx:srF c s false (40:Int).toNat with
     | inl e'=>
      rw [hx] at h98;obtain ⟨w,h98,_⟩:=h98;have:=srF_err hf hq (by decide) (by decide) hx;rcases k2 with k2 | ⟨w',k2⟩
      ·rw [h98] at k2;cases k2
      ·rw [h98] at k2;simp only [Option.some.injEq,Sum.inr.injEq,Prod.mk.injEq] at k2;rw [← k2.1];exact this
     | inr r=>
      rw [hx] at h98;obtain ⟨m',g',h98,_⟩:=h98;rcases k2 with k2 | ⟨w',k2⟩
      ·rw [h98] at k2;cases k2
      ·rw [h98] at k2;simp only [Option.some.injEq,Sum.inr.injEq,Prod.mk.injEq] at k2;exact absurd k2.1.symm he
    have h37:m37 FF c s 40=some (0,e):=by
     unfold m37;rcases k2 with k2 | ⟨w,k2⟩ <;> rw [k2,ob_] <;> dsimp only <;> rw [ne_b he,ct_]
    rw [h37,ob_];dsimp only;rw [ne_b he,ct_];rcases he' with rfl | rfl <;> simp [m30_spec]
   ·have hS:=hr.sp (by decide);rcases m37_spec hc hf hq k1 k2 hr with ⟨d,a1,a2⟩ | ⟨_,a2⟩
    ·rw [a2,ob_];dsimp only;rw [zf,cf_];have hl:=ends_l1 hc hS a1 v 0 d FF 0 0 s (by omega) (by have:=a1.le;have h5:r.2.length=(zS r.1).length:=hS.fd.ml;have h6:(zS r.1).length<=120:=hS.le;unfold FF;omega) hr.hd .nil;rw [n0] at hl;rw [hl];rfl
    ·rw [a2,ob_];simp [m30_spec]
end Go.Pn

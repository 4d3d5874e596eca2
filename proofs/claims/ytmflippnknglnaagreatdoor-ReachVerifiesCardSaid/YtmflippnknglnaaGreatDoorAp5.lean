import Derived.Test.YtmflippnknglnaaGreatDoorAp4
set_option synthInstance.checkSynthOrder false
set_option synthInstance.maxSize 10000
set_option synthInstance.maxHeartbeats 400000
set_option maxRecDepth 100000
set_option maxHeartbeats 4000000
set_option linter.unusedVariables false
set_option linter.unusedSimpArgs false
set_option linter.defProp false
namespace Go.Pn
theorem Ar {x:Int} (h1:-9223372036854775808<=x) (h2:x<=9223372036854775807):wr x=x:=by
 simp only [wr,IntKind.wrap,IntKind.bits,IntKind.signed];simp;omega
theorem Aj {α:Type} {xs:List α} {n:Nat}:idx xs (n:Int)=xs[n]?:=by simp [idx]
theorem Cp {α:Type} {xs:List α} {i:Int} (h0:0<=i) (h:i < xs.length):∃ x,idx xs i=some x/\x∈xs:=by
 have h1:i.toNat < xs.length:=by omega
 exact ⟨xs[i.toNat],by simp [idx,h0,h1],CS h1⟩
theorem idx_mem {α:Type} {xs:List α} {i:Int} {x:α} (h:idx xs i=some x):x∈xs:=by
 obtain ⟨_,_,h⟩:=Aq h;exact CV h
def at_ (xs:GW) (i:Int):Int:=(idx xs i).getD (-1)
theorem Nr {xs:GW} {i x:Int} (h:idx xs i=some x):at_ xs i=x:=by simp [at_,h]
theorem Nn {xs:GW} {i:Int} (h0:0<=i) (h:i < xs.length):idx xs i=some (at_ xs i):=by
 obtain ⟨x,hx,_⟩:=Cp h0 h;rw [hx,Nr hx]
theorem AH {xs:GW} {i:Int} (h:0<=at_ xs i):0<=i/\i < xs.length:=by
 unfold at_ at h;cases hi:idx xs i with
 | none=>simp [hi] at h
 | some x=>have:=Aq hi;omega
theorem CH {xs:GW} {i k v:Int} (h0:0<=i) (h:i < xs.length):at_ (xs.set i.toNat v) k=if k=i then v else at_ xs k:=by
 unfold at_ idx;by_cases hk:k=i
 ·subst hk;have:k.toNat < xs.length:=by omega
  simp [h0,this]
 ·rw [if_neg hk];by_cases hk0:0<=k
  ·have:i.toNat≠k.toNat:=by omega
   simp [hk0,D9 this]
  ·simp [hk0]
def Edge (g:List GW) (a b:Int):Prop:=∃ l,idx g a=some l/\b∈l
inductive Rch (g:List GW) (a:Int):Int->Prop
 | refl:Rch g a a
 | step {b c:Int}:Rch g a b->Edge g b c->Rch g a c
def Gd_ (g:List GW):Prop:=∀ l∈g,∀ k∈l,0<=k/\k < g.length
theorem Gd_.edge {g:List GW} (h:Gd_ g) {a b:Int} (e:Edge g a b):0<=b/\b < g.length:=by
 obtain ⟨l,hl,hb⟩:=e;exact h l (idx_mem hl) b hb
def Dp (u:Int) (st:GW×GW) (x:Int):GW×GW:=
 if at_ st.1 x < 0 then (st.1.set x.toNat (at_ st.1 u + 1),st.2 ++ [x]) else st
def Px (u:Int) (l:GW) (st:GW×GW):GW×GW:=l.foldl (Dp u) st
def bfs (g:List GW):Nat->Nat->GW×GW->GW×GW
 | 0,_,st=>st
 | n + 1,i,st=>match st.2[i]? with
  | none=>st
  | some u=>bfs g n (i + 1) (Px u ((idx g u).getD []) st)
structure Iv (g:List GW) (a:Int) (i:Nat) (st:GW×GW):Prop where
 len:st.1.length=g.length
 q:∀ u∈st.2,0<=at_ st.1 u/\Rch g a u
 r:∀ k,0<=at_ st.1 k->k∈st.2
 neg:∀ k,-1<=at_ st.1 k
 nd:st.2.Nodup
 bnd:∀ k,at_ st.1 k < st.2.length
 par:∀ k∈st.2,k=a\/∃ p∈st.2,Edge g p k/\at_ st.1 k=at_ st.1 p + 1
 za:at_ st.1 a=0
 clo:∀ j,j < i->∀ u,st.2[j]?=some u->∀ k,Edge g u k->k∈st.2/\at_ st.1 k<=at_ st.1 u + 1
 srt:∀ (j k:Nat) (u v:Int),j < k->st.2[j]?=some u->st.2[k]?=some v->at_ st.1 u<=at_ st.1 v
 mx:∀ u,st.2[i]?=some u->∀ v∈st.2,at_ st.1 v<=at_ st.1 u + 1
 il:i<=st.2.length
structure Grew (st st':GW×GW):Prop where
 keep:∀ k∈st.2,at_ st'.1 k=at_ st.1 k
 pre:∀ (j:Nat) u,st.2[j]?=some u->st'.2[j]?=some u
theorem Grew.refl (st:GW×GW):Grew st st:=⟨λ_ _=>rfl,λ_ _ h=>h⟩
theorem Grew.mem {st st':GW×GW} (h:Grew st st') {k:Int} (hk:k∈st.2):k∈st'.2:=by
 obtain ⟨j,hj⟩:=FW hk;exact CV (h.pre j k hj)
theorem Grew.trans {a b c:GW×GW} (h:Grew a b) (k:Grew b c):Grew a c:=
 ⟨λx hx=>(k.keep x (h.mem hx)).trans (h.keep x hx),λj u hj=>k.pre j u (h.pre j u hj)⟩
theorem Iv.step {g:List GW} {a:Int} {i:Nat} {st:GW×GW} {u x:Int} (hg:Gd_ g) (h:Iv g a i st) (hu:st.2[i]?=some u) (he:Edge g u x) :
  Iv g a i (Dp u st x)/\Grew st (Dp u st x)/\x∈(Dp u st x).2/\at_ (Dp u st x).1 x<=at_ (Dp u st x).1 u + 1:=by
 have hum:u∈st.2:=CV hu;obtain ⟨hx0,hx1⟩:=hg.edge he;unfold Dp;by_cases hx:at_ st.1 x < 0
 ·rw [if_pos hx];have hxl:x < st.1.length:=by rw [h.len];exact hx1
  have hset:∀ k,at_ (st.1.set x.toNat (at_ st.1 u + 1)) k=if k=x then at_ st.1 u + 1 else at_ st.1 k:=λk=>CH hx0 hxl
  have hne:∀ k∈st.2,k≠x:=λk hk e=>by have:=(h.q k hk).1;subst e;omega
  have hold:∀ k∈st.2,at_ (st.1.set x.toNat (at_ st.1 u + 1)) k=at_ st.1 k:=λk hk=>by rw [hset,if_neg (hne k hk)]
  have hnx:x ∉ st.2:=λhm=>hne x hm rfl;have hu0:=(h.q u hum).1;have hgr:Grew st (st.1.set x.toNat (at_ st.1 u + 1),st.2 ++ [x]):=⟨hold,λj v hj=>by
   rw [DB (CT.1 hj).1];exact hj⟩
  have hget:∀ (j:Nat) v,(st.2 ++ [x])[j]?=some v->st.2[j]?=some v\/(j=st.2.length/\v=x):=λj v hj=>by
   rcases D3 j st.2.length with h1 | h1
   ·rw [DB h1] at hj;exact .inl hj
   ·rw [DM h1] at hj;rcases GS h1 with h2 | h2
    ·subst h2;simp at hj;exact .inr ⟨rfl,hj.symm⟩
    ·have:j - st.2.length=(j - st.2.length - 1) + 1:=by omega
     rw [this] at hj;simp at hj
  refine ⟨⟨by simp [h.len],?_,?_,?_,?_,?_,?_,?_,?_,?_,?_,?_⟩,hgr,by simp,?_⟩
  ·intro k hk;rcases CY.1 hk with hk | hk
   ·exact ⟨by show 0<=at_ (st.1.set _ _) k;rw [hold k hk];exact (h.q k hk).1,(h.q k hk).2⟩
   ·obtain rfl:k=x:=by simpa using hk
    exact ⟨by show 0<=at_ (st.1.set _ _) k;rw [hset,if_pos rfl];omega,.step (h.q u hum).2 he⟩
  ·intro k hk;replace hk:0<=at_ (st.1.set x.toNat (at_ st.1 u + 1)) k:=hk;rw [hset] at hk;by_cases e:k=x
   ·subst e;simp
   ·rw [if_neg e] at hk;exact C0 _ (h.r k hk)
  ·intro k;show -1<=at_ (st.1.set x.toNat (at_ st.1 u + 1)) k;rw [hset];split
   ·omega
   ·exact h.neg k
  ·exact EY.2 ⟨h.nd,by simp,λp hp q hq=>by simp at hq;subst hq;exact hne p hp⟩
  ·intro k;show at_ (st.1.set x.toNat (at_ st.1 u + 1)) k < (st.2 ++ [x]).length;have:=h.bnd u;have:=h.bnd k;rw [hset,CO]; split <;> simp <;> omega
  ·intro k hk;rcases CY.1 hk with hk | hk
   ·rcases h.par k hk with e | ⟨p,hp,e,e2⟩
    ·exact .inl e
    ·exact .inr ⟨p,C0 _ hp,e,by show at_ (st.1.set _ _) k=at_ (st.1.set _ _) p + 1;rw [hold k hk,hold p hp];exact e2⟩
   ·obtain rfl:k=x:=by simpa using hk
    exact .inr ⟨u,C0 _ hum,he,by show at_ (st.1.set _ _) k=at_ (st.1.set _ _) u + 1;rw [hold u hum,hset,if_pos rfl]⟩
  ·have:a∈st.2:=h.r a (by rw [h.za];omega);show at_ (st.1.set _ _) a=0;rw [hold a this];exact h.za
  ·intro j hj v hv k hk;have hj2:j < st.2.length:=DE hj h.il;have hv2:st.2[j]?=some v:=by
    rcases hget j v hv with e | ⟨e,_⟩
    ·exact e
    ·omega
   obtain ⟨h1,h2⟩:=h.clo j hj v hv2 k hk;exact ⟨List.mem_append_left _ h1,by show at_ (st.1.set _ _) k<=at_ (st.1.set _ _) v + 1;rw [hold k h1,hold v (CV hv2)];exact h2⟩
  ·intro j k p v hjk hj hk;show at_ (st.1.set _ _) p<=at_ (st.1.set _ _) v;rcases hget k v hk with e | ⟨e,rfl⟩
   ·have hj2:st.2[j]?=some p:=by
     rcases hget j p hj with e2 | ⟨e2,_⟩
     ·exact e2
     ·have:=(CT.1 e).1;omega
    rw [hold v (CV e),hold p (CV hj2)];exact h.srt j k p v hjk hj2 e
   ·have hj2:st.2[j]?=some p:=by
     rcases hget j p hj with e2 | ⟨e2,_⟩
     ·exact e2
     ·omega
    rw [hold p (CV hj2),hset,if_pos rfl];exact h.mx u hu p (CV hj2)
  ·intro v hv w hw;have hvu:v=u:=by
    have:(st.2 ++ [x])[i]?=some u:=hgr.pre i u hu;rw [this] at hv;exact (Option.some.inj hv).symm
   subst hvu;show at_ (st.1.set _ _) w<=at_ (st.1.set _ _) v + 1;rw [hold v hum];rcases CY.1 hw with hw | hw
   ·rw [hold w hw];exact h.mx v hu w hw
   ·obtain rfl:w=x:=by simpa using hw
    rw [hset,if_pos rfl];omega
  ·have:=h.il;simp;omega
  ·show at_ (st.1.set _ _) x<=at_ (st.1.set _ _) u + 1;rw [hold u hum,hset,if_pos rfl];omega
 ·rw [if_neg hx];exact ⟨h,.refl st,h.r x om_,h.mx u hu x (h.r x om_)⟩
theorem Iv.row {g:List GW} {a:Int} {i:Nat} {u:Int} (hg:Gd_ g):∀ (l:GW) {st:GW×GW},Iv g a i st->st.2[i]?=some u->(∀ x∈l,Edge g u x) ->
  Iv g a i (Px u l st)/\Grew st (Px u l st)/\∀ x∈l,x∈(Px u l st).2/\at_ (Px u l st).1 x<=at_ (Px u l st).1 u + 1
 | [],st,h,_,_=>⟨h,.refl st,λx hx=>by simp at hx⟩
 | y :: l,st,h,hu,he=>by
  obtain ⟨h1,h2,h3,h4⟩:=h.step hg hu (he y smp_);obtain ⟨k1,k2,k3⟩:=Iv.row hg l h1 (h2.pre i u hu) λx hx=>he x (by simp [hx]);refine ⟨k1,h2.trans k2,λx hx=>?_⟩;have hum:u∈(Dp u st y).2:=CV (h2.pre i u hu);rcases C7.1 hx with rfl | hx
  ·exact ⟨k2.mem h3,by show at_ (Px u l (Dp u st x)).1 x<=at_ (Px u l (Dp u st x)).1 u + 1;rw [k2.keep x h3,k2.keep u hum];exact h4⟩
  ·exact k3 x hx
theorem Iv.next {g:List GW} {a:Int} {i:Nat} {st:GW×GW} {u:Int} (hg:Gd_ g) (h:Iv g a i st) (hu:st.2[i]?=some u) :
  Iv g a (i + 1) (Px u ((idx g u).getD []) st)/\Grew st (Px u ((idx g u).getD []) st):=by
 obtain ⟨k1,k2,k3⟩:=h.row hg ((idx g u).getD []) hu (by
  intro x hx;cases hl:idx g u with
  | none=>simp [hl] at hx
  | some l=>exact ⟨l,hl,by simpa [hl] using hx⟩)
 have hu2:=k2.pre i u hu;refine ⟨⟨k1.len,k1.q,k1.r,k1.neg,k1.nd,k1.bnd,k1.par,k1.za,?_,k1.srt,?_,?_⟩,k2⟩
 ·intro j hj v hv k hk;rcases D3 j i with h1 | h1
  ·exact k1.clo j h1 v hv k hk
  ·obtain rfl:j=i:=by omega
   rw [hu2] at hv;obtain rfl:=Option.some.inj hv;obtain ⟨l,hl,hm⟩:=hk;exact k3 k (by simpa [hl] using hm)
 ·intro v hv w hw;have h1:=k1.mx u hu2 w hw;have h2:=k1.srt i (i + 1) u v om_ hu2 hv;omega
 ·exact Nat.succ_le_of_lt (CT.1 hu2).1
theorem Uh:∀ (n:Nat) {q:GW},q.Nodup->(∀ u∈q,0<=u/\u < n)->q.length<=n
 | 0,q,_,h=>by
  cases q with
  | nil=>simp
  | cons u q=>have:=h u smp_;omega
 | n + 1,q,hn,h=>by
  have h1:(q.erase (n:Int)).Nodup:=hn.erase _;have:=Uh n (q:=q.erase (n:Int)) h1 λu hu=>by
   have hu2:=List.Nodup.mem_erase_iff hn |>.1 hu;have:=h u hu2.2;have:=hu2.1;omega
  have h2:=List.length_erase (a:=(n:Int)) (l:=q);split at h2 <;> omega
theorem Iv.qlen {g:List GW} {a:Int} {i:Nat} {st:GW×GW} (h:Iv g a i st):st.2.length<=g.length:=
 Uh _ h.nd λu hu=>by
  have:=AH (h.q u hu).1;rw [h.len] at this;exact this
structure Lv (g:List GW) (a:Int) (out:GW):Prop where
 len:out.length=g.length
 rch:∀ k,0<=at_ out k↔Rch g a k
 neg:∀ k,-1<=at_ out k
 bnd:∀ k,at_ out k < g.length
 za:at_ out a=0
 par:∀ k,Rch g a k->k≠a->∃ p,Rch g a p/\Edge g p k/\at_ out k=at_ out p + 1
 edge:∀ u k,Rch g a u->Edge g u k->at_ out k<=at_ out u + 1
theorem Iv.done {g:List GW} {a:Int} {i:Nat} {st:GW×GW} (h:Iv g a i st) (hi:st.2.length<=i):Lv g a st.1:=by
 have hcl:∀ u∈st.2,∀ k,Edge g u k->k∈st.2/\at_ st.1 k<=at_ st.1 u + 1:=λu hu k hk=>by
  obtain ⟨j,hj⟩:=FW hu;exact h.clo j (DE (CT.1 hj).1 hi) u hj k hk
 have hr:∀ k,Rch g a k->k∈st.2:=λk hk=>by
  induction hk with
  | refl=>exact h.r a (by rw [h.za];omega)
  | step _ e ih=>exact (hcl _ ih _ e).1
 exact ⟨h.len,λk=>⟨λhk=>(h.q k (h.r k hk)).2,λhk=>(h.q k (hr k hk)).1⟩,h.neg,λk=>by have:=h.bnd k;have:=h.qlen;omega,h.za,
  λk hk hne=>by
   rcases h.par k (hr k hk) with e | ⟨p,hp,e,e2⟩
   ·exact absurd e hne
   ·exact ⟨p,(h.q p hp).2,e,e2⟩,
  λu k hu he=>(hcl u (hr u hu) k he).2⟩
theorem Vk {g:List GW} {a:Int} (hg:Gd_ g):∀ (n i:Nat) {st:GW×GW},Iv g a i st->g.length < n + i->Lv g a (bfs g n i st).1
 | 0,i,st,h,hn=>by have:=h.qlen;exact h.done om_
 | n + 1,i,st,h,hn=>by
  unfold bfs;cases hu:st.2[i]? with
  | none=>exact h.done (by simpa using hu)
  | some u=>
   exact Vk hg n (i + 1) (h.next hg hu).1 om_
theorem Iv.init {g:List GW} {a:Int} (h0:0<=a) (h1:a < g.length):Iv g a 0 ((List.replicate g.length (-1)).set a.toNat 0,[a]):=by
 have hl:a < (List.replicate g.length (-1:Int)).length:=by simpa using h1
 have hrep:∀ k,at_ (List.replicate g.length (-1:Int)) k=-1:=λk=>by
  unfold at_ idx;split
  ·simp only [FO]; split <;> rfl
  ·rfl
 have hset:∀ k,at_ ((List.replicate g.length (-1:Int)).set a.toNat 0) k=if k=a then 0 else -1:=λk=>by
  rw [CH h0 hl,hrep]
 refine ⟨by simp,?_,?_,?_,by simp,?_,?_,?_,?_,?_,?_,by simp⟩
 ·intro u hu;obtain rfl:u=a:=by simpa using hu
  exact ⟨by show 0<=at_ (List.set _ _ _) u;rw [hset,if_pos rfl];omega,.refl⟩
 ·intro k hk;replace hk:0<=at_ ((List.replicate g.length (-1:Int)).set a.toNat 0) k:=hk;rw [hset] at hk;split at hk
  ·rename_i e;subst e;simp
  ·omega
 ·intro k; show -1<=at_ (List.set _ _ _) k; rw [hset]; split <;> omega
 ·intro k; show at_ (List.set _ _ _) k < _; rw [hset]; split <;> simp
 ·intro k hk;exact .inl (by simpa using hk)
 ·show at_ (List.set _ _ _) a=0;rw [hset,if_pos rfl]
 ·intro j hj;omega
 ·intro j k u v hjk hj hk;have:=(CT.1 hk).1;simp at this;omega
 ·intro u hu v hv;have hv:v=a:=by simpa using hv
  have hu:u=a:=by simpa using hu.symm
  subst hv;subst hu;omega
def lev (g:List GW) (a:Int):GW:=(bfs g (g.length + 1) 0 ((List.replicate g.length (-1)).set a.toNat 0,[a])).1
theorem Zn {g:List GW} {a:Int} (hg:Gd_ g) (h0:0<=a) (h1:a < g.length):Lv g a (lev g a):=Vk hg _ _ (Iv.init h0 h1) om_
theorem Lv.unique {g:List GW} {a:Int} {x y:GW} (h:Lv g a x) (k:Lv g a y):x=y:=by
 have key:∀ {x y:GW},Lv g a x->Lv g a y->∀ (n:Nat) v,Rch g a v->at_ x v=n->at_ y v<=n:=by
  intro x y h k n
  induction n with
  | zero=>
   intro v hv hx;by_cases hva:v=a
   ·subst hva;rw [k.za];omega
   ·obtain ⟨p,hp,_,e⟩:=h.par v hv hva;have:=(h.rch p).2 hp;omega
  | succ n ih=>
   intro v hv hx;by_cases hva:v=a
   ·subst hva;rw [k.za];omega
   ·obtain ⟨p,hp,he,e⟩:=h.par v hv hva;have h1:=ih p hp om_;have h2:=k.edge p v hp he;omega
 have hat:∀ v,at_ x v=at_ y v:=λv=>by
  by_cases hv:Rch g a v
  ·have h1:=(h.rch v).2 hv;have h2:=(k.rch v).2 hv;obtain ⟨m,hm⟩:=ES h1;obtain ⟨n,hn⟩:=ES h2;have:=key h k m v hv hm;have:=key k h n v hv hn;omega
  ·have h1:¬ 0<=at_ x v:=λe=>hv ((h.rch v).1 e);have h2:¬ 0<=at_ y v:=λe=>hv ((k.rch v).1 e);have:=h.neg v;have:=k.neg v;omega
 apply List.ext_getElem (by rw [h.len,k.len]);intro i h1 h2;have:=hat i;rw [Nr (x:=x[i]) (by simp [idx,h1]),Nr (x:=y[i]) (by simp [idx,h2])] at this;exact this
end Go.Pn
namespace Go.Pn
open Go
theorem An {i:Nat} (h:i < 4611686018427387904):wr ((i:Int) + 1)=((i + 1:Nat):Int):=by
 rw [Ar om_ om_];rfl
theorem Ak {i n:Nat}:decide ((i:Int) < (n:Int))=decide (i < n):=by
 simp
theorem Ks (xs:GW) (x:Int) (hl:xs.length < 4611686018427387904):∀ (n i:Nat),i<=xs.length->xs.length - i < n ->
  (∃ j:Nat,Mv xs x n i=some (.ret j)/\x∈xs)\/(∃ z,Mv xs x n i=some (.brk z)/\x ∉ xs.drop i)
 | 0,i,_,h=>by omega
 | n + 1,i,h1,h2=>by
  unfold Mv;by_cases hi:i < xs.length
  ·rw [Ak,dt_ hi,ct_,Aj,gE_ hi,ob_];by_cases hx:x=xs[i]
   ·left;refine ⟨i,by simp [hx],by rw [hx];exact CS hi⟩
   ·rw [beq_eq_false_iff_ne.2 hx,cf_,An om_];rcases Ks xs x hl n (i + 1) om_ om_ with h | ⟨z,h,hn⟩
    ·exact .inl h
    ·refine .inr ⟨z,h,?_⟩;rw [C2 hi];exact λh=>(C7.1 h).elim hx hn
  ·rw [Ak,df_ hi,cf_];refine .inr ⟨_,rfl,?_⟩;rw [CW om_];simp
theorem BL {f:Nat} {xs:GW} {x:Int} (hl:xs.length < 4611686018427387904) (hf:xs.length < f):m23 f xs x=some (decide (x∈xs)):=by
 unfold m23 m56;have h0:((0:Nat):Int)=0:=rfl;rw [← h0];rcases Ks xs x hl f 0 om_ om_ with ⟨j,h,hm⟩ | ⟨z,h,hn⟩
 ·rw [h];simp [hm]
 ·rw [h];simp at hn;simp [hn]
theorem Kv (g:List GW) (a:Int) (u:Int) (i0:Nat) (hg:Gd_ g) (hgl:g.length < 1000000000) (l:GW) (hll:l.length < 4611686018427387904) (hl:∀ x∈l,Edge g u x) (z5:Int×GW×GW) (hz:z5.1=i0) :
  ∀ (n i:Nat) (st:GW×GW),Iv g a i0 st->st.2[i0]?=some u->i<=l.length->l.length - i < n ->
   Qr z5 l n (i,st.1,st.2)=some ((l.length:Int),(Px u (l.drop i) st).1,(Px u (l.drop i) st).2)
 | 0,i,_,_,_,_,h=>by omega
 | n + 1,i,st,h,hu,h1,h2=>by
  unfold Qr;by_cases hi:i < l.length
  ·have hx:=CS hi;have he:=hl _ hx;have hxl:=hg.edge he;have hux:u∈st.2:=CV hu;have hul:=AH (h.q u hux).1;obtain ⟨h',hgr,_,_⟩:=h.step hg hu he;dsimp only;rw [Ak,dt_ hi,ct_,Aj,gE_ hi,ob_,Nn hxl.1 (by rw [h.len];exact hxl.2),ob_];have hd:l.drop i=l[i] :: l.drop (i + 1):=C2 hi;rw [hd];have hb:Px u (l[i] :: l.drop (i + 1)) st=Px u (l.drop (i + 1)) (Dp u st l[i]):=rfl;rw [hb,An om_];have ih:=Kv g a u i0 hg hgl l hll hl z5 hz n (i + 1) (Dp u st l[i]) h' (hgr.pre _ _ hu) om_ om_;rw [← ih];by_cases hc:at_ st.1 l[i] < 0
   ·have hql:=h.qlen;have hbd:=h.bnd u;have hneg:=h.neg u;rw [dt_ hc,ct_,hz,Aj,hu,ob_,Nn hul.1 hul.2,ob_,ob_];unfold app;rw [if_pos so_,ob_,ob_,Ar om_ om_];unfold Dp;rw [if_pos hc]
   ·rw [df_ hc,cf_,ob_];unfold Dp;rw [if_neg hc]
  ·rw [Ak,df_ hi,cf_];rw [CW om_];have:i=l.length:=by omega
   subst this;rfl
theorem Ky (f:Nat) (g:List GW) (a:Int) (hg:Gd_ g) (hgl:g.length < 1000000000) (hrow:∀ l∈g,l.length < f/\l.length < 4611686018427387904) :
  ∀ (n i:Nat) (st:GW×GW),Iv g a i st->g.length < n + i ->
   ∃ z,Qs f g n (i,st.1,st.2)=some (z,(bfs g n i st).1,(bfs g n i st).2)
 | 0,i,st,h,h1=>by
  have:=h.qlen;have:=h.il;omega
 | n + 1,i,st,h,h1=>by
  unfold Qs bfs;have hql:=h.qlen;by_cases hi:i < st.2.length
  ·dsimp only;rw [Ak,dt_ hi,ct_,Aj,gE_ hi,ob_];have hu:st.2[i]?=some st.2[i]:=gE_ hi;have hnn:=AH (h.q _ (CS hi)).1;rw [h.len] at hnn;obtain ⟨l,hl,hlm⟩:=Cp (xs:=g) hnn.1 hnn.2;rw [hl,ob_];have hz:((0:Nat):Int)=0:=rfl;have:=Kv g a st.2[i] i hg hgl l (hrow l hlm).2 (λx hx=>⟨l,hl,hx⟩) ((i:Int),st.1,st.2) rfl f 0 st h hu om_ (by have:=(hrow l hlm).1;omega);rw [hz] at this;rw [this,ob_,An om_];have h2:=(h.next hg hu);rw [hl] at h2;simp only [FD,C6] at h2 ⊢;have ih:=Ky f g a hg hgl hrow n (i + 1) _ h2.1 om_;rw [hl];exact ih
  ·dsimp only;rw [Ak,df_ hi,cf_,DO om_];exact ⟨_,rfl⟩
def FF:Nat:=100000
theorem rep_tab:((List.range 121).all λn=>n == 0 || (m57 100000 [(-1:Int)] (n:Int) == some (List.replicate n (-1))))=true:=by kernel_rfl
theorem AT {n:Nat} (h0:0 < n) (h:n<=120):m57 FF [(-1:Int)] (n:Int)=some (List.replicate n (-1)):=by
 have:=C1.1 rep_tab n (C3.2 om_);have h1:(n == 0)=false:=by simp;omega
 rw [h1] at this;show m57 100000 _ _=_;simpa using this
theorem BK {g:List GW} {a:Int} (hg:Gd_ g) (hgl:g.length<=120) (hrow:∀ l∈g,l.length < 100000) (h0:0<=a) (h1:a < g.length):m24 FF g a=some (lev g a):=by
 unfold m24;rw [AT om_ hgl,ob_,Nn h0 (by simpa using h1),ob_];obtain ⟨z,hz⟩:=Ky FF g a hg om_ (λl hl=>⟨hrow l hl,by have:=hrow l hl;omega⟩) FF 0 _ (Iv.init h0 h1) (by unfold FF;omega);have e0:((0:Nat):Int)=0:=rfl;rw [e0] at hz;rw [hz,ob_];have hb:∀ (n i:Nat) (st:GW×GW),Iv g a i st->g.length < n + i->(bfs g n i st).1=lev g a:=λn i st h hn=>
  Lv.unique (Vk hg n i h hn) (Zn hg h0 h1)
 rw [hb _ _ _ (Iv.init h0 h1) (by unfold FF;omega)]
def bad (n:Nat) (k:Int):Bool:=decide (k < 0) || decide (k>=(n:Int))
theorem Gy (f:Nat) (xs:GW) (v:Ag) (hl:xs.length < 4611686018427387904):∀ (n i:Nat),i<=xs.length->xs.length - i < n ->
  (∃ j:Nat,En f xs v n i=some (.ret j)/\(xs.drop i).any (bad v.States.length)=true)\/(∃ z,En f xs v n i=some (.brk z)/\(xs.drop i).any (bad v.States.length)=false)
 | 0,i,_,h=>by omega
 | n + 1,i,h1,h2=>by
  unfold En;by_cases hi:i < xs.length
  ·rw [Ak,dt_ hi,ct_,Aj,gE_ hi,ob_];have hd:xs.drop i=xs[i] :: xs.drop (i + 1):=C2 hi;unfold m54;rw [ob_,hd,FG];change _\/_;by_cases hx:bad v.States.length xs[i]=true
   ·left;unfold bad at hx ⊢;rw [hx];exact ⟨i,rfl,rfl⟩
   ·have hx:=GV.2 hx;rw [hx];unfold bad at hx;rw [hx,cf_,An om_,D8];exact Gy f xs v hl n (i + 1) om_ om_
  ·rw [Ak,df_ hi,cf_];refine .inr ⟨_,rfl,?_⟩;rw [CW om_];rfl
theorem Vu {f:Nat} {xs:GW} {v:Ag} (hl:xs.length < 4611686018427387904) (hf:xs.length < f):Xd f xs v=some (xs.any (bad v.States.length)):=by
 unfold Xd BE;have h0:((0:Nat):Int)=0:=rfl;rw [← h0];rcases Gy f xs v hl f 0 om_ om_ with ⟨j,h,hm⟩ | ⟨z,h,hn⟩
 ·rw [h];simp only [C6] at hm;rw [hm];simp
 ·rw [h];simp only [C6] at hn;rw [hn];simp
theorem Lb (f:Nat) (v:Ag) (hl:v.Moves.length < 4611686018427387904) (hrow:∀ l∈v.Moves,l.length < f/\l.length < 4611686018427387904):∀ (n i:Nat),i<=v.Moves.length->v.Moves.length - i < n ->
  (Ni f v n i=some (.ret 6)/\(v.Moves.drop i).any (λl=>l.any (bad v.States.length))=true)\/(∃ z,Ni f v n i=some (.brk z)/\(v.Moves.drop i).any (λl=>l.any (bad v.States.length))=false)
 | 0,i,_,h=>by omega
 | n + 1,i,h1,h2=>by
  unfold Ni;by_cases hi:i < v.Moves.length
  ·have hr:=hrow _ (CS hi);rw [Ak,dt_ hi,ct_,Aj,gE_ hi,ob_,Vu hr.2 hr.1,ob_];have hd:v.Moves.drop i=v.Moves[i] :: v.Moves.drop (i + 1):=C2 hi;rw [hd,FG];cases hx:v.Moves[i].any (bad v.States.length) with
   | true=>exact .inl ⟨rfl,rfl⟩
   | false=>
    rw [cf_,An om_,D8];exact Lb f v hl hrow n (i + 1) om_ om_
  ·rw [Ak,df_ hi,cf_];refine .inr ⟨_,rfl,?_⟩;rw [CW om_];rfl
theorem Kt (v:Ag) (i0:Nat) (l:GW) (hl0:v.Moves[i0]?=some l) (hl:l.length < 4611686018427387904):∀ (n i:Nat),i<=l.length->l.length - i < n ->
  (Ng v i0 n i=some (.ret 6)/\(l.drop i).any (bad v.States.length)=true)\/(∃ z,Ng v i0 n i=some (.brk z)/\(l.drop i).any (bad v.States.length)=false)
 | 0,i,_,h=>by omega
 | n + 1,i,h1,h2=>by
  unfold Ng;rw [Aj,hl0,ob_];by_cases hi:i < l.length
  ·rw [Ak,dt_ hi,ct_];simp only [ob_,Aj,gE_ hi];have hd:l.drop i=l[i] :: l.drop (i + 1):=C2 hi;rw [hd,FG];have hb:(bif decide (l[i] < 0) then some true else some (decide (l[i]>=((v.States.length:Nat):Int))))=some (bad v.States.length l[i]):=by
    unfold bad;cases decide (l[i] < 0) <;> rfl
   rw [hb,ob_];cases hx:bad v.States.length l[i] with
   | true=>exact .inl ⟨rfl,rfl⟩
   | false=>
    rw [cf_,An om_,D8];exact Kt v i0 l hl0 hl n (i + 1) om_ om_
  ·rw [Ak,df_ hi,cf_];refine .inr ⟨_,rfl,?_⟩;rw [CW om_];rfl
theorem Ku (f:Nat) (v:Ag) (hl:v.Moves.length < 4611686018427387904) (hrow:∀ l∈v.Moves,l.length < f/\l.length < 4611686018427387904):∀ (n i:Nat),i<=v.Moves.length->v.Moves.length - i < n ->
  (Nh f v n i=some (.ret 6)/\(v.Moves.drop i).any (λl=>l.any (bad v.States.length))=true)\/(∃ z,Nh f v n i=some (.brk z)/\(v.Moves.drop i).any (λl=>l.any (bad v.States.length))=false)
 | 0,i,_,h=>by omega
 | n + 1,i,h1,h2=>by
  unfold Nh;by_cases hi:i < v.Moves.length
  ·have hr:=hrow _ (CS hi);rw [Ak,dt_ hi,ct_];have hd:v.Moves.drop i=v.Moves[i] :: v.Moves.drop (i + 1):=C2 hi;rw [hd,FG];have h0:((0:Nat):Int)=0:=rfl;rcases Kt v i v.Moves[i] (gE_ hi) hr.2 f 0 om_ om_ with ⟨h,hm⟩ | ⟨z,h,hn⟩
   ·rw [h0] at h;rw [h];simp only [C6] at hm;rw [hm];exact .inl ⟨rfl,rfl⟩
   ·rw [h0] at h;rw [h];simp only [C6] at hn;rw [hn];rw [ob_];dsimp only;rw [An om_,D8];exact Ku f v hl hrow n (i + 1) om_ om_
  ·rw [Ak,df_ hi,cf_];refine .inr ⟨_,rfl,?_⟩;rw [CW om_];rfl
def shp (v:Ag):Int:=
 bif v.States.length == 0 then 13 else bif decide (v.States.length > 16384) then 5 else bif v.Moves.length != v.States.length then 8 else bif v.Moves.any (λl=>l.any (bad v.States.length)) then 6 else 0
theorem Br {a b:Nat}:(((a:Nat):Int) == ((b:Nat):Int))=(a == b):=by
 rw [EF];simp;omega
theorem BM {f:Nat} {v:Ag} (hl:v.Moves.length < f) (hl2:v.Moves.length < 4611686018427387904) (hrow:∀ l∈v.Moves,l.length < f/\l.length < 4611686018427387904):m21 f v=some (shp v):=by
 have h0:((0:Nat):Int)=0:=rfl;have h1:decide ((v.States.length:Int) > 16384)=decide (v.States.length > 16384):=decide_eq_decide.2 om_;have h2:(((v.Moves.length:Nat):Int) != ((v.States.length:Nat):Int))=(v.Moves.length != v.States.length):=congrArg (!·) Br;have h3:(((v.States.length:Nat):Int) == 0)=(v.States.length == 0):=Br (b:=0);unfold m21 shp;rw [h3,h1,h2];cases v.States.length == 0
 ·cases decide (v.States.length > 16384)
  ·cases v.Moves.length != v.States.length
   ·simp only [cf_];rcases Lb f v hl2 hrow f 0 om_ om_ with ⟨h,hm⟩ | ⟨z,h,hn⟩
    ·rw [h0] at h;rw [h];simp only [C6] at hm;rw [hm];rfl
    ·rw [h0] at h;rw [h];simp only [C6] at hn;rw [hn];rfl
   ·rfl
  ·rfl
 ·rfl
theorem BJ {f:Nat} {v:Ag} (hl:v.Moves.length < f) (hl2:v.Moves.length < 4611686018427387904) (hrow:∀ l∈v.Moves,l.length < f/\l.length < 4611686018427387904):m28 f v=some (shp v):=by
 have h0:((0:Nat):Int)=0:=rfl;have h1:decide ((v.States.length:Int) > 16384)=decide (v.States.length > 16384):=decide_eq_decide.2 om_;have h2:(((v.Moves.length:Nat):Int) != ((v.States.length:Nat):Int))=(v.Moves.length != v.States.length):=congrArg (!·) Br;have h3:(((v.States.length:Nat):Int) == 0)=(v.States.length == 0):=Br (b:=0);unfold m28 shp;rw [h3,h1,h2];cases v.States.length == 0
 ·cases decide (v.States.length > 16384)
  ·cases v.Moves.length != v.States.length
   ·simp only [cf_];rcases Ku f v hl2 hrow f 0 om_ om_ with ⟨h,hm⟩ | ⟨z,h,hn⟩
    ·rw [h0] at h;rw [h];simp only [C6] at hm;rw [hm];rfl
    ·rw [h0] at h;rw [h];simp only [C6] at hn;rw [hn];rfl
   ·rfl
  ·rfl
 ·rfl
theorem Tw {v:Ag} (h:shp v=0):0 < v.States.length/\v.Moves.length=v.States.length/\Gd_ v.Moves:=by
 unfold shp at h;cases h1:v.States.length == 0 <;> rw [h1] at h
 case true=>simp at h
 cases h2:decide (v.States.length > 16384) <;> rw [h2] at h
 case true=>simp at h
 cases h3:v.Moves.length != v.States.length <;> rw [h3] at h
 case true=>simp at h
 cases h4:v.Moves.any (λl=>l.any (bad v.States.length)) <;> rw [h4] at h
 case true=>simp at h
 have h1:v.States.length≠0:=by simpa using h1
 have h3:v.Moves.length=v.States.length:=by simpa using h3
 refine ⟨by omega,h3,λl hl k hk=>?_⟩;rw [D1] at h4;have h5:=h4 l hl;rw [Bool.not_eq_true,D1] at h5;have h6:=h5 k hk;unfold bad at h6;simp at h6;omega
theorem Xa {f:Nat} (hf:300 < f) (v:Ag):∃ b,m5 f v=some b/\(b=true->v.States.length<=40/\v.Moves.length<=200/\∀ l∈v.Moves,l.length<=40):=by
 have h0:((0:Nat):Int)=0:=rfl;have h1:∀ (n i:Nat),v.Moves.length<=200->i<=v.Moves.length->v.Moves.length - i < n->(Vt v n i=some (.ret false))\/(∃ z,Vt v n i=some (.brk z)/\∀ l∈v.Moves.drop i,l.length<=40):=by
  intro n
  induction n with
  | zero=>intro i _ _ h;omega
  | succ n ih=>
   intro i hm h1 h2;unfold Vt;by_cases hi:i < v.Moves.length
   ·rw [Ak,dt_ hi,ct_,Aj,gE_ hi,ob_];by_cases hx:((v.Moves[i].length:Int) > 40)
    ·rw [dt_ hx];exact .inl rfl
    ·rw [df_ hx,cf_,An om_];refine (ih (i + 1) hm om_ om_).imp id λ⟨z,h,hn⟩=>⟨z,h,?_⟩;rw [C2 hi];exact λl hl=>(C7.1 hl).elim (λe=>by subst e;omega) (hn l)
   ·rw [Ak,df_ hi,cf_];refine .inr ⟨_,rfl,?_⟩;rw [CW om_];simp
 have h2:∀ (n i:Nat),v.States.length<=40->i<=v.States.length->v.States.length - i < n->(Ta f v n i=some (.ret false))\/(∃ z,Ta f v n i=some (.brk z)):=by
  intro n
  induction n with
  | zero=>intro i _ _ h;omega
  | succ n ih=>
   intro i hm h1 h2;unfold Ta;by_cases hi:i < v.States.length
   ·rw [Ak,dt_ hi,ct_,Aj,gE_ hi,ob_];unfold m11;rw [ob_];generalize (!_:Bool)=c;cases c
    ·rw [cf_,An om_];exact ih (i + 1) hm om_ om_
    ·exact .inl rfl
   ·rw [Ak,df_ hi,cf_];exact .inr ⟨_,rfl⟩
 unfold m5;by_cases hs:(((v.States.length:Nat):Int) > 40)
 ·rw [dt_ hs];exact ⟨false,rfl,by simp⟩
 ·rw [df_ hs,D8];by_cases hm:(((v.Moves.length:Nat):Int) > 200)
  ·rw [dt_ hm];exact ⟨false,rfl,by simp⟩
  ·rw [df_ hm,cf_];have hs:v.States.length<=40:=by omega
   have hm:v.Moves.length<=200:=by omega
   rcases h2 f 0 hs om_ om_ with h | ⟨z,h⟩
   ·rw [h0] at h;rw [h];exact ⟨false,rfl,by simp⟩
   ·rw [h0] at h;rw [h,ob_];rcases h1 f 0 hm om_ om_ with h | ⟨z,h,hn⟩
    ·rw [h0] at h;dsimp only;rw [h];exact ⟨false,rfl,by simp⟩
    ·rw [h0] at h;dsimp only;rw [h];exact ⟨true,rfl,λ_=>⟨hs,hm,by simpa using hn⟩⟩
end Go.Pn
namespace Go.Pn
theorem lT {i n : Nat} {α : Type} {a b : α} (h : i < n) : (bif decide ((i : Int) < (n : Int)) then a else b) = a := by rw [Ak, decide_eq_true h]; rfl
theorem lF {i n : Nat} {α : Type} {a b : α} (h : ¬ i < n) : (bif decide ((i : Int) < (n : Int)) then a else b) = b := by rw [Ak, decide_eq_false h]; rfl
theorem iX {α β : Type} {xs : List α} {i : Nat} {f : α → Option β} (h : i < xs.length) : (idx xs (i : Int)).bind f = f xs[i] := by rw [Aj, DD h]; rfl
theorem uF {p : Prop} (h : p := by unfold FF; omega) : p := h
end Go.Pn
namespace Go.Pn
open Go
theorem Hv {κ β:Type} {eqb:κ->κ->Bool} {k:κ}:∀ {m:List (κ×β)} {i:Nat},Bz eqb k m (i + 1)=(Bz eqb k m i).map λq=>(q.1 + 1,q.2)
 | [],_=>rfl
 | (k',y) :: m,i=>by
  unfold Bz;split
  ·rfl
  ·exact Hv
theorem Ba {κ ν:Type} {eqb:κ->κ->Bool} {m:List (κ×ν)} {k k':κ} {y:ν}:mat eqb ((k',y) :: m) k=if eqb k k' then some y else mat eqb m k:=by
 unfold mat
 rw [Bz];split
 ·rfl
 ·rw [Hv,Option.map_map];rfl
theorem Kl {κ ν:Type} {eqb:κ->κ->Bool} {m:List (κ×ν)} {k k':κ} {y z:ν}:Jl eqb ((k',z) :: m) k y=if eqb k k' then (k',y) :: m else (k',z) :: Jl eqb m k y:=by
 unfold Jl;rw [Bz];by_cases h:eqb k k'=true
 ·rw [if_pos h,if_pos h];rfl
 ·rw [if_neg h,if_neg h,Hv];cases Bz eqb k m 0 with
  | none=>rfl
  | some q=>rfl
theorem mat_put {ν:Type} {m:List (Int×ν)} {k j:Int} {y:ν}:mat Ka (Jl Ka m k y) j=if j=k then some y else mat Ka m j:=by
 induction m with
 | nil=>
  show mat Ka [(k,y)] j=_;rw [Ba];by_cases h:j=k <;> simp [Ka,h]
 | cons p m ih=>
  obtain ⟨k',z⟩:=p;rw [Kl,Ba];by_cases h:k=k'
  ·subst h;rw [if_pos (by simp [Ka]),Ba];by_cases h2:j=k <;> simp [Ka,h2]
  ·rw [if_neg (by simp [Ka,h]),Ba,ih];by_cases h2:j=k'
   ·subst h2;have h3:¬ (j=k):=λe=>h e.symm;simp [Ka,h3]
   ·simp [Ka,h2]
end Go.Pn
namespace Go.Pn
open Go
theorem Sg {α:Type} {p:α->Bool} {x:α} {l:List α}:(x :: l).findIdx? p=if p x then some 0 else (l.findIdx? p).map (· + 1):=by
 rw [List.findIdx?_cons]
end Go.Pn
namespace Go.Pn
open Go
theorem awakeFF:m7 100000=some true:=by kernel_rfl
theorem Oe:m7 FF=some true:=awakeFF
end Go.Pn
namespace Go.Pn
open Go
theorem Tt {α β:Type} {L:Nat->Int->Option (Lo Int β)} {xs:List α} {p:Int->α->Option Bool} {q:α->Bool} {r:Int->β}
  (h:∀ n z,L (n + 1) z=(bif decide (z < (xs.length:Int)) then (idx xs z).bind λx=>(p z x).bind λb=>bif b then some (.ret (r z)) else L n (wr (z + 1)) else some (.brk z)))
  (hl:xs.length < 4611686018427387904) (hq:∀ (i:Nat) x,xs[i]?=some x->p i x=some (q x)) :
  ∀ (n i:Nat),i<=xs.length->xs.length - i < n->L n i=match (xs.drop i).findIdx? q with
   | some j=>some (.ret (r ((i + j:Nat):Int)))
   | none=>some (.brk (xs.length:Int))
 | 0,i,_,h=>by omega
 | n + 1,i,h1,h2=>by
  rw [h];by_cases hi:i < xs.length
  ·have hx:xs[i]?=some xs[i]:=gE_ hi;rw [Ak,dt_ hi,ct_,Aj,hx,ob_,hq i _ hx,ob_,C2 hi,Sg];cases q xs[i] with
   | true=>rfl
   | false=>
    rw [cf_,An om_,Tt h hl hq n (i + 1) om_ om_,if_neg smp_];cases (xs.drop (i + 1)).findIdx? q with
    | none=>rfl
    | some j=>
     show some (Lo.ret (r ((i + 1 + j:Nat):Int)))=some (Lo.ret (r ((i + (j + 1):Nat):Int)));rw [show i + 1 + j=i + (j + 1) by omega]
  ·rw [Ak,df_ hi,cf_,CW om_];have:i=xs.length:=by omega
   subst this;rfl
theorem eqls {α:Type} [BEq α] [LawfulBEq α] {L:Nat->Int->Option (Lo Int Bool)} {xs ys:List α}
  (h:∀ n z,L (n + 1) z=(bif decide (z < (xs.length:Int)) then (idx xs z).bind λx=>(idx ys z).bind λy=>bif x != y then some (.ret false) else L n (wr (z + 1)) else some (.brk z)))
  (hl:xs.length < 4611686018427387904) (he:xs.length=ys.length) :
  ∀ (n i:Nat),i<=xs.length->xs.length - i < n->L n i=if xs.drop i == ys.drop i then some (.brk (xs.length:Int)) else some (.ret false)
 | 0,i,_,h=>by omega
 | n + 1,i,h1,h2=>by
  rw [h];by_cases hi:i < xs.length
  ·have hi2:i < ys.length:=by omega
   rw [Ak,dt_ hi,ct_,Aj,gE_ hi,ob_,Aj,gE_ hi2,ob_,C2 hi,C2 hi2];by_cases hx:xs[i]=ys[i]
   ·rw [show (xs[i] != ys[i])=false by simp [hx],cf_,An om_,eqls h hl he n (i + 1) om_ om_];rw [List.cons_beq_cons,show (xs[i] == ys[i])=true by simpa using hx,EE]
   ·rw [show (xs[i] != ys[i])=true by simp [hx],ct_];simp [hx]
  ·rw [Ak,df_ hi,cf_,CW om_,CW om_];have:i=xs.length:=by omega
   subst this;simp
theorem BR {α:Type} [BEq α] [LawfulBEq α] {L:Nat->Int->Option (Lo Int Bool)} {xs ys:List α} {f:Nat}
  (h:∀ n z,L (n + 1) z=(bif decide (z < (xs.length:Int)) then (idx xs z).bind λx=>(idx ys z).bind λy=>bif x != y then some (.ret false) else L n (wr (z + 1)) else some (.brk z)))
  (hl:xs.length < 4611686018427387904) (hf:xs.length < f) :
  (bif ((xs.length:Int) != (ys.length:Int)) then some false else ((L f (0:Int)).bind λo2=>match o2 with | .brk o2s=>some true | .ret r=>some r))=some (xs == ys):=by
 by_cases he:xs.length=ys.length
 ·rw [show ((xs.length:Int) != (ys.length:Int))=false by simp [he],cf_];have:=eqls h hl he f 0 om_ om_;have h0:((0:Nat):Int)=0:=rfl;rw [h0,C6,C6] at this;rw [this];cases xs == ys <;> rfl
 ·rw [show ((xs.length:Int) != (ys.length:Int))=true by simp;omega,ct_];have:xs≠ys:=λe=>he (by rw [e]);rw [show (xs == ys)=false by simpa using this]
theorem Uu {f:Nat} {xs ys:GW} (hl:xs.length < 4611686018427387904) (hf:xs.length < f):m14 f xs ys=some (xs == ys):=by
 unfold m14;exact BR (L:=Uv xs ys) (λ_ _=>rfl) hl hf
theorem Of {f:Nat} {xs ys:GX} (hl:xs.length < 4611686018427387904) (hf:xs.length < f):m55 f xs ys=some (xs == ys):=by
 unfold m55;exact BR (L:=Uo xs ys) (λ_ _=>rfl) hl hf
theorem Ry {f:Nat} {xs ys:GW} (hl:xs.length < 4611686018427387904) (hf:xs.length < f):LS f xs ys=some (xs == ys):=by
 unfold LS;exact BR (L:=Ox xs ys) (λ_ _=>rfl) hl hf
theorem Ln {f:Nat} {xs ys:GX} (hl:xs.length < 4611686018427387904) (hf:xs.length < f):LT f xs ys=some (xs == ys):=by
 unfold LT;exact BR (L:=Ov xs ys) (λ_ _=>rfl) hl hf
def sst (a b:Ac):Bool:=(a.Ends == b.Ends) && (a.Valves == b.Valves) && (a.Inputs == b.Inputs) && (a.Values == b.Values) && (a.Timers == b.Timers)
theorem Dr {a b:Ac}:sst a b=true↔a=b:=by
 cases a;cases b
 simp [sst,and_assoc]
theorem Jv {a b:Ac}:sst a b=sst b a:=by
 rw [EF,Dr,Dr];exact eq_comm
theorem Nw (a:Ac):sst a a=true:=Dr.2 rfl
structure Smst (s:Ac) (n:Nat):Prop where
 e:s.Ends.length<=n
 v:s.Valves.length<=n
 i:s.Inputs.length<=n
 x:s.Values.length<=n
 t:s.Timers.length<=n
theorem Ep {f n:Nat} {a b:Ac} (h:Smst a n) (hn:n < f) (hn2:n < 4611686018427387904):m22 f a b=some (sst a b):=by
 obtain ⟨h1,h2,h3,h4,h5⟩:=h;unfold m22 sst;rw [Uu om_ om_,Of om_ om_,Of om_ om_,Of om_ om_,Uu om_ om_];cases a.Ends == b.Ends <;> cases a.Valves == b.Valves <;> cases a.Inputs == b.Inputs <;> cases a.Values == b.Values <;> cases a.Timers == b.Timers <;> rfl
theorem El {f n:Nat} {a b:Ac} (h:Smst a n) (hn:n < f) (hn2:n < 4611686018427387904):m69 f a b=some (sst a b):=by
 obtain ⟨h1,h2,h3,h4,h5⟩:=h;unfold m69 sst;rw [Ry om_ om_,Ln om_ om_,Ln om_ om_,Ln om_ om_,Ry om_ om_];cases a.Ends == b.Ends <;> cases a.Valves == b.Valves <;> cases a.Inputs == b.Inputs <;> cases a.Values == b.Values <;> cases a.Timers == b.Timers <;> rfl
def Zu (s:Ac):Bool:=(((((decide (((s.Ends).length:Int)<=(40:Int))) && (decide (((s.Valves).length:Int)<=(40:Int)))) && (decide (((s.Inputs).length:Int)<=(200:Int)))) && (decide (((s.Values).length:Int)<=(200:Int)))) && (decide (((s.Timers).length:Int)<=(200:Int))))
theorem BQ {s:Ac} (h:Zu s=true):Smst s 200:=by
 unfold Zu at h;simp at h;obtain ⟨⟨⟨⟨h1,h2⟩,h3⟩,h4⟩,h5⟩:=h;constructor <;> omega
theorem m5_sm {f:Nat} {v:Ag} (h:m5 f v=some true) (hf:300 < f):∀ s∈v.States,Smst s 200:=by
 have hs:v.States.length<=40/\v.Moves.length<=200:=by
  obtain ⟨b,hb,h1⟩:=Xa hf v;rw [h] at hb;have:=h1 (Option.some.inj hb).symm;exact ⟨this.1,this.2.1⟩
 have h1:=Tt (L:=Ta f v) (xs:=v.States) (p:=λ_ x=>some (!Zu x)) (q:=λx=>!Zu x) (r:=λ_=>false) (λ_ _=>rfl) om_ (λ_ _ _=>rfl) f 0 om_ om_;have h0:((0:Nat):Int)=0:=rfl;rw [h0,C6] at h1;cases hc:v.States.findIdx? (λx=>!Zu x) with
 | some j=>
  exfalso;rw [hc] at h1;unfold m5 at h;rw [df_ om_,df_ om_,FT,cf_,h1] at h;cases h
 | none=>
  intro s hm;rw [DN] at hc;exact BQ (by simpa using hc s hm)
def plc (l:List Ac) (s:Ac):Int:=match l.findIdx? (λx=>sst s x) with | some j=>(j:Int) | none=>-1
theorem A7 {f n:Nat} {l:List Ac} {s:Ac} (h:∀ x∈l,Smst x n) (hn:n < f) (hn2:n < 4611686018427387904) (hl:l.length < f) (hl2:l.length < 4611686018427387904):m73 f l s=some (plc l s):=by
 unfold m73 plc;have h1:=Tt (L:=Un f l s) (xs:=l) (p:=λ_ x=>m69 f x s) (q:=λx=>sst s x) (r:=λz=>z) (λ_ _=>rfl) om_ (λi x hx=>by
  rw [El (h x (CV hx)) hn hn2,Jv]) f 0 om_ om_
 have h0:((0:Nat):Int)=0:=rfl;rw [h0,C6] at h1;rw [h1];cases l.findIdx? (λx=>sst s x) with
 | none=>rfl
 | some j=>show some (((0 + j:Nat)):Int)=_;rw [ED]
theorem Kr (v:Ag) (hl:v.States.length<=1000000):∀ (n i:Nat),i<=v.States.length->v.States.length - i < n->∃ z,Qp v n (i,List.replicate i (-1))=some (z,List.replicate v.States.length (-1))
 | 0,i,_,h=>by omega
 | n + 1,i,h1,h2=>by
  unfold Qp;dsimp only;by_cases hi:i < v.States.length
  ·unfold app;rw [Ak,dt_ hi,ct_,if_pos so_,ob_,An om_,← List.replicate_succ'];exact Kr v hl n (i + 1) om_ om_
  ·rw [Ak,df_ hi,cf_];have:i=v.States.length:=by omega
   subst this;exact ⟨_,rfl⟩
theorem Ko (v:Ag) (a:Int) (u:Int) (i0:Nat) (hg:Gd_ v.Moves) (hgl:v.Moves.length < 1000000000) (l:GW) (hlu:idx v.Moves u=some l) (hll:l.length < 4611686018427387904) (z8:Int×GW×GW) (hz:z8.1=i0) :
  ∀ (n i:Nat) (st:GW×GW),Iv v.Moves a i0 st->st.2[i0]?=some u->i<=l.length->l.length - i < n ->
   Qn v z8 n (i,st.1,st.2)=some ((l.length:Int),(Px u (l.drop i) st).1,(Px u (l.drop i) st).2)
 | 0,i,_,_,_,_,h=>by omega
 | n + 1,i,st,h,hu,h1,h2=>by
  unfold Qn;dsimp only;have hq0:idx st.2 z8.1=some u:=by rw [hz,Aj,hu]
  rw [hq0,ob_,hlu,ob_];by_cases hi:i < l.length
  ·have hx:=CS hi;have he:Edge v.Moves u l[i]:=⟨l,hlu,hx⟩;have hxl:=hg.edge he;have hux:u∈st.2:=CV hu;have hul:=AH (h.q u hux).1;obtain ⟨h',hgr,_,_⟩:=h.step hg hu he;rw [Ak,dt_ hi,ct_,ob_,hlu,ob_,Aj,gE_ hi,ob_,Nn hxl.1 (by rw [h.len];exact hxl.2),ob_];have hd:l.drop i=l[i] :: l.drop (i + 1):=C2 hi;rw [hd];have hb:Px u (l[i] :: l.drop (i + 1)) st=Px u (l.drop (i + 1)) (Dp u st l[i]):=rfl;rw [hb,An om_];have ih:=Ko v a u i0 hg hgl l hlu hll z8 hz n (i + 1) (Dp u st l[i]) h' (hgr.pre _ _ hu) om_ om_;rw [← ih];by_cases hc:at_ st.1 l[i] < 0
   ·have hql:=h.qlen;have hbd:=h.bnd u;have hneg:=h.neg u;rw [dt_ hc,ct_,ob_,Nn hul.1 hul.2,ob_,ob_];unfold app;rw [if_pos so_,ob_,ob_,Ar om_ om_];unfold Dp;rw [if_pos hc]
   ·rw [df_ hc,cf_,ob_];unfold Dp;rw [if_neg hc]
  ·rw [Ak,df_ hi,cf_];rw [CW om_];have:i=l.length:=by omega
   subst this;rfl
theorem Kq (f:Nat) (v:Ag) (a:Int) (hg:Gd_ v.Moves) (hgl:v.Moves.length < 1000000000) (hrow:∀ l∈v.Moves,l.length < f/\l.length < 4611686018427387904) :
  ∀ (n i:Nat) (st:GW×GW),Iv v.Moves a i st->v.Moves.length < n + i ->
   ∃ z,Qo f v n (i,st.1,st.2)=some (z,(bfs v.Moves n i st).1,(bfs v.Moves n i st).2)
 | 0,i,st,h,h1=>by
  have:=h.qlen;have:=h.il;omega
 | n + 1,i,st,h,h1=>by
  unfold Qo bfs;have hql:=h.qlen;dsimp only;by_cases hi:i < st.2.length
  ·rw [Ak,dt_ hi,ct_];have hu:st.2[i]?=some st.2[i]:=gE_ hi;have hnn:=AH (h.q _ (CS hi)).1;rw [h.len] at hnn;obtain ⟨l,hl,hlm⟩:=Cp (xs:=v.Moves) hnn.1 hnn.2;have hz:((0:Nat):Int)=0:=rfl;have:=Ko v a st.2[i] i hg hgl l hl (hrow l hlm).2 ((i:Int),st.1,st.2) rfl f 0 st h hu om_ (by have:=(hrow l hlm).1;omega);rw [hz] at this;rw [this,ob_,An om_];have h2:=(h.next hg hu);rw [hl] at h2;simp only [FD,C6] at h2 ⊢;have ih:=Kq f v a hg hgl hrow n (i + 1) _ h2.1 om_;rw [hu];dsimp only;rw [hl];exact ih
  ·rw [Ak,df_ hi,cf_,DO om_];exact ⟨_,rfl⟩
theorem BA {v:Ag} {a:Int} (hsh:shp v=0) (hs:v.States.length<=40) (hrow:∀ l∈v.Moves,l.length<=40) (h0:0<=a) (h1:a < v.States.length):m70 FF v a=some (lev v.Moves a):=by
 obtain ⟨hp,hml,hg⟩:=Tw hsh;unfold m70;obtain ⟨z,hz⟩:=Kr v om_ FF 0 om_ uF;have e0:((0:Nat):Int)=0:=rfl;rw [e0,List.replicate_zero] at hz;rw [hz,ob_,Nn h0 (by simpa using h1),ob_];dsimp only;have hI:=Iv.init (g:=v.Moves) h0 om_;obtain ⟨z,hz⟩:=Kq FF v a hg om_ (λl hl=>⟨by have:=hrow l hl;unfold FF;omega,by have:=hrow l hl;omega⟩) FF 0 _ hI uF;rw [e0] at hz;rw [← hml,hz,ob_];have hb:∀ (n i:Nat) (st:GW×GW),Iv v.Moves a i st->v.Moves.length < n + i->(bfs v.Moves n i st).1=lev v.Moves a:=λn i st h hn=>
  Lv.unique (Vk hg n i h hn) (Zn hg h0 om_)
 rw [hb _ _ _ hI uF]
end Go.Pn
namespace Go.Pn
open Go
theorem cs_ {α:Type} {c:Bool} {a b:α}:(bif c then some a else some b)=some (bif c then a else b):=by cases c <;> rfl
theorem n0:((0:Nat):Int)=0:=rfl
def szd:Nat->Expr->Nat
 | 0,_=>0
 | d + 1,x=>1 + (x.Args.map (szd d)).sum
def Szb (x:Expr) (n:Nat):Prop:=∀ d,szd d x<=n
def dp:Nat->Expr->Prop
 | 0,_=>False
 | d + 1,x=>x.Args.length<=256/\∀ y∈x.Args,dp d y
theorem B4:∀ {l:GY} {n:Nat},n∈l->n<=l.sum
 | a :: l,n,h=>by
  rw [List.sum_cons];rcases C7.1 h with rfl | h
  ·omega
  ·have:=B4 h;omega
theorem Szb.arg {x y:Expr} {n:Nat} (h:Szb x n) (hy:y∈x.Args):Szb y n:=λd=>by
 have h1:=h (d + 1);have h2:=B4 (ET.2 ⟨y,hy,rfl⟩:szd d y∈x.Args.map (szd d));unfold szd at h1;omega
theorem Tr:∀ {l:List Expr},l.length<=(l.map (szd 1)).sum
 | []=>by simp
 | x :: l=>by
  have:=Tr (l:=l);have h1:1<=szd 1 x:=by unfold szd;omega
  simp only [CZ,List.sum_cons,EN];omega
theorem AQ {d:Nat} {x:Expr}:szd (d + 1) x=1 + (x.Args.map (szd d)).sum:=rfl
theorem Szb.len {x:Expr} {n:Nat} (h:Szb x n):x.Args.length < n:=by
 have h1:=h 2;rw [AQ] at h1;have:=Tr (l:=x.Args);omega
theorem Tq {l:GY} {i:Nat} (h:i < l.length):(l.take (i + 1)).sum=(l.take i).sum + l[i]:=by
 rw [EX,gE_ h,List.sum_append];simp
theorem BH:∀ (k f:Nat) (x:Expr),k<=256->k + 300<=f->∃ r:Nat,m30 f x k=some (r:Int)/\1<=r/\r<=k + 1/\(r<=k->Szb x r):=by
 intro k
 induction k using Nat.strongRecOn with
 | ind k ih=>
  intro f x hk hf;obtain ⟨f,rfl⟩:∃ f',f=f' + 1:=⟨f - 1,by omega⟩;have loop:∀ (n i z:Nat),i<=x.Args.length->i + 1<=z->z<=k + 1->k + 1 - z < n->(z<=k->∀ d,1 + ((x.Args.map (szd d)).take i).sum<=z) ->
    ∃ r e:Nat,Qq (m30 f) x k n ((z:Int),(i:Int))=some ((r:Int),(e:Int))/\1<=r/\r<=k + 1/\(r<=k->Szb x r):=by
   intro n
   induction n with
   | zero=>intro i z _ _ _ h;omega
   | succ n ihn=>
    intro i z hi hz1 hz2 hn hs;unfold Qq;dsimp only;rw [Ak];have hle:decide ((z:Int)<=(k:Int))=decide (z<=k):=by simp
    rw [hle];by_cases h1:i < x.Args.length
    ·by_cases h2:z<=k
     ·rw [dt_ h1,dt_ h2,Bool.and_true,ct_,Aj,gE_ h1,ob_,Ar om_ om_];obtain ⟨r,hr,hr1,hr2,hr3⟩:=ih (k - z) om_ f x.Args[i] om_ om_;rw [show (k:Int) - (z:Int)=((k - z:Nat):Int) by omega,hr,ob_,Ar om_ om_,show wr ((i:Int) + 1)=((i + 1:Nat):Int) from An om_];rw [show (z:Int) + (r:Int)=((z + r:Nat):Int) by omega];refine ihn (i + 1) (z + r) om_ om_ om_ om_ λhle d=>?_;rw [Tq (by simpa using h1)];have h5:=hs h2 d;have h6:=hr3 om_ d;simp only [List.getElem_map];omega
     ·rw [df_ h2,Bool.and_false,cf_];exact ⟨z,i,rfl,by omega,hz2,λh=>absurd h h2⟩
    ·rw [df_ h1,EU,cf_];refine ⟨z,i,rfl,by omega,hz2,λh d=>?_⟩;cases d with
     | zero=>unfold szd;omega
     | succ d=>
      have:=hs h d;rw [DY so_] at this;unfold szd;omega
  unfold m30;obtain ⟨r,e,h1,h2⟩:=loop f 0 1 om_ om_ om_ om_ (λ_ d=>by simp);have e1:((1:Nat):Int)=1:=rfl;rw [n0,e1] at h1;rw [h1];exact ⟨r,rfl,h2⟩
theorem Ur:∀ (k f:Nat) (x:Expr),Szb x 256->k<=256->k + 300<=f->∃ b,m31 f x k=some b/\(b=true->dp k x)
 | 0,f,x,_,_,hf=>by
  obtain ⟨f,rfl⟩:∃ f',f=f' + 1:=⟨f - 1,by omega⟩;exact ⟨false,rfl,by simp⟩
 | k + 1,f,x,hs,hk,hf=>by
  obtain ⟨f,rfl⟩:∃ f',f=f' + 1:=⟨f - 1,by omega⟩;have hl:=hs.len;unfold m31;rw [show decide (((k + 1:Nat):Int) < 1)=false by simp;omega,cf_];by_cases h1:k=0
  ·subst h1;rw [show ((((0 + 1:Nat):Int)) == 1)=true by simp,ct_];refine ⟨_,rfl,λh=>⟨by omega,λy hy=>?_⟩⟩;have:x.Args.length=0:=by simpa using h
   rw [DZ this] at hy;simp at hy
  ·rw [show ((((k + 1:Nat):Int)) == 1)=false by simp;omega,cf_];have loop:∀ (n i:Nat),i<=x.Args.length->x.Args.length - i < n ->
     My (m31 f) x ((k + 1:Nat):Int) n (i:Int)=some (.ret false)\/((∃ e,My (m31 f) x ((k + 1:Nat):Int) n (i:Int)=some (.brk e))/\∀ y∈x.Args.drop i,dp k y):=by
    intro n
    induction n with
    | zero=>intro i _ h;omega
    | succ n ihn=>
     intro i hi hn;unfold My;by_cases h2:i < x.Args.length
     ·rw [Ak,dt_ h2,ct_,Aj,gE_ h2,ob_,Ar om_ om_,show ((k + 1:Nat):Int) - 1=(k:Int) by omega];obtain ⟨b,hb,hb2⟩:=Ur k f x.Args[i] (hs.arg (CS h2)) om_ om_;rw [hb,ob_];cases b with
      | false=>exact .inl rfl
      | true=>
       rw [nt_,cf_,An om_];rcases ihn (i + 1) om_ om_ with h | ⟨h,h3⟩
       ·exact .inl h
       ·refine .inr ⟨h,?_⟩;rw [C2 h2];exact λy hy=>(C7.1 hy).elim (λe=>e ▸ hb2 rfl) (h3 y)
     ·rw [Ak,df_ h2,cf_];refine .inr ⟨⟨_,rfl⟩,?_⟩;rw [CW om_];simp
   have h0:((0:Nat):Int)=0:=rfl;rcases loop f 0 om_ om_ with h | ⟨⟨e,h⟩,h3⟩
   ·rw [h0] at h;rw [h];exact ⟨false,rfl,by simp⟩
   ·rw [h0] at h;rw [h];exact ⟨true,rfl,λ_=>⟨by omega,by simpa using h3⟩⟩
structure Lt_ (x:Expr):Prop where
 sz:Szb x 256
 dp:dp 16 x
theorem Jy {f:Nat} (hf:600<=f) (x:Expr):∃ b,m10 f x=some b/\(b=true->Lt_ x):=by
 unfold m10;obtain ⟨r,hr,hr1,hr2,hr3⟩:=BH 256 f x om_ om_;rw [show (256:Int)=((256:Nat):Int) from rfl,hr,ob_];by_cases h:r<=256
 ·rw [show decide ((r:Int)<=((256:Nat):Int))=true by simpa using (by omega:(r:Int)<=256),ct_];have hs:Szb x 256:=λd=>DS (hr3 h d) h;obtain ⟨b,hb,hb2⟩:=Ur 16 f x hs om_ om_;rw [show (16:Int)=((16:Nat):Int) from rfl,hb];exact ⟨b,rfl,λh=>⟨hs,hb2 h⟩⟩
 ·rw [show decide ((r:Int)<=((256:Nat):Int))=false by simpa using (by omega:¬ (r:Int)<=256),cf_];exact ⟨false,rfl,by simp⟩
def nod (n:Int) (v0:Expr):Int:=bif ((decide ((v0).Op < 0)) || (decide ((v0).Op>=(5:Int)))) then (1:Int) else (bif ((((decide ((v0).Op<=(1:Int))) && ((((v0).Args).length:Int) != 0)) || (((v0).Op == 2) && ((((v0).Args).length:Int) != 1))) || ((decide ((v0).Op>=(3:Int))) && (decide ((((v0).Args).length:Int) < 2)))) then (3:Int) else (bif ((decide ((v0).Index < 0)) || (decide ((v0).Index>=(bif ((v0).Op == 1) then n else bif ((v0).Op == 0) then (2:Int) else (1:Int))))) then (2:Int) else (0:Int)))
theorem Xw (f:Nat) (x:Expr) (n:Int):LF f x n=some (nod n x):=by
 unfold LF nod;simp only [cs_,ob_]
theorem Gr {n:Int} {x:Expr} (h:nod n x=0):0<=x.Op/\x.Op < 5/\(x.Op<=1->x.Args=[])/\(x.Op=2->x.Args.length=1)/\(3<=x.Op->2<=x.Args.length)/\0<=x.Index/\(x.Op=1->x.Index < n):=by
 unfold nod at h;cases h1:((decide ((x).Op < 0)) || (decide ((x).Op>=(5:Int)))) with
 | true=>rw [h1] at h;cases h
 | false=>
  rw [h1,cf_] at h;cases h2:((((decide ((x).Op<=(1:Int))) && ((((x).Args).length:Int) != 0)) || (((x).Op == 2) && ((((x).Args).length:Int) != 1))) || ((decide ((x).Op>=(3:Int))) && (decide ((((x).Args).length:Int) < 2)))) with
  | true=>rw [h2] at h;cases h
  | false=>
   rw [h2,cf_] at h;cases h3:((decide ((x).Index < 0)) || (decide ((x).Index>=(bif ((x).Op == 1) then n else bif ((x).Op == 0) then (2:Int) else (1:Int))))) with
   | true=>rw [h3] at h;cases h
   | false=>
    simp only [EZ,FB,decide_eq_false_iff_not,bne_eq_false_iff_eq,beq_eq_false_iff_ne,ne_eq] at h1 h2 h3;obtain ⟨h1a,h1b⟩:=h1;obtain ⟨⟨h2a,h2b⟩,h2c⟩:=h2;obtain ⟨h3a,h3b⟩:=h3;refine ⟨by omega,by omega,λh=>?_,λh=>?_,λh=>?_,by omega,λh=>?_⟩
    ·refine DZ ?_;rcases h2a with h4 | h4 <;> omega
    ·rcases h2b with h4 | h4 <;> omega
    ·rcases h2c with h4 | h4 <;> omega
    ·rw [h] at h3b;simp at h3b;omega
def fnz:GW->Int
 | []=>0
 | a :: l=>if a=0 then fnz l else a
theorem Ve:∀ {l:GW},fnz l=0->∀ a∈l,a=0
 | a :: l,h,b,hb=>by
  unfold fnz at h;split at h
  ·rename_i h0;rcases C7.1 hb with rfl | hb
   ·exact h0
   ·exact Ve h b hb
  ·contradiction
def chE:Nat->Int->Expr->Int
 | 0,_,_=>0
 | d + 1,n,x=>if nod n x=0 then fnz (x.Args.map (chE d n)) else nod n x
def okE:Nat->Int->Expr->Prop
 | 0,_,_=>False
 | d + 1,n,x=>nod n x=0/\x.Args.length<=256/\∀ y∈x.Args,okE d n y
theorem okE.of:∀ {d:Nat} {n:Int} {x:Expr},dp d x->chE d n x=0->okE d n x
 | 0,_,_,h,_=>h
 | d + 1,n,x,h,hc=>by
  unfold chE at hc;split at hc
  ·rename_i h0;refine ⟨h0,h.1,λy hy=>okE.of (h.2 y hy) (Ve hc _ (ET.2 ⟨y,hy,rfl⟩))⟩
  ·contradiction
theorem fnzl {α:Type} {L:Nat->Int->Option (Lo Int Int)} {xs:List α} {p:Int->α->Option Int} {q:α->Int}
  (h:∀ n z,L (n + 1) z=(bif decide (z < (xs.length:Int)) then (idx xs z).bind λx=>(p z x).bind λb=>bif b != 0 then some (.ret b) else L n (wr (z + 1)) else some (.brk z)))
  (hl:xs.length < 4611686018427387904) (hq:∀ (i:Nat) x,xs[i]?=some x->p i x=some (q x)) :
  ∀ (n i:Nat),i<=xs.length->xs.length - i < n->L n i=if fnz ((xs.drop i).map q)=0 then some (.brk (xs.length:Int)) else some (.ret (fnz ((xs.drop i).map q)))
 | 0,i,_,h=>by omega
 | n + 1,i,h1,h2=>by
  rw [h];by_cases hi:i < xs.length
  ·have hx:xs[i]?=some xs[i]:=gE_ hi;rw [Ak,dt_ hi,ct_,Aj,hx,ob_,hq i _ hx,ob_,C2 hi,CZ];unfold fnz;by_cases h0:q xs[i]=0
   ·rw [h0,if_pos rfl,zf_,cf_,An om_,fnzl h hl hq n (i + 1) om_ om_]
   ·rw [if_neg h0,show (q xs[i] != 0)=true by simpa using h0,ct_,if_neg h0]
  ·rw [Ak,df_ hi,cf_,CW om_];have:i=xs.length:=by omega
   subst this;rfl
theorem fnzl0 {α:Type} {L:Nat->Int->Option (Lo Int Int)} {xs:List α} {p:Int->α->Option Int} {q:α->Int} {f:Nat}
  (h:∀ n z,L (n + 1) z=(bif decide (z < (xs.length:Int)) then (idx xs z).bind λx=>(p z x).bind λb=>bif b != 0 then some (.ret b) else L n (wr (z + 1)) else some (.brk z)))
  (hl:xs.length < 4611686018427387904) (hf:xs.length < f) (hq:∀ (i:Nat) x,xs[i]?=some x->p i x=some (q x)) :
  L f (0:Int)=if fnz (xs.map q)=0 then some (.brk (xs.length:Int)) else some (.ret (fnz (xs.map q))):=by
 have:=fnzl h hl hq f 0 om_ om_;rw [n0,C6] at this;exact this
theorem Qy:∀ (d f:Nat) (n:Int) (x:Expr),dp d x->d + 300<=f->LG f x n=some (chE d n x)
 | 0,_,_,_,h,_=>h.elim
 | d + 1,f,n,x,h,hf=>by
  obtain ⟨f,rfl⟩:∃ f',f=f' + 1:=⟨f - 1,by omega⟩;unfold LG chE;rw [Xw,ob_];by_cases h0:nod n x=0
  ·rw [h0,if_pos rfl,zf_,cf_];have hl:=h.1;rw [fnzl0 (L:=Ol (LG f) x n) (xs:=x.Args) (p:=λ_ y=>LG f y n) (q:=chE d n) (λ_ _=>rfl) om_ om_ (λi y hy=>Qy d f n y (h.2 y (CV hy)) om_)];split
   ·rename_i h1;rw [h1];rfl
   ·rfl
  ·rw [if_neg h0,show (nod n x != 0)=true by simpa using h0,ct_]
theorem Rh {f:Nat} {n:Int} {x:Expr} (hx:Lt_ x) (hm:m10 f x=some true) (hn:0<=n) (hn2:n<=256) (hf:600<=f):LH f x n=some (chE 16 n x):=by
 unfold LH;rw [df_ om_,df_ om_,FT,cf_,hm,ob_,nt_,cf_,Qy 16 f n x hx.dp om_,ob_]
theorem Yb {f:Nat} {n:Int} {x:Expr} (hn:0<=n) (hn2:n<=256) (hl:x.Args.length<=256):HK f x n=some (nod n x):=by
 unfold HK nod;by_cases h1:x.Op < 0\/5<=x.Op
 ·have:((decide ((x).Op < 0)) || (decide ((x).Op>=(5:Int))))=true:=by simpa using h1
  rw [this];rfl
 ·have:((decide ((x).Op < 0)) || (decide ((x).Op>=(5:Int))))=false:=by simp;omega
  rw [this,cf_,cf_];unfold HH HF;simp only [ob_,cs_];rw [Ar om_ om_];have hl1:∀ b:Bool,(bif decide (0 < x.Args.length) then (3:Int) else bif b then 2 else 0)=(bif (x.Args.length:Int) != 0 then 3 else bif b then 2 else 0):=λb=>by
   have:decide (0 < x.Args.length)=((x.Args.length:Int) != 0):=by
    rcases F7 x.Args.length with h | h
    ·rw [h];rfl
    ·rw [dt_ h];symm;rw [bne_iff_ne];omega
   rw [this]
  have key:(x.Index > n - 1)↔(x.Index>=n):=by omega
  have k1:(x.Index > 1)↔(x.Index>=2):=by omega
  have k0:(x.Index > 0)↔(x.Index>=1):=by omega
  have hop:x.Op=0\/x.Op=1\/x.Op=2\/x.Op=3\/x.Op=4:=by omega
  have e0:decide ((x.Args.length:Int) < 0)=false:=by simp
  have e1:decide ((x.Args.length:Int) > 256)=false:=by simp;omega
  have e3:(decide ((x.Args.length:Int) < 1) || decide ((x.Args.length:Int) > 1))=((x.Args.length:Int) != 1):=by
   rw [EF];simp;omega
  rcases hop with h | h | h | h | h <;> rw [h]
  ·simp only [show idx (List.range 5) 0=some 0 by rfl,ob_];simp [e0,k1];exact hl1 _
  ·simp only [show idx (List.range 5) 1=some 1 by rfl,ob_];simp [e0,key];exact hl1 _
  ·simp only [show idx (List.range 5) 2=some 2 by rfl,ob_];simp [e3,k0]
  ·simp only [show idx (List.range 5) 3=some 3 by rfl,ob_];simp [e1,k0]
  ·simp only [show idx (List.range 5) 4=some 4 by rfl,ob_];simp [e1,k0]
theorem Na:∀ (d f:Nat) (x:Expr) (k:Int) (cnt:Nat) (mx:Int),dp d x->1<=k->k + d<=17->cnt + szd d x<=256->d + 300<=f ->
  ∃ mx',HB Dc f x k (((cnt:Int),mx),0)=some (true,((((cnt + szd d x:Nat):Int),mx'),0))
 | 0,_,_,_,_,_,h,_,_,_,_=>h.elim
 | d + 1,f,x,k,cnt,mx,h,hk,hkd,hc,hf=>by
  obtain ⟨f,rfl⟩:∃ f',f=f' + 1:=⟨f - 1,by omega⟩;have hl:=h.1;have hsz:szd (d + 1) x=1 + (x.Args.map (szd d)).sum:=by rw [szd]
  have hr1:Dc (k,x) (((cnt:Int),mx),0)=some (true,((((cnt + 1:Nat):Int),(if k > mx then k else mx)),0)):=by
   unfold Dc;dsimp only;rw [An om_,show (decide (((cnt + 1:Nat):Int) > 256) || decide (k > 16))=false by simp;omega,cf_]
  unfold HB;rw [hr1,ob_];dsimp only;rw [nt_,cf_];have loop:∀ (n i:Nat) (mx:Int),i<=x.Args.length->x.Args.length - i < n ->
    ∃ e mx',Dw (HB Dc f) x k n ((i:Int),(((cnt + 1 + ((x.Args.map (szd d)).take i).sum:Nat):Int),mx),0)=some (.brk (e,((((cnt + szd (d + 1) x:Nat):Int),mx'),0))):=by
   intro n
   induction n with
   | zero=>intro i _ _ h;omega
   | succ n ihn=>
    intro i mx hi hn;unfold Dw;dsimp only;by_cases h2:i < x.Args.length
    ·rw [Ak,dt_ h2,ct_,Aj,gE_ h2,ob_,show decide (k<=16)=true by simp;omega,ct_,Ar om_ om_];have hst:=Tq (l:=x.Args.map (szd d)) (i:=i) (by simpa using h2);have hle:((x.Args.map (szd d)).take (i + 1)).sum<=(x.Args.map (szd d)).sum:=by
      conv=>rhs;rw [← List.take_append_drop (i + 1) (x.Args.map (szd d))]
      rw [List.sum_append];omega
     simp only [List.getElem_map] at hst;obtain ⟨mx',h3⟩:=Na d f x.Args[i] (k + 1) (cnt + 1 + ((x.Args.map (szd d)).take i).sum) mx (h.2 _ (CS h2)) om_ om_ om_ om_;rw [h3,ob_,ct_];dsimp only;rw [nt_,cf_,An om_,show cnt + 1 + ((x.Args.map (szd d)).take i).sum + szd d x.Args[i]=cnt + 1 + ((x.Args.map (szd d)).take (i + 1)).sum by omega];exact ihn (i + 1) mx' om_ om_
    ·rw [Ak,df_ h2,cf_];rw [DY so_];exact ⟨_,mx,by rw [show cnt + 1 + (x.Args.map (szd d)).sum=cnt + szd (d + 1) x by omega]⟩
  obtain ⟨e,mx',h3⟩:=loop f 0 (if k > mx then k else mx) om_ om_
  rw [n0,F6,List.sum_nil,E7] at h3;rw [h3];exact ⟨mx',rfl⟩
theorem Yc {f:Nat} {x:Expr} (hx:Lt_ x) (hf:600<=f):∃ a b,HE f x=some (a,b,true):=by
 unfold HE G9 HC;have h1:=hx.sz 16;obtain ⟨mx,h⟩:=Na 16 f x 1 0 0 hx.dp om_ om_ om_ om_;rw [n0] at h;rw [ob_,h];exact ⟨_,_,rfl⟩
theorem Mz {F:Nat} {m:Int} (hm:0<=m) (hm2:m<=256):∀ (d f:Nat) (x:Expr) (k z:Int),dp d x->1<=k->k + d<=17->d + 300<=f ->
  HB (Df F m) f x k (z,0)=some (if chE d m x=0 then (true,(z,0)) else (false,(chE d m x,1)))
 | 0,_,_,_,_,h,_,_,_=>h.elim
 | d + 1,f,x,k,z,h,hk,hkd,hf=>by
  obtain ⟨f,rfl⟩:∃ f',f=f' + 1:=⟨f - 1,by omega⟩;have hl:=h.1;have hr1:Df F m (k,x) (z,0)=some (if nod m x=0 then (true,(z,0)) else (false,(nod m x,1))):=by
   unfold Df;dsimp only;rw [Yb hm hm2 hl,ob_];by_cases h0:nod m x=0
   ·rw [h0,if_pos rfl];rfl
   ·rw [if_neg h0,show (nod m x != 0)=true by simpa using h0,ct_]
  unfold HB chE;rw [hr1,ob_];by_cases h0:nod m x=0
  ·rw [if_pos h0,if_pos h0];dsimp only;rw [nt_,cf_];have loop:∀ (n i:Nat),i<=x.Args.length->x.Args.length - i < n ->
     Dw (HB (Df F m) f) x k n ((i:Int),(z,0))=if fnz ((x.Args.drop i).map (chE d m))=0 then some (.brk ((x.Args.length:Int),(z,0))) else some (.ret (false,(fnz ((x.Args.drop i).map (chE d m)),1))):=by
    intro n
    induction n with
    | zero=>intro i _ h;omega
    | succ n ihn=>
     intro i hi hn;unfold Dw;dsimp only;by_cases h2:i < x.Args.length
     ·rw [Ak,dt_ h2,ct_,Aj,gE_ h2,ob_,show decide (k<=16)=true by simp;omega,ct_,Ar om_ om_,Mz hm hm2 d f x.Args[i] (k + 1) z (h.2 _ (CS h2)) om_ om_ om_,ob_,ct_,C2 h2,CZ];unfold fnz;by_cases h3:chE d m x.Args[i]=0
      ·rw [if_pos h3,if_pos h3];dsimp only;rw [nt_,cf_,An om_];exact ihn (i + 1) om_ om_
      ·rw [if_neg h3,if_neg h3,if_neg h3];rfl
     ·rw [Ak,df_ h2,cf_,CW om_];have:i=x.Args.length:=by omega
      subst this;rfl
   have h3:=loop f 0 om_ om_;rw [n0,C6] at h3;rw [h3];split <;> rfl
  ·rw [if_neg h0,if_neg h0,if_neg h0];rfl
theorem Li {f:Nat} {n:Int} {x:Expr} (hx:Lt_ x) (hn:0<=n) (hn2:n<=256) (hf:600<=f):HL f x n=some (chE 16 n x):=by
 unfold HL;obtain ⟨a,b,h⟩:=Yc hx hf;rw [df_ om_,df_ om_,FT,cf_,h,ob_];unfold G9 HC;dsimp only;rw [nt_,cf_,ob_,Mz hn hn2 16 f x 1 0 hx.dp om_ om_ om_];by_cases h0:chE 16 n x=0
 ·rw [if_pos h0,h0];rfl
 ·rw [if_neg h0];rfl
def ev:Nat->GX->Expr->Bool
 | 0,_,_=>false
 | d + 1,ls,x=>if x.Op=0 then x.Index == 1 else if x.Op=1 then (idx ls x.Index).getD false else if x.Op=2 then !(x.Args.any (ev d ls)) else if x.Op=3 then x.Args.all (ev d ls) else x.Args.any (ev d ls)
theorem Hc:∀ (d f:Nat) (ls:GX) (x:Expr),okE d ls.length x->d + 300<=f->LX f x ls=some (ev d ls x)
 | 0,_,_,_,h,_=>h.elim
 | d + 1,f,ls,x,h,hf=>by
  obtain ⟨f,rfl⟩:∃ f',f=f' + 1:=⟨f - 1,by omega⟩;obtain ⟨hn,hl,ha⟩:=h;obtain ⟨o1,o2,o3,o4,o5,i1,i2⟩:=Gr hn;have hev:∀ y∈x.Args,LX f y ls=some (ev d ls y):=λy hy=>Hc d f ls y (ha y hy) om_;unfold LX ev;by_cases h0:x.Op=0
  ·rw [if_pos h0,show (x.Op == 0)=true by simpa using h0,ct_]
  ·rw [if_neg h0,show (x.Op == 0)=false by simpa using h0,cf_];by_cases h1:x.Op=1
   ·rw [if_pos h1,show (x.Op == 1)=true by simpa using h1,ct_];obtain ⟨b,hb,_⟩:=Cp i1 (i2 h1);rw [hb];rfl
   ·rw [if_neg h1,show (x.Op == 1)=false by simpa using h1,cf_];by_cases h2:x.Op=2
    ·rw [if_pos h2,show (x.Op == 2)=true by simpa using h2,ct_];obtain ⟨y,hy⟩:=List.length_eq_one_iff.1 (o4 h2);rw [hy,show idx [y] 0=some y by rfl,ob_,hev y (by rw [hy];simp)];simp
    ·rw [if_neg h2,show (x.Op == 2)=false by simpa using h2,cf_];have loop:∀ (n i:Nat) (a b:Bool),i<=x.Args.length->x.Args.length - i < n ->
       Lh (LX f) x ls n (a,b,(i:Int))=some (a && (x.Args.drop i).all (ev d ls),b || (x.Args.drop i).any (ev d ls),(x.Args.length:Int)):=by
      intro n
      induction n with
      | zero=>intro i _ _ _ h;omega
      | succ n ihn=>
       intro i a b hi hnn;unfold Lh;dsimp only;by_cases h3:i < x.Args.length
       ·rw [Ak,dt_ h3,ct_,Aj,gE_ h3,ob_,hev _ (CS h3),ob_,An om_,ihn (i + 1) _ _ om_ om_,C2 h3,List.all_cons,FG,Bool.and_assoc,Bool.or_assoc]
       ·rw [Ak,df_ h3,cf_,CW om_];have:i=x.Args.length:=by omega
        subst this;simp
     have h3:=loop f 0 true false om_ om_;rw [n0,C6] at h3;rw [h3,ob_];by_cases h4:x.Op=3
     ·simp [h4]
     ·have h5:x.Op=4:=by omega
      simp [h5]
theorem Ha:∀ (d f:Nat) (ls:GX) (x:Expr),okE d ls.length x->d + 300<=f->JS f x ls=some (ev d ls x)
 | 0,_,_,_,h,_=>h.elim
 | d + 1,f,ls,x,h,hf=>by
  obtain ⟨f,rfl⟩:∃ f',f=f' + 1:=⟨f - 1,by omega⟩;obtain ⟨hn,hl,ha⟩:=h;obtain ⟨o1,o2,o3,o4,o5,i1,i2⟩:=Gr hn;have hev:∀ y∈x.Args,JS f y ls=some (ev d ls y):=λy hy=>Ha d f ls y (ha y hy) om_;unfold JS ev;by_cases h0:x.Op=0
  ·rw [if_pos h0,show (x.Op == 0)=true by simpa using h0,ct_]
  ·rw [if_neg h0,show (x.Op == 0)=false by simpa using h0,cf_];by_cases h1:x.Op=1
   ·rw [if_pos h1,show (x.Op == 1)=true by simpa using h1,ct_];obtain ⟨b,hb,_⟩:=Cp i1 (i2 h1);rw [hb];rfl
   ·rw [if_neg h1,show (x.Op == 1)=false by simpa using h1,cf_];by_cases h2:x.Op=2
    ·rw [if_pos h2,show (x.Op == 2)=true by simpa using h2,ct_];obtain ⟨y,hy⟩:=List.length_eq_one_iff.1 (o4 h2);rw [hy,show idx [y] 0=some y by rfl,ob_,hev y (by rw [hy];simp)];simp
    ·rw [if_neg h2,show (x.Op == 2)=false by simpa using h2,cf_];by_cases h3:x.Op=3
     ·rw [if_pos h3,show (x.Op == 3)=true by simpa using h3,ct_];unfold JQ JP;have h5:=Tt (L:=Oj (JS f) f x.Args ls) (xs:=x.Args) (p:=λ_ y=>JO f (JS f) y ls) (q:=λy=>!ev d ls y) (r:=λz=>z) (λ_ _=>rfl) om_ (λi y hy=>by
       unfold JO;rw [hev y (CV hy)];rfl) f 0 om_ om_
      rw [n0,C6] at h5;rw [h5];cases h6:x.Args.findIdx? (λy=>!ev d ls y) with
      | none=>
       rw [DN] at h6;have:x.Args.all (ev d ls)=true:=C1.2 λy hy=>by simpa using h6 y hy
       rw [this];rfl
      | some j=>
       obtain ⟨hj,hj2,_⟩:=DC.1 h6;have:x.Args.all (ev d ls)=false:=List.all_eq_false.2 ⟨_,CS hj,by simpa using hj2⟩;rw [this];simp
     ·rw [if_neg h3,show (x.Op == 3)=false by simpa using h3,cf_];unfold Ut Us;have h5:=Tt (L:=Gz (JS f) f x.Args ls) (xs:=x.Args) (p:=λ_ y=>JR f (JS f) y ls) (q:=λy=>ev d ls y) (r:=λz=>z) (λ_ _=>rfl) om_ (λi y hy=>by
       unfold JR;rw [hev y (CV hy)];rfl) f 0 om_ om_
      rw [n0,C6] at h5;rw [h5];cases h6:x.Args.findIdx? (λy=>ev d ls y) with
      | none=>
       rw [DN] at h6;have:x.Args.any (ev d ls)=false:=D1.2 λy hy=>by simpa using h6 y hy
       rw [this];rfl
      | some j=>
       obtain ⟨hj,hj2,_⟩:=DC.1 h6;have:x.Args.any (ev d ls)=true:=DA.2 ⟨_,CS hj,by simpa using hj2⟩;rw [this];simp
theorem Kz {d f:Nat} {ls:GX} {x:Expr} {g:Expr->GX->Option Bool} (v:Bool) (hl:x.Args.length<=256) (hf:300<=f) (hev:∀ y∈x.Args,g y ls=some (ev d ls y)) :
  KO f g v x ls=some (x.Args.all λy=>ev d ls y == v):=by
 unfold KO KN;have loop:∀ (n i:Nat),i<=x.Args.length->x.Args.length - i < n ->
   Lc g (Fk g v) x ls n ((i:Int),((),0))=if (x.Args.drop i).all (λy=>ev d ls y == v) then some (.brk ((x.Args.length:Int),((),0))) else some (.ret ((),1)):=by
  intro n
  induction n with
  | zero=>intro i _ h;omega
  | succ n ihn=>
   intro i hi hn;unfold Lc Fk;dsimp only;by_cases h2:i < x.Args.length
   ·rw [Ak,dt_ h2,ct_,Aj,gE_ h2,ob_,hev _ (CS h2),ob_,C2 h2,List.all_cons];cases h3:(ev d ls x.Args[i] == v) with
    | true=>
     rw [show (ev d ls x.Args[i] != v)=false by (show (!(ev d ls x.Args[i] == v))=false);rw [h3];rfl,cf_,ob_];dsimp only;rw [nt_,cf_,An om_,EE];exact ihn (i + 1) om_ om_
    | false=>
     rw [show (ev d ls x.Args[i] != v)=true by (show (!(ev d ls x.Args[i] == v))=true);rw [h3];rfl,ct_,ob_];rfl
   ·rw [Ak,df_ h2,cf_,CW om_];have:i=x.Args.length:=by omega
    subst this;rfl
 have h3:=loop f 0 om_ om_;rw [n0,C6] at h3;rw [h3];cases x.Args.all (λy=>ev d ls y == v) <;> rfl
theorem Qz:∀ (d f:Nat) (ls:GX) (x:Expr),okE d ls.length x->d + 300<=f->KR f x ls=some (ev d ls x)
 | 0,_,_,_,h,_=>h.elim
 | d + 1,f,ls,x,h,hf=>by
  obtain ⟨f,rfl⟩:∃ f',f=f' + 1:=⟨f - 1,by omega⟩;obtain ⟨hn,hl,ha⟩:=h;obtain ⟨o1,o2,o3,o4,o5,i1,i2⟩:=Gr hn;have hev:∀ y∈x.Args,KR f y ls=some (ev d ls y):=λy hy=>Qz d f ls y (ha y hy) om_;unfold KR ev;by_cases h0:x.Op=0
  ·rw [if_pos h0,show (x.Op == 0)=true by simpa using h0,ct_]
  ·rw [if_neg h0,show (x.Op == 0)=false by simpa using h0,cf_];by_cases h1:x.Op=1
   ·rw [if_pos h1,show (x.Op == 1)=true by simpa using h1,ct_];obtain ⟨b,hb,_⟩:=Cp i1 (i2 h1);rw [hb];rfl
   ·rw [if_neg h1,show (x.Op == 1)=false by simpa using h1,cf_];unfold HH HF;simp only [ob_];have hop:x.Op=2\/x.Op=3\/x.Op=4:=by omega
    rcases hop with h | h | h <;> rw [h]
    ·rw [show idx (List.range 5) 2=some 2 by rfl,ob_,show ((2:Nat) == 2)=true by rfl,ct_,Kz false hl om_ hev,ob_,if_pos rfl];congr 1;rw [EF];simp
    ·rw [show idx (List.range 5) 3=some 3 by rfl,ob_,show ((3:Nat) == 2)=false by rfl,cf_,show ((3:Nat) == 3)=true by rfl,ct_,Kz true hl om_ hev,ob_,if_neg om_,if_pos rfl];congr 1;rw [EF];simp
    ·rw [show idx (List.range 5) 4=some 4 by rfl,ob_,show ((4:Nat) == 2)=false by rfl,cf_,show ((4:Nat) == 3)=false by rfl,cf_,show ((4:Nat) == 4)=true by rfl,ct_];unfold KQ HF;rw [ob_,Kz false hl om_ hev,ob_,ob_,if_neg om_,if_neg om_];congr 1;rw [EF];simp
def occ:Nat->Int->Expr->Bool
 | 0,_,_=>false
 | d + 1,k,x=>if x.Op=1 then x.Index == k else x.Args.any (occ d k)
theorem Qx:∀ (d f:Nat) (k:Int) (x:Expr),dp d x->d + 300<=f->LJ f x k=some (occ d k x)
 | 0,_,_,_,h,_=>h.elim
 | d + 1,f,k,x,h,hf=>by
  obtain ⟨f,rfl⟩:∃ f',f=f' + 1:=⟨f - 1,by omega⟩;have hl:=h.1;unfold LJ occ;by_cases h1:x.Op=1
  ·rw [if_pos h1,show (x.Op == 1)=true by simpa using h1,ct_]
  ·rw [if_neg h1,show (x.Op == 1)=false by simpa using h1,cf_];have h5:=Tt (L:=Ok (LJ f) x k) (xs:=x.Args) (p:=λ_ y=>LJ f y k) (q:=λy=>occ d k y) (r:=λ_=>true) (λ_ _=>rfl) om_ (λi y hy=>Qx d f k y (h.2 y (CV hy)) om_) f 0 om_ om_;rw [n0,C6] at h5;rw [h5];cases h6:x.Args.findIdx? (λy=>occ d k y) with
   | none=>
    rw [DN] at h6;have:x.Args.any (occ d k)=false:=D1.2 λy hy=>by simpa using h6 y hy
    rw [this];rfl
   | some j=>
    obtain ⟨hj,hj2,_⟩:=DC.1 h6;have:x.Args.any (occ d k)=true:=DA.2 ⟨_,CS hj,by simpa using hj2⟩;rw [this];rfl
def CJ:Nat->(Int->Bool)->Expr->Bool
 | 0,_,_=>false
 | d + 1,p,x=>if x.Op=1 then p x.Index else x.Args.any (CJ d p)
theorem Pr:∀ {d:Nat} {p:Int->Bool} {x:Expr},CJ d p x=true↔∃ k,p k=true/\occ d k x=true
 | 0,p,x=>by simp [CJ,occ]
 | d + 1,p,x=>by
  unfold CJ occ;by_cases h1:x.Op=1
  ·simp only [if_pos h1,beq_iff_eq];exact ⟨λh=>⟨_,h,rfl⟩,λ⟨k,h,e⟩=>e ▸ h⟩
  ·simp only [if_neg h1,DA];constructor
   ·rintro ⟨y,hy,h⟩;obtain ⟨k,hk,ho⟩:=Pr.1 h;exact ⟨k,hk,y,hy,ho⟩
   ·rintro ⟨k,hk,y,hy,ho⟩;exact ⟨y,hy,Pr.2 ⟨k,hk,ho⟩⟩
theorem B0:∀ {d:Nat} {n k:Int} {x:Expr},okE d n x->occ d k x=true->0<=k/\k < n
 | 0,_,_,_,h,_=>h.elim
 | d + 1,n,k,x,h,ho=>by
  obtain ⟨hn,hl,ha⟩:=h;obtain ⟨o1,o2,o3,o4,o5,i1,i2⟩:=Gr hn;unfold occ at ho;split at ho
  ·rename_i h1;have:x.Index=k:=by simpa using ho
   have:=i2 h1;omega
  ·obtain ⟨y,hy,h⟩:=DA.1 ho;exact B0 (ha y hy) h
end Go.Pn
namespace Go.Pn
open Go
theorem Sr {β:Type} {L:Nat->Int->Option (Lo Int β)} {N:Nat} {Q:Nat->Bool} {r:Int->β}
  (h:∀ (n i:Nat),i < N->L (n + 1) (i:Int)=bif Q i then some (.ret (r (i:Int))) else L n ((i + 1:Nat):Int)) (h':∀ (n:Nat),L (n + 1) (N:Int)=some (.brk (N:Int))) :
  ∀ (n i:Nat),i<=N->N - i < n->(∃ k,i<=k/\k < N/\Q k=true/\L n (i:Int)=some (.ret (r (k:Int))))\/(L n (i:Int)=some (.brk (N:Int))/\∀ k,i<=k->k < N->Q k=false)
 | 0,i,_,h=>by omega
 | n + 1,i,h1,h2=>by
  by_cases hi:i < N
  ·rw [h n i hi];cases hq:Q i with
   | true=>exact .inl ⟨i,C5 _,hi,hq,rfl⟩
   | false=>
    rw [cf_];rcases Sr h h' n (i + 1) om_ om_ with ⟨k,h3,h4,h5,h6⟩ | ⟨h3,h4⟩
    ·exact .inl ⟨k,by omega,h4,h5,h6⟩
    ·refine .inr ⟨h3,λk hk hk2=>?_⟩;rcases GS hk with rfl | h5
     ·exact hq
     ·exact h4 k h5 hk2
  ·obtain rfl:i=N:=by omega
   exact .inr ⟨h' n,λk hk hk2=>by omega⟩
def Qb (b:UInt8):Bool:=decide (97<=b.toNat) && decide (b.toNat<=122)
def BN (b:UInt8):Bool:=decide (65<=b.toNat) && decide (b.toNat<=90)
def BS (b:UInt8):Bool:=decide (48<=b.toNat) && decide (b.toNat<=57)
def Ci (b:UInt8):Bool:=Qb b || BN b || BS b || (b.toNat == 95)
def wd (s:G0):Bool:=match s.data.toList with
 | []=>false
 | b :: l=>Qb b && (b :: l).all Ci
theorem Au (s:G0):s.size=s.data.toList.length:=rfl
theorem Tu {s:G0} {i:Nat} (h:i < s.data.toList.length):Mm s (i:Int)=some s.data.toList[i]:=by
 unfold Mm;rw [if_pos om_,DQ];have h1:i < s.size:=by rw [Au];exact h
 rw [getElem?_pos s i h1];congr 1
theorem CA {s:G0} {i:Nat} (h:i < s.data.toList.length):(s.data.toList[i].toNat < 128->Utf8.decode s i=(s.data.toList[i].toNat,1))/\(128<=s.data.toList[i].toNat->128<=(Utf8.decode s i).1):=by
 have hg:s.get! (i + 0)=s.data.toList[i]:=by
  have h1:i < s.data.size:=by simpa using h
  show s.data[i + 0]! = _;rw [E7,getElem!_pos s.data i h1];simp
 constructor
 ·intro hb;unfold Utf8.decode;simp only [hg];rw [if_pos om_]
 ·intro hb;unfold Utf8.decode;simp only [hg];rw [if_neg om_];split
  ·split
   ·rename_i hx;exact hx
   ·decide
  ·split
   ·split
    ·rename_i hx;simp only [CU,decide_eq_true_eq] at hx;exact DS (by decide) hx.1
    ·decide
   ·split
    ·split
     ·rename_i hx;simp only [CU,decide_eq_true_eq] at hx;exact DS (by decide) hx.1
     ·decide
    ·decide
theorem u8n {n:Nat} (hn:n < 256):(UInt8.ofNat n).toNat=n:=by
 rw [UInt8.toNat_ofNat'];omega
theorem Ym (f:Nat) (b:UInt8):HN f b=some (Ci b):=by
 unfold HN Ci Qb BN BS;simp only [u8n (show 97 < 256 by omega),u8n (show 122 < 256 by omega),u8n (show 65 < 256 by omega),u8n (show 90 < 256 by omega),u8n (show 48 < 256 by omega),u8n (show 57 < 256 by omega),u8n (show 95 < 256 by omega)];congr 1;rw [EF];simp;omega
theorem Nz {b:UInt8} (h:Ci b=true):b.toNat<=122:=by
 unfold Ci Qb BN BS at h;simp at h;omega
theorem Yn {f:Nat} {s:G0} {i:Nat} (h:i < s.data.toList.length):HO f (srn s (i:Int))=some (!Ci s.data.toList[i]):=by
 obtain ⟨h1,h2⟩:=CA h;unfold HO srn;rw [DQ];simp only [Ik.toI];by_cases hb:s.data.toList[i].toNat < 128
 ·rw [h1 hb];dsimp only;by_cases hc:((s.data.toList[i].toNat:Nat):Int) > 122
  ·rw [dt_ hc,ct_];have:Ci s.data.toList[i]=false:=by
    cases hp:Ci s.data.toList[i] with
    | false=>rfl
    | true=>have:=Nz hp;omega
   rw [this];rfl
  ·rw [df_ hc,cf_];have:(Ik.ofI ((s.data.toList[i].toNat:Nat):Int):UInt8)=s.data.toList[i]:=by
    show wr8 _=_;unfold wr8;refine UInt8.toNat_inj.1 ?_;rw [UInt8.toNat_ofNat'];omega
   rw [this,Ym];rfl
 ·have h3:=h2 om_;rw [dt_ so_,ct_];have:Ci s.data.toList[i]=false:=by
   cases hp:Ci s.data.toList[i] with
   | false=>rfl
   | true=>have:=Nz hp;omega
  rw [this];rfl
theorem Ns {α:Type} {l:List α} {p:α->Bool}:l.any p=true↔∃ i,∃ h:i < l.length,p l[i]=true:=by
 rw [DA];constructor
 ·rintro ⟨x,hx,h⟩;obtain ⟨i,hi,rfl⟩:=List.getElem_of_mem hx;exact ⟨i,hi,h⟩
 ·rintro ⟨i,hi,h⟩;exact ⟨_,CS hi,h⟩
theorem Yo {f:Nat} {s:G0} (hs:s.size < f) (hs2:s.size < 1000000):HW f s=some (s.data.toList.any λb=>!Ci b):=by
 rw [Au] at hs hs2;unfold HW HV HU;have hl:=Sr (L:=Hx f s true) (N:=s.data.toList.length) (Q:=λi=>if h:i < s.data.toList.length then !Ci s.data.toList[i] else false) (r:=λz=>z) (λn i hi=>by
  rw [Hx,Au,Ak,dt_ hi,ct_,Yn hi,ob_,dif_pos hi];cases hp:Ci s.data.toList[i] with
  | true=>
   rw [show ((!true) == true)=false by rfl,cf_];have:snx s (i:Int)=((i + 1:Nat):Int):=by
    unfold snx;rw [if_pos (by rw [Au];omega),DQ,(CA hi).1 (by have:=Nz hp;omega)];rfl
   rw [this];rfl
  | false=>rfl) (λn=>by
  rw [Hx,Au,Ak,df_ om_,cf_];unfold snx;rw [if_neg (by rw [Au];omega)]) f 0 om_ om_
 rw [n0] at hl;rcases hl with ⟨k,_,hk,hq,h⟩ | ⟨h,hn⟩
 ·rw [h];rw [dif_pos hk] at hq;rw [Ns.2 ⟨k,hk,hq⟩];simp only [ob_];rw [dt_ om_]
 ·rw [h];have:(s.data.toList.any λb=>!Ci b)=false:=by
   rw [GV];intro ha;obtain ⟨i,hi,h2⟩:=Ns.1 ha;have:=hn i om_ hi;rw [dif_pos hi,h2] at this;cases this
  rw [this];rfl
theorem Yg {f:Nat} {s:G0} (hs:s.size < f) (hs2:s.size < 1000000):LC f s=some (wd s):=by
 rw [Au] at hs hs2;unfold LC;have hl:=Sr (L:=Jb s) (N:=s.data.toList.length) (Q:=λi=>if h:i < s.data.toList.length then (i == 0 && !Qb s.data.toList[i]) || !Ci s.data.toList[i] else false) (r:=λ_=>false) (λn i hi=>by
  rw [Jb,Au,Ak,dt_ hi,ct_];simp only [Tu hi,ob_,cs_,u8n (show 97 < 256 by omega),u8n (show 122 < 256 by omega),u8n (show 65 < 256 by omega),u8n (show 90 < 256 by omega),u8n (show 48 < 256 by omega),u8n (show 57 < 256 by omega),u8n (show 95 < 256 by omega)];rw [dif_pos hi,An om_];congr 1;rw [EF];unfold Ci Qb BN BS;simp;generalize s.data.toList[i].toNat=b;omega) (λn=>by
  rw [Jb,Au,Ak,df_ om_,cf_]) f 0 om_ om_
 rw [n0] at hl;have hemp:(s.toList == (⟨#[]⟩:G0).toList)=(s.data.toList == []):=by
  rw [ByteArray.toList_eq,ByteArray.toList_eq]
 rcases hl with ⟨k,_,hk,hq,h⟩ | ⟨h,hn⟩
 ·rw [h,ob_];rw [dif_pos hk] at hq;dsimp only;congr 1
  symm
  unfold wd;cases hd:s.data.toList with
  | nil=>rfl
  | cons b l=>
   have hk':k < (b :: l).length:=by rw [← hd];exact hk
   have hg:s.data.toList[k]=(b :: l)[k]:=by simp [hd]
   rw [hg] at hq;dsimp only;rw [FB];rcases Bool.or_eq_true_iff.1 hq with h1 | h1
   ·left;obtain ⟨h2,h3⟩:=GK.1 h1;obtain rfl:k=0:=by simpa using h2
    simpa using h3
   ·right;exact List.all_eq_false.2 ⟨_,CS hk',by simpa using h1⟩
 ·rw [h,ob_,hemp];dsimp only;congr 1;unfold wd;cases hd:s.data.toList with
  | nil=>rfl
  | cons b l=>
   have hb:∀ (k:Nat) (hk:k < (b :: l).length),((k == 0 && !Qb (b :: l)[k]) || !Ci (b :: l)[k])=false:=by
    intro k hk;have hk':k < s.data.toList.length:=by rw [hd];exact hk
    have:=hn k om_ hk';rw [dif_pos hk'] at this;have hg:s.data.toList[k]=(b :: l)[k]:=by simp [hd]
    rw [hg] at this;exact this
   have h1:=hb 0 smp_;simp at h1;dsimp only;rw [h1.1,EE];have:(b :: l).all Ci=true:=by
    rw [C1];intro x hx;obtain ⟨i,hi,rfl⟩:=List.getElem_of_mem hx;have:=hb i hi;rw [EZ] at this;simpa using this.2
   rw [this];rfl
def fx (i:Nat):G0:=⟨#[UInt8.ofNat (97 + i / 2),UInt8.ofNat (48 + i % 2)]⟩
def cA (c:Aa):Nat:=c.Actuators.toNat
def cS (c:Aa):Nat:=2 * cA c + c.Inputs.length
def cL (c:Aa):Nat:=cS c + c.Signals.length
def nmF (c:Aa) (i:Nat):G0:=if i < 2 * cA c then fx i else if i < cS c then c.Inputs.getD (i - 2 * cA c) ⟨#[]⟩ else ((c.Signals[i - cS c]?).map (·.Name)).getD ⟨#[]⟩
structure Bd_ (c:Aa):Prop where
 a1:1<=c.Actuators
 a6:c.Actuators<=6
 i:c.Inputs.length<=16
 s:c.Signals.length<=16
theorem Bd_.a {c:Aa} (h:Bd_ c):c.Actuators=(cA c:Int):=by
 have:=h.a1;unfold cA;omega
theorem Bd_.a' {c:Aa} (h:Bd_ c):1<=cA c/\cA c<=6:=by
 have:=h.a1;have:=h.a6;unfold cA;omega
theorem Bd_.wa {c:Aa} (h:Bd_ c):wr ((2:Int) * c.Actuators)=((2 * cA c:Nat):Int):=by
 have:=h.a;have:=h.a';rw [Ar om_ om_];omega
theorem Dx {f:Nat} {c:Aa} (h:Bd_ c):K8 f c=some (cS c:Int):=by
 have:=h.a';have:=h.i;unfold K8;rw [h.wa,Ar om_ om_];unfold cS;congr 1
theorem He {f:Nat} {c:Aa} (h:Bd_ c):G5 f c=some (cS c:Int):=Dx (f:=f) h
theorem Gx {f:Nat} {c:Aa} (h:Bd_ c):m92 f c=some (cL c:Int):=by
 have:=h.a';have:=h.i;have:=h.s;unfold m92;have e:wr (((2 * cA c:Nat):Int) + (c.Inputs.length:Int))=((2 * cA c:Nat):Int) + (c.Inputs.length:Int):=Ar om_ om_;rw [h.wa,e,Ar om_ om_];unfold cL cS;congr 1
theorem Lj {f:Nat} {c:Aa} (h:Bd_ c):G7 f c=some (cL c:Int):=by
 have:=h.a';have:=h.i;have:=h.s;unfold G7;rw [He h,ob_,Ar (by unfold cS;omega) (by unfold cS;omega)];unfold cL;congr 1
theorem Vp:((List.range 12).all λi=>decide (((ssl (⟨#[97,98,99,100,101,102]⟩:G0) (wr ((i:Int).tdiv (2:Int))) (wr ((wr ((i:Int).tdiv (2:Int))) + 1))).bind λx1=>(ssl (⟨#[48,49]⟩:G0) ((i:Int).tmod (2:Int)) (wr (((i:Int).tmod (2:Int)) + 1))).bind λx2=>(cat x1 x2).bind λx3=>some x3)=some (fx i)))=true:=by kernel_rfl
theorem ref_fx:∀ i:Nat,i < 12->((ssl (⟨#[97,98,99,100,101,102]⟩:G0) (wr ((i:Int).tdiv (2:Int))) (wr ((wr ((i:Int).tdiv (2:Int))) + 1))).bind λx1=>(ssl (⟨#[48,49]⟩:G0) ((i:Int).tmod (2:Int)) (wr (((i:Int).tmod (2:Int)) + 1))).bind λx2=>(cat x1 x2).bind λx3=>some x3)=some (fx i):=λi h=>of_decide_eq_true (C1.1 Vp i (C3.2 h))
theorem Vq:((List.range 12).all λi=>decide (((cat (Cv (Ik.toI (Ik.ofI (Ik.toI (wr ((97:Int) + (wr ((i:Int).tdiv (2:Int)))))):Kd .i32))) (Cv (Ik.toI (Ik.ofI (Ik.toI (wr ((48:Int) + ((i:Int).tmod (2:Int))))):Kd .i32)))).bind λx2=>some x2)=some (fx i)))=true:=by kernel_rfl
theorem pro_fx:∀ i:Nat,i < 12->((cat (Cv (Ik.toI (Ik.ofI (Ik.toI (wr ((97:Int) + (wr ((i:Int).tdiv (2:Int)))))):Kd .i32))) (Cv (Ik.toI (Ik.ofI (Ik.toI (wr ((48:Int) + ((i:Int).tmod (2:Int))))):Kd .i32)))).bind λx2=>some x2)=some (fx i):=λi h=>of_decide_eq_true (C1.1 Vq i (C3.2 h))
theorem Ri {f:Nat} {c:Aa} (h:Bd_ c) {i:Nat} (hi:i < cL c):LA f c (i:Int)=some (nmF c i):=by
 have h1:=h.a';have h2:=h.i;have h3:=h.s;have hS:cS c=2 * cA c + c.Inputs.length:=rfl;have hL:cL c=cS c + c.Signals.length:=rfl;unfold LA nmF;rw [h.wa,Ak];by_cases h4:i < 2 * cA c
 ·rw [dt_ h4,ct_,if_pos h4];exact ref_fx i om_
 ·rw [df_ h4,cf_,if_neg h4,Dx h,ob_,Ak];by_cases h5:i < cS c
  ·rw [dt_ h5,ct_,if_pos h5,Ar om_ om_,show (i:Int) - ((2 * cA c:Nat):Int)=((i - 2 * cA c:Nat):Int) by omega,Aj,gE_ om_];simp [gE_ (show i - 2 * cA c < c.Inputs.length by omega)]
  ·rw [df_ h5,cf_,if_neg h5,ob_,Ar om_ om_,show (i:Int) - (cS c:Int)=((i - cS c:Nat):Int) by omega,Aj,gE_ om_];rfl
theorem Zg {f:Nat} {c:Aa} (h:Bd_ c) {i:Nat} (hi:i < cL c):HT f c (i:Int)=some (nmF c i):=by
 have h1:=h.a';have h2:=h.i;have h3:=h.s;have hS:cS c=2 * cA c + c.Inputs.length:=rfl;have hL:cL c=cS c + c.Signals.length:=rfl;unfold HT nmF;rw [He h,ob_,h.wa,Ak];by_cases h4:i < 2 * cA c
 ·rw [dt_ h4,ct_,if_pos h4];exact pro_fx i om_
 ·rw [df_ h4,cf_,if_neg h4,Ak];by_cases h5:i < cS c
  ·rw [dt_ h5,ct_,if_pos h5,Ar om_ om_,show (i:Int) - ((2 * cA c:Nat):Int)=((i - 2 * cA c:Nat):Int) by omega,Aj,gE_ om_];simp [gE_ (show i - 2 * cA c < c.Inputs.length by omega)]
  ·rw [df_ h5,cf_,if_neg h5,Ar om_ om_,show (i:Int) - (cS c:Int)=((i - cS c:Nat):Int) by omega,Aj,gE_ om_];rfl
def nme (c:Aa) (i:Nat):Int:=if wd (nmF c i) then (if (nmF c i).size > 24 then 17 else if (List.range i).any (λj=>(nmF c j).data.toList == (nmF c i).data.toList) then 7 else 0) else 3
theorem Rq {f:Nat} {c:Aa} (h:Bd_ c) {i:Nat} (hi:i < cL c) (hn:(nmF c i).size<=200) (hf:600<=f):LD f c (i:Int)=some (nme c i):=by
 have h1:=h.a';have h2:=h.i;have h3:=h.s;have hS:cS c=2 * cA c + c.Inputs.length:=rfl;have hL:cL c=cS c + c.Signals.length:=rfl;unfold LD nme;rw [Ri h hi,ob_,Yg om_ om_,ob_];cases hw:wd (nmF c i) with
 | false=>rfl
 | true=>
  rw [nt_,cf_,if_pos rfl];by_cases h24:(nmF c i).size > 24
  ·rw [dt_ om_,ct_,if_pos h24]
  ·rw [df_ om_,cf_,if_neg h24];have hl:=Sr (L:=Jd f c (i:Int) (nmF c i)) (N:=i) (Q:=λj=>(nmF c j).data.toList == (nmF c i).data.toList) (r:=λ_=>7) (λn j hj=>by
    rw [Jd,Ak,dt_ hj,ct_,Ri h om_,ob_,ByteArray.toList_eq,ByteArray.toList_eq,An om_]) (λn=>by
    rw [Jd,Ak,df_ om_,cf_]) f 0 om_ om_
   rw [n0] at hl;rcases hl with ⟨k,_,hk,hq,h⟩ | ⟨h,hn⟩
   ·rw [h,if_pos (DA.2 ⟨k,C3.2 hk,hq⟩)];rfl
   ·rw [h,if_neg ?_]
    ·rfl
    ·intro ha;obtain ⟨k,hk,h4⟩:=DA.1 ha;have:=hn k om_ (C3.1 hk);rw [this] at h4;cases h4
def Vn (c:Aa) (i:Nat) (m:List (G0×Int)):Prop:=∀ s:G0,(mat Wc m s).isSome=(List.range i).any λj=>(nmF c j).data.toList == s.data.toList
theorem Bo {a b:G0}:Wc a b=true↔a=b:=by
 unfold Wc;obtain ⟨⟨x⟩⟩:=a;obtain ⟨⟨y⟩⟩:=b;simp
theorem AZ {m:List (G0×Int)} {k j:G0} {y:Int}:mat Wc (Jl Wc m k y) j=if j=k then some y else mat Wc m j:=by
 induction m with
 | nil=>
  show mat Wc [(k,y)] j=_;rw [Ba];by_cases h:j=k
  ·rw [if_pos (Bo.2 h),if_pos h]
  ·rw [if_neg (λe=>h (Bo.1 e)),if_neg h]
 | cons p m ih=>
  obtain ⟨k',z⟩:=p;rw [Kl,Ba];by_cases h:k=k'
  ·subst h;rw [if_pos (Bo.2 rfl),Ba];by_cases h2:j=k
   ·rw [if_pos (Bo.2 h2),if_pos h2]
   ·rw [if_neg (λe=>h2 (Bo.1 e)),if_neg h2,if_neg (λe=>h2 (Bo.1 e))]
  ·rw [if_neg (λe=>h (Bo.1 e)),Ba,ih];by_cases h2:j=k'
   ·subst h2;rw [if_pos (Bo.2 rfl),if_neg (λe=>h e.symm),if_pos (Bo.2 rfl)]
   ·rw [if_neg (λe=>h2 (Bo.1 e)),if_neg (λe=>h2 (Bo.1 e))]
theorem Vn.zero (c:Aa):Vn c 0 []:=λs=>rfl
theorem Vn.put {c:Aa} {i:Nat} {m:List (G0×Int)} (h:Vn c i m) (y:Int):Vn c (i + 1) (Jl Wc m (nmF c i) y):=by
 intro s;rw [AZ,List.range_succ,List.any_append];by_cases e:s=nmF c i
 ·rw [if_pos e,e];simp
 ·rw [if_neg e,h s];have:((nmF c i).data.toList == s.data.toList)=false:=by
   cases hb:((nmF c i).data.toList == s.data.toList) with
   | false=>rfl
   | true=>exact absurd (Bo.1 hb).symm e
  rw [FG,List.any_nil,FT,this,FT]
theorem Rv {f:Nat} {c:Aa} (h:Bd_ c) {i:Nat} (hn:(nmF c i).size<=200) (hf:600<=f) {m:List (G0×Int)} (hm:Vn c i m) (a b c' d e) :
  ∃ m',HX f (nmF c i) a b c' d e m=some (nme c i,m')/\(nme c i=0->Vn c (i + 1) m'):=by
 unfold HX nme;have hemp:((nmF c i).toList == (⟨#[]⟩:G0).toList)=((nmF c i).data.toList == []):=by
  rw [ByteArray.toList_eq,ByteArray.toList_eq]
 rw [hemp,Yo om_ om_];have hwd:∀ (k:Bool->Option (Int×List (G0×Int))),((bif ((nmF c i).data.toList == []) then some true else (Mm (nmF c i) (0:Int)).bind λx1=>some (decide ((x1.toNat:Int) < (UInt8.ofNat 97).toNat))).bind λr2=>(bif r2 then some true else (Mm (nmF c i) (0:Int)).bind λx3=>some (decide ((x3.toNat:Int) > (UInt8.ofNat 122).toNat))).bind λr4=>(bif r4 then some true else (some ((nmF c i).data.toList.any λb=>!Ci b)).bind λx5=>some x5).bind k)=k (!wd (nmF c i)):=by
  intro k;cases hd:(nmF c i).data.toList with
  | nil=>unfold wd;rw [hd];rfl
  | cons b l=>
   have h0:Mm (nmF c i) (0:Int)=some b:=by
    have:=Tu (s:=nmF c i) (i:=0) (by rw [hd];simp);rw [n0] at this;rw [this];simp [hd]
   unfold wd;rw [h0,hd];simp only [ob_,cs_,u8n (show 97 < 256 by omega),u8n (show 122 < 256 by omega)];congr 1;rw [EF];unfold Qb;simp only [List.all_eq_not_any_not];cases (b :: l).any (λb=>!Ci b) <;> simp <;> omega
 rw [hwd];cases hw:wd (nmF c i) with
 | false=>exact ⟨m,rfl,λh=>by simp at h⟩
 | true=>
  rw [nt_,cf_,if_pos rfl];by_cases h24:(nmF c i).size > 24
  ·rw [dt_ om_,ct_,if_pos h24];exact ⟨m,rfl,λh=>by simp at h⟩
  ·rw [df_ om_,cf_,if_neg h24,hm (nmF c i)];cases hx:(List.range i).any (λj=>(nmF c j).data.toList == (nmF c i).data.toList) with
   | true=>exact ⟨m,rfl,λh=>by simp at h⟩
   | false=>exact ⟨_,rfl,λ_=>hm.put _⟩
end Go.Pn
namespace Go.Pn
open Go
def AK (E:Nat->Int):Nat->Nat->Int
 | 0,_=>0
 | k + 1,i=>if E i=0 then AK E k (i + 1) else E i
theorem Sf {E:Nat->Int}:∀ {k i:Nat},AK E k i=0->∀ j,i<=j->j < i + k->E j=0
 | 0,_,_,j,h1,h2=>by omega
 | k + 1,i,h,j,h1,h2=>by
  unfold AK at h;split at h
  ·rcases GS h1 with rfl | h3
   ·assumption
   ·exact Sf h j h3 om_
  ·contradiction
theorem fnzI {S σ β:Type} {L:Nat->S->Option (Lo S β)} {mk:Nat->σ->S} {N:Nat} {E:Nat->Int} {r:Int->β} {I:Nat->σ->Prop}
  (h:∀ (n i:Nat) s,i < N->I i s->(E i=0->∃ s',I (i + 1) s'/\L (n + 1) (mk i s)=L n (mk (i + 1) s'))/\(E i≠0->L (n + 1) (mk i s)=some (.ret (r (E i)))))
  (h':∀ (n:Nat) s,I N s->L (n + 1) (mk N s)=some (.brk (mk N s))) :
  ∀ (k n i:Nat) s,i + k=N->k < n->I i s->(AK E k i=0/\∃ s',I N s'/\L n (mk i s)=some (.brk (mk N s')))\/(AK E k i≠0/\L n (mk i s)=some (.ret (r (AK E k i))))
 | 0,0,i,s,_,h2,_=>by omega
 | 0,n + 1,i,s,h1,h2,hI=>by
  obtain rfl:i=N:=by omega
  exact .inl ⟨rfl,s,hI,h' n s hI⟩
 | k + 1,0,i,s,_,h2,_=>by omega
 | k + 1,n + 1,i,s,h1,h2,hI=>by
  obtain ⟨a,b⟩:=h n i s om_ hI;unfold AK;by_cases e:E i=0
  ·obtain ⟨s',hs,hl⟩:=a e;rw [if_pos e,hl];exact fnzI h h' k n (i + 1) s' om_ om_ hs
  ·rw [if_neg e];exact .inr ⟨e,b e⟩
def zrx (x:Expr):Bool:=((x.Op == 0) && (x.Index == 0)) && (((x.Args).length:Int) == 0)
theorem Rf {f:Nat} {x:Expr}:LL f x=some (zrx x):=rfl
theorem Rl {f:Nat} {x:Expr}:HR f x=some (zrx x):=rfl
structure Fw (c:Aa):Prop where
 i:∀ s∈c.Inputs,s.size<=200
 n:∀ x∈c.Signals,x.Name.size<=200
 on:∀ x∈c.Signals,Lt_ x.On/\m10 FF x.On=some true
 off:∀ x∈c.Signals,Lt_ x.Off/\m10 FF x.Off=some true
theorem Fw.nm {c:Aa} (h:Fw c) (i:Nat):(nmF c i).size<=200:=by
 unfold nmF;split
 ·show 2<=200;omega
 ·split
  ·rw [C4];cases hx:c.Inputs[i - 2 * cA c]? with
   | none=>show 0<=200;omega
   | some s=>exact h.i s (CV hx)
  ·cases hx:c.Signals[i - cS c]? with
   | none=>show 0<=200;omega
   | some x=>exact h.n x (CV hx)
def gate (c:Aa) (k:Nat):Bool:=match c.Signals[k]? with | some y=>y.Kind == 0 | none=>false
def late (c:Aa) (i:Nat) (x:Ad):Bool:=(List.range c.Signals.length).any λk=>decide (i<=k) && (gate c k && occ 16 ((cS c + k:Nat):Int) x.On)
def sge (c:Aa) (i:Nat) (x:Ad):Int:=
 if nme c (cS c + i)≠0 then nme c (cS c + i) else if x.Kind < 0\/3<=x.Kind then 1 else if chE 16 (cL c) x.On≠0 then chE 16 (cL c) x.On else
 if x.Kind=1 then (if chE 16 (cL c) x.Off≠0 then chE 16 (cL c) x.Off else if x.Delay≠0 then 3 else 0)
 else if x.Kind=0 then (if late c i x=true then 9 else if (!zrx x.Off || x.Init || x.Delay != 0)=true then 3 else 0)
 else (if x.Delay < 1\/x.Delay > 1000000 then 2 else if (!zrx x.Off || x.Init)=true then 3 else 0)
theorem Yf {c:Aa} (h:Bd_ c) {i:Nat} {x:Ad} (hx:c.Signals[i]?=some x) (hd:dp 16 x.On):LK FF c (i:Int)=some (late c i x):=by
 have h1:=h.a';have h2:=h.i;have h3:=h.s;have hS:cS c=2 * cA c + c.Inputs.length:=rfl;have hi:=(CT.1 hx).1;unfold LK;have hl:=Sr (L:=Ja FF c (i:Int)) (N:=c.Signals.length) (Q:=λk=>gate c k && occ 16 ((cS c + k:Nat):Int) x.On) (r:=λ_=>true) (λn k hk=>by
  rw [Ja,Ak,dt_ hk,ct_,Aj,gE_ hk,ob_,An om_];unfold gate;rw [gE_ hk];dsimp only;cases hg:(c.Signals[k].Kind == 0) with
  | false=>rfl
  | true=>
   rw [ct_,Aj,hx,ob_,Dx h,ob_,Ar om_ om_,show (cS c:Int) + (k:Int)=((cS c + k:Nat):Int) by omega,Qx 16 FF _ _ hd uF];simp only [ob_,EE]) (λn=>by
  rw [Ja,Ak,df_ om_,cf_]) FF i om_ uF
 unfold late;rcases hl with ⟨k,hk1,hk,hq,h⟩ | ⟨h,hn⟩
 ·rw [h,DA.2 ⟨k,C3.2 hk,by rw [hq,dt_ hk1];rfl⟩];rfl
 ·rw [h];have:((List.range c.Signals.length).any λk=>decide (i<=k) && (gate c k && occ 16 ((cS c + k:Nat):Int) x.On))=false:=by
   rw [D1];intro k hk;have hk:=C3.1 hk;by_cases hik:i<=k
   ·rw [hn k hik hk];simp
   ·rw [df_ hik];simp
  rw [this];rfl
theorem Yv {c:Aa} (h:Bd_ c) (hw:Fw c) {i:Nat} {x:Ad} (hx:c.Signals[i]?=some x):LM FF c (i:Int)=some (sge c i x):=by
 have h1:=h.a';have h2:=h.i;have h3:=h.s;have hS:cS c=2 * cA c + c.Inputs.length:=rfl;have hL:cL c=cS c + c.Signals.length:=rfl;have hi:=(CT.1 hx).1;have hxm:=CV hx;obtain ⟨on1,on2⟩:=hw.on x hxm;obtain ⟨of1,of2⟩:=hw.off x hxm;have hF:600<=FF:=by unfold FF;omega
 unfold LM sge;rw [Aj,hx,ob_,Dx h,ob_,Ar om_ om_,show (cS c:Int) + (i:Int)=((cS c + i:Nat):Int) by omega,Rq h om_ (hw.nm _) hF,ob_];by_cases e1:nme c (cS c + i)=0
 ·rw [e1,if_neg smp_,zf_,cf_];by_cases e2:x.Kind < 0\/3<=x.Kind
  ·rw [if_pos e2,show (decide (x.Kind < 0) || decide (x.Kind>=(3:Int)))=true by simpa using e2,ct_]
  ·rw [if_neg e2,show (decide (x.Kind < 0) || decide (x.Kind>=(3:Int)))=false by simp;omega,cf_,Gx h,ob_,Rh on1 on2 om_ om_ hF,ob_];by_cases e3:chE 16 (cL c) x.On=0
   ·rw [e3,if_neg smp_,zf_,cf_];have hk:x.Kind=0\/x.Kind=1\/x.Kind=2:=by omega
    rcases hk with k | k | k <;> rw [k]
    ·simp only [show ((0:Int) == 1)=false by rfl,show ((0:Int) == 0)=true by rfl,show ((0:Int) == 2)=false by rfl,cf_,ct_,EU,FP,EE];rw [Yf h hx on1.dp,ob_,ob_,Rf,ob_,ob_];simp only [show ¬ ((0:Int)=1) by omega,if_false,if_true];cases late c i x with
     | true=>rfl
     | false=>
      simp only [cf_];cases zrx x.Off <;> cases x.Init <;> cases (x.Delay != 0) <;> rfl
    ·simp only [show ((1:Int) == 1)=true by rfl,show ((1:Int) == 0)=false by rfl,show ((1:Int) == 2)=false by rfl,cf_,ct_,EU,FP,EE,E9,D8,if_true];rw [ob_,Rh of1 of2 om_ om_ hF,ob_];by_cases e4:chE 16 (cL c) x.Off=0
     ·rw [e4,zf_,cf_,if_neg smp_,ob_,cf_,ob_,D8];by_cases e5:x.Delay=0
      ·rw [if_neg (by simpa using e5),e5];rfl
      ·rw [if_pos e5,show (x.Delay != 0)=true by simpa using e5];rfl
     ·rw [if_pos e4,show (chE 16 (cL c) x.Off != 0)=true by simpa using e4,ct_]
    ·simp only [show ((2:Int) == 1)=false by rfl,show ((2:Int) == 0)=false by rfl,show ((2:Int) == 2)=true by rfl,cf_,ct_,EU,FP,EE,E9,FT,if_true,show ¬ ((2:Int)=1) by omega,show ¬ ((2:Int)=0) by omega,if_false,ob_];rw [Rf,ob_];by_cases e5:x.Delay < 1\/x.Delay > 1000000
     ·rw [if_pos e5,show (decide (x.Delay < 1) || decide (x.Delay > 1000000))=true by simpa using e5,ct_]
     ·rw [if_neg e5,show (decide (x.Delay < 1) || decide (x.Delay > 1000000))=false by simp;omega,cf_,ob_];cases zrx x.Off <;> cases x.Init <;> rfl
   ·rw [if_pos e3,show (chE 16 (cL c) x.On != 0)=true by simpa using e3,ct_]
 ·rw [if_pos e1,show (nme c (cS c + i) != 0)=true by simpa using e1,ct_]
def pr (c:Aa) (i:Nat) (k:Int):Bool:=decide (k - (cS c:Int)>=(i:Int)) && gate c (k - (cS c:Int)).toNat
theorem Yp {f:Nat} {c:Aa} (h:Bd_ c) {i:Nat} {k:Int} (hk0:0<=k) (hk:k < cL c) (m:List (G0×Int)) (b:Bool) :
  HZ f k (i:Int) c.Actuators c.Inputs c.Signals c.Plus c.Minus m b=some (b || pr c i k):=by
 have h1:=h.a';have h2:=h.i;have h3:=h.s;have hS:cS c=2 * cA c + c.Inputs.length:=rfl;have hL:cL c=cS c + c.Signals.length:=rfl;unfold HZ pr;have e:(⟨c.Actuators,c.Inputs,c.Signals,c.Plus,c.Minus⟩:Aa)=c:=rfl;rw [e,He h,ob_,Ar om_ om_];cases b with
 | true=>rfl
 | false=>
  rw [cf_,D8];by_cases hg:k - (cS c:Int)>=(i:Int)
  ·obtain ⟨j,hj⟩:=ES (show 0<=k - (cS c:Int) by omega);rw [dt_ hg,ct_,hj,Aj,gE_ om_,ob_,ob_,ob_];unfold gate;rw [show ((j:Int)).toNat=j by simp,gE_ om_];rfl
  ·rw [df_ hg];rfl
theorem Ra {c:Aa} (h:Bd_ c) {i:Nat} (m:List (G0×Int)):∀ (d f:Nat) (x:Expr) (b:Bool),okE d (cL c) x->d + 300<=f ->
  H0 f x c.Actuators c.Inputs c.Signals c.Plus c.Minus m b (i:Int)=some (b || CJ d (pr c i) x)
 | 0,_,_,_,h,_=>h.elim
 | d + 1,f,x,b,ho,hf=>by
  obtain ⟨f,rfl⟩:∃ f',f=f' + 1:=⟨f - 1,by omega⟩;obtain ⟨hn,hl,ha⟩:=ho;obtain ⟨o1,o2,o3,o4,o5,i1,i2⟩:=Gr hn;unfold H0 CJ;have loop:∀ (n j:Nat) (b:Bool),j<=x.Args.length->x.Args.length - j < n ->
    Le (H0 f) x c.Actuators c.Inputs c.Signals c.Plus c.Minus m (i:Int) n ((j:Int),b)=some ((x.Args.length:Int),b || (x.Args.drop j).any (CJ d (pr c i))):=by
   intro n
   induction n with
   | zero=>intro j _ _ h;omega
   | succ n ihn=>
    intro j b hj hnn;unfold Le;dsimp only;by_cases h3:j < x.Args.length
    ·rw [Ak,dt_ h3,ct_,Aj,gE_ h3,ob_,Ra h m d f _ b (ha _ (CS h3)) om_,ob_,An om_,ihn (j + 1) _ om_ om_,C2 h3,FG,Bool.or_assoc]
    ·rw [Ak,df_ h3,cf_,CW om_];have:j=x.Args.length:=by omega
     subst this;simp
  by_cases h1:x.Op=1
  ·rw [if_pos h1,show (x.Op == 1)=true by simpa using h1,ct_,Yp h i1 (i2 h1),ob_,ob_];have h3:=loop f 0 (b || pr c i x.Index) om_ om_;rw [n0,C6] at h3;rw [h3,o3 om_];simp
  ·rw [if_neg h1,show (x.Op == 1)=false by simpa using h1,cf_,ob_];have h3:=loop f 0 b om_ om_;rw [n0,C6] at h3;rw [h3];rfl
theorem late_eq {c:Aa} {i:Nat} {x:Ad} (ho:okE 16 (cL c) x.On):CJ 16 (pr c i) x.On=late c i x:=by
 have hL:cL c=cS c + c.Signals.length:=rfl;rw [EF,Pr];unfold late;rw [DA];constructor
 ·rintro ⟨k,hp,hk⟩;have hl:=B0 ho hk;unfold pr at hp;rw [CU] at hp;obtain ⟨hp1,hp2⟩:=hp;have hp1:k - (cS c:Int)>=(i:Int):=by simpa using hp1
  refine ⟨(k - (cS c:Int)).toNat,C3.2 om_,?_⟩;rw [dt_ om_,hp2,show ((cS c + (k - (cS c:Int)).toNat:Nat):Int)=k by omega,hk];rfl
 ·rintro ⟨j,hj,hq⟩;rw [CU,CU] at hq;obtain ⟨h1,h2,h3⟩:=hq;have h1:i<=j:=by simpa using h1
  refine ⟨_,?_,h3⟩;unfold pr;rw [show ((cS c + j:Nat):Int) - (cS c:Int)=(j:Int) by omega,show ((j:Int)).toNat=j by simp,h2,dt_ om_];rfl
theorem Ze {c:Aa} (h:Bd_ c) (hw:Fw c) {i:Nat} {x:Ad} (hx:c.Signals[i]?=some x) {m:List (G0×Int)} (hm:Vn c (cS c + i) m) :
  ∃ m',H5 FF (i:Int) c.Actuators c.Inputs c.Signals c.Plus c.Minus m=some (sge c i x,m')/\(sge c i x=0->Vn c (cS c + (i + 1)) m'):=by
 have h1:=h.a';have h2:=h.i;have h3:=h.s;have hS:cS c=2 * cA c + c.Inputs.length:=rfl;have hL:cL c=cS c + c.Signals.length:=rfl;have hi:=(CT.1 hx).1;have hxm:=CV hx;obtain ⟨on1,on2⟩:=hw.on x hxm;obtain ⟨of1,of2⟩:=hw.off x hxm;have hF:600<=FF:=by unfold FF;omega
 have hnm:nmF c (cS c + i)=x.Name:=by
  unfold nmF;rw [if_neg om_,if_neg om_,show cS c + i - cS c=i by omega,hx];rfl
 have e:(⟨c.Actuators,c.Inputs,c.Signals,c.Plus,c.Minus⟩:Aa)=c:=rfl;unfold H5 sge;obtain ⟨m',hm',hk'⟩:=Rv h (hw.nm (cS c + i)) hF hm c.Actuators c.Inputs c.Signals c.Plus c.Minus;rw [hnm] at hm';rw [Aj,hx,ob_,hm',ob_];dsimp only;refine ⟨m',?_,λh0=>?_⟩
 ·by_cases e1:nme c (cS c + i)=0
  ·rw [e1,if_neg smp_,zf_,cf_];by_cases e2:x.Kind < 0\/3<=x.Kind
   ·rw [if_pos e2,show (decide (x.Kind < 0) || decide (x.Kind>=(3:Int)))=true by simpa using e2,ct_]
   ·rw [if_neg e2,show (decide (x.Kind < 0) || decide (x.Kind>=(3:Int)))=false by simp;omega,cf_,e,Lj h,ob_,Li on1 om_ om_ hF,ob_];by_cases e3:chE 16 (cL c) x.On=0
    ·rw [e3,if_neg smp_,zf_,cf_];have hok:=okE.of on1.dp e3;have hk:x.Kind=0\/x.Kind=1\/x.Kind=2:=by omega
     rcases hk with k | k | k <;> rw [k]
     ·rw [show idx (List.range 3) (0:Int)=some 0 by rfl,ob_,show ((0:Nat) == 0)=true by rfl,ct_,if_neg om_,if_pos rfl];unfold H2 H1;rw [Aj,hx,ob_,Ra h m' 16 FF x.On false hok uF,ob_,ob_,D8,late_eq hok,Rl];cases late c i x with
      | true=>rfl
      | false=>cases zrx x.Off <;> cases x.Init <;> cases (x.Delay != 0) <;> rfl
     ·rw [show idx (List.range 3) (1:Int)=some 1 by rfl,ob_,show ((1:Nat) == 0)=false by rfl,cf_,show ((1:Nat) == 1)=true by rfl,ct_,if_pos rfl];unfold H3;rw [e,Lj h,Aj,hx,ob_,ob_,Li of1 om_ om_ hF,ob_];by_cases e4:chE 16 (cL c) x.Off=0
      ·rw [e4,zf_,cf_,if_neg smp_,ob_];by_cases e5:x.Delay=0
       ·rw [if_neg (by simpa using e5),e5];rfl
       ·rw [if_pos e5,show (x.Delay != 0)=true by simpa using e5];rfl
      ·rw [if_pos e4,show (chE 16 (cL c) x.Off != 0)=true by simpa using e4,ct_];rfl
     ·rw [show idx (List.range 3) (2:Int)=some 2 by rfl,ob_,show ((2:Nat) == 0)=false by rfl,cf_,show ((2:Nat) == 1)=false by rfl,cf_,show ((2:Nat) == 2)=true by rfl,ct_,if_neg om_,if_neg om_];unfold H4;rw [Aj,hx,ob_,Rl];by_cases e5:x.Delay < 1\/x.Delay > 1000000
      ·rw [if_pos e5,show (decide (x.Delay < 1) || decide (x.Delay > 1000000))=true by simpa using e5];rfl
      ·rw [if_neg e5,show (decide (x.Delay < 1) || decide (x.Delay > 1000000))=false by simp;omega];cases zrx x.Off <;> cases x.Init <;> rfl
    ·rw [if_pos e3,show (chE 16 (cL c) x.On != 0)=true by simpa using e3,ct_]
  ·rw [if_pos e1,show (nme c (cS c + i) != 0)=true by simpa using e1,ct_]
 ·refine hk' ?_;by_cases e1:nme c (cS c + i)=0
  ·exact e1
  ·rw [if_pos e1] at h0;exact h0
theorem Zb {f:Nat} {c:Aa} (h:Bd_ c) {k:Int}:H6 f k c=some (bad (cL c) k):=by
 unfold H6 bad;rw [Lj h];cases decide (k < 0) <;> rfl
theorem BB {c:Aa} (h:Bd_ c) {xs:GW} (hl:xs.length < 1000):m53 FF xs c=some (xs.any (bad (cL c))):=by
 unfold m53 m48;have h5:=Tt (L:=Uq FF xs c) (xs:=xs) (p:=λ_ y=>H6 FF y c) (q:=bad (cL c)) (r:=λz=>z) (λ_ _=>rfl) om_ (λi y hy=>Zb h) FF 0 om_ uF;rw [n0,C6] at h5;rw [h5];cases h6:xs.findIdx? (bad (cL c)) with
 | none=>
  rw [DN] at h6;have:xs.any (bad (cL c))=false:=D1.2 λy hy=>by simpa using h6 y hy
  rw [this];rfl
 | some j=>
  obtain ⟨hj,hj2,_⟩:=DC.1 h6;have:xs.any (bad (cL c))=true:=DA.2 ⟨_,CS hj,by simpa using hj2⟩;rw [this];simp
theorem Ru {p q:GW} (hp:p.length<=400000000) (hq:q.length<=400000000):HP FF [p,q]=some (p ++ q):=by
 unfold HP;have h1:Ed [p,q] FF ((0:Int),(0:Int))=some (((p.length + q.length:Nat):Int),2):=by
  show Ed [p,q] (99997 + 1 + 1 + 1) _=_;unfold Ed;rw [show decide ((0:Int) < (([p,q]:List GW).length:Int))=true by rfl,ct_,show idx [p,q] 0=some p by rfl,ob_];dsimp only;rw [Ar om_ om_,Ar om_ om_,df_ om_,cf_];unfold Ed;rw [show decide ((0:Int) + 1 < (([p,q]:List GW).length:Int))=true by rfl,ct_,show idx [p,q] (0 + 1)=some q by rfl,ob_];dsimp only;rw [Ar om_ om_,Ar om_ om_,df_ om_,cf_];unfold Ed;rw [show decide ((0:Int) + 1 + 1 < (([p,q]:List GW).length:Int))=false by rfl,cf_];congr 1;refine Prod.ext ?_ rfl;dsimp only;omega
 have h2:Ec [p,q] FF ((0:Int),[])=some ((2:Int),p ++ q):=by
  show Ec [p,q] (99997 + 1 + 1 + 1) _=_;unfold Ec app;rw [show decide ((0:Int) < (([p,q]:List GW).length:Int))=true by rfl,ct_,show idx [p,q] 0=some p by rfl,ob_,if_pos so_,ob_];dsimp only;rw [Ar om_ om_];unfold Ec app;rw [show decide ((0:Int) + 1 < (([p,q]:List GW).length:Int))=true by rfl,ct_,show idx [p,q] (0 + 1)=some q by rfl,ob_,if_pos so_,ob_];dsimp only;rw [Ar om_ om_];unfold Ec;rw [show decide ((0:Int) + 1 + 1 < (([p,q]:List GW).length:Int))=false by rfl,cf_];rfl
 rw [h1,ob_];unfold m167;rw [if_pos (by dsimp only;omega),ob_,h2];rfl
theorem Jr {c:Aa} (h:Bd_ c) {xs:GW} (hl:xs.length < 1000):Jc FF c xs FF (0:Int)=if xs.any (bad (cL c)) then some (.ret 6) else some (.brk (xs.length:Int)):=by
 have h5:=Tt (L:=Jc FF c xs) (xs:=xs) (p:=λ_ y=>some (bad (cL c) y)) (q:=bad (cL c)) (r:=λ_=>6) (λn z=>by
  rw [Jc];congr 1;cases hx:idx xs z with
  | none=>rfl
  | some y=>
   rw [ob_,ob_,ob_,Gx h,ob_];unfold bad;cases decide (y < 0) <;> rfl) om_ (λi y hy=>rfl) FF 0 om_ (by unfold FF; omega)
 rw [n0,C6] at h5;rw [h5];cases h6:xs.findIdx? (bad (cL c)) with
 | none=>
  rw [DN] at h6;have:xs.any (bad (cL c))=false:=D1.2 λy hy=>by simpa using h6 y hy
  rw [this];rfl
 | some j=>
  obtain ⟨hj,hj2,_⟩:=DC.1 h6;have:xs.any (bad (cL c))=true:=DA.2 ⟨_,CS hj,by simpa using hj2⟩;rw [this];rfl
def plE (c:Aa):Int:=if (c.Plus.length:Int)≠c.Actuators\/(c.Minus.length:Int)≠c.Actuators then 8 else if (c.Plus ++ c.Minus).any (bad (cL c)) then 6 else 0
theorem Yu {c:Aa} (h:Bd_ c):LN FF c=some (plE c):=by
 have h6:=h.a6;unfold LN plE;by_cases h1:(c.Plus.length:Int)≠c.Actuators\/(c.Minus.length:Int)≠c.Actuators
 ·rw [if_pos h1,show (((c.Plus.length:Int) != c.Actuators) || ((c.Minus.length:Int) != c.Actuators))=true by simpa using h1,ct_]
 ·rw [if_neg h1,show (((c.Plus.length:Int) != c.Actuators) || ((c.Minus.length:Int) != c.Actuators))=false by simp;omega,cf_];have:Eb FF c FF (0:Int)=if (c.Plus ++ c.Minus).any (bad (cL c)) then some (.ret 6) else some (.brk 2):=by
   show Eb FF c (99997 + 1 + 1 + 1) _=_;unfold Eb;rw [show decide ((0:Int) < (([c.Plus,c.Minus]:List GW).length:Int))=true by rfl,ct_,show idx [c.Plus,c.Minus] 0=some c.Plus by rfl,ob_,Jr h om_,List.any_append];cases c.Plus.any (bad (cL c)) with
   | true=>rfl
   | false=>
    rw [if_neg smp_,ob_];dsimp only;rw [Ar om_ om_];unfold Eb;rw [show decide ((0:Int) + 1 < (([c.Plus,c.Minus]:List GW).length:Int))=true by rfl,ct_,show idx [c.Plus,c.Minus] (0 + 1)=some c.Minus by rfl,ob_,Jr h om_,D8];cases c.Minus.any (bad (cL c)) with
    | true=>rfl
    | false=>
     rw [if_neg smp_,ob_];dsimp only;rw [Ar om_ om_];unfold Eb;rw [show decide ((0:Int) + 1 + 1 < (([c.Plus,c.Minus]:List GW).length:Int))=false by rfl,cf_];rfl
  rw [this];cases (c.Plus ++ c.Minus).any (bad (cL c)) <;> rfl
structure Rt (c:Aa):Prop where
 bd:Bd_ c
 sig:∀ x∈c.Signals,0<=x.Kind/\x.Kind < 3/\okE 16 (cL c) x.On/\(x.Kind=1->okE 16 (cL c) x.Off)
 plus:c.Plus.length=cA c
 minus:c.Minus.length=cA c
 lines:∀ l∈c.Plus ++ c.Minus,0<=l/\l < cL c
 ini:∀ x∈c.Signals,x.Kind=2->x.Init=false
theorem AS {c:Aa} (hw:Fw c) {i:Nat} {x:Ad} (hx:c.Signals[i]?=some x) (h:sge c i x=0):(0<=x.Kind/\x.Kind < 3/\okE 16 (cL c) x.On/\(x.Kind=1->okE 16 (cL c) x.Off))/\(x.Kind=2->x.Init=false):=by
 have hxm:=CV hx;unfold sge at h;split at h
 ·contradiction
 ·split at h
  ·omega
  ·split at h
   ·contradiction
   ·rename_i h2 h3;refine ⟨⟨by omega,by omega,okE.of (hw.on x hxm).1.dp om_,λhk=>?_⟩,λhk=>?_⟩
    ·rw [if_pos hk] at h;split at h
     ·contradiction
     ·rename_i h4;exact okE.of (hw.off x hxm).1.dp om_
    ·rw [if_neg om_,if_neg om_] at h;split at h
     ·contradiction
     ·split at h
      ·contradiction
      ·rename_i h5;cases hi:x.Init with
       | false=>rfl
       | true=>rw [hi] at h5;simp at h5
def sgE (c:Aa) (i:Nat):Int:=match c.Signals[i]? with | some x=>sge c i x | none=>0
theorem Kn {c:Aa} (h:Bd_ c):∀ (n i:Nat) (m:List (G0×Int)),i<=2 * cA c->2 * cA c - i < n->Vn c i m->∃ z m',Ql FF c n ((i:Int),m)=some (z,m')/\Vn c (2 * cA c) m'
 | 0,i,_,_,h,_=>by omega
 | n + 1,i,m,h1,h2,hm=>by
  have ha:=h.a';have hL:cL c=2 * cA c + c.Inputs.length + c.Signals.length:=rfl;unfold Ql;dsimp only;rw [h.wa,Ak];by_cases hi:i < 2 * cA c
  ·rw [dt_ hi,ct_,Zg h om_,ob_,An om_];exact Kn h n (i + 1) _ om_ om_ (hm.put _)
  ·rw [df_ hi,cf_];obtain rfl:i=2 * cA c:=by omega
   exact ⟨_,m,rfl,hm⟩
theorem BT {c:Aa} (hw:Fw c) (hs:c.Signals.length<=16\/64 < c.Signals.length):∃ e,m50 FF c=some e/\LO FF c=some e/\(e=0->Rt c):=by
 unfold m50 m93 LO;by_cases hA:c.Actuators < 1\/c.Actuators > 6
 ·have:(decide (c.Actuators < 1) || decide (c.Actuators > 6))=true:=by simpa using hA
  rw [this];exact ⟨2,rfl,rfl,by simp⟩
 have:(decide (c.Actuators < 1) || decide (c.Actuators > 6))=false:=by simp;omega
 rw [this,cf_,cf_];by_cases hI:c.Inputs.length > 16\/c.Signals.length > 64
 ·have:(decide ((c.Inputs.length:Int) > 16) || decide ((c.Signals.length:Int) > 64))=true:=by simp;omega
  rw [this];exact ⟨5,rfl,rfl,by simp⟩
 have:(decide ((c.Inputs.length:Int) > 16) || decide ((c.Signals.length:Int) > 64))=false:=by simp;omega
 rw [this,cf_,cf_];have h:Bd_ c:=⟨by omega,by omega,by omega,by omega⟩;have ha:=h.a';have h2:=h.i;have h3:=h.s;have hS:cS c=2 * cA c + c.Inputs.length:=rfl;have hL:cL c=cS c + c.Signals.length:=rfl;have hF:600<=FF:=by unfold FF;omega
 obtain ⟨z,m1,e1,k1⟩:=Kn h FF 0 [] om_ uF (Vn.zero c);rw [n0] at e1;rw [e1,ob_];dsimp only;have A1:=fnzI (L:=Mq FF c) (mk:=λi m=>((i:Int),m)) (N:=c.Inputs.length) (E:=λi=>nme c (2 * cA c + i)) (r:=λe=>Sum.inl e) (I:=λi m=>Vn c (2 * cA c + i) m) (λn i m hi hm=>by
  have hnm:nmF c (2 * cA c + i)=c.Inputs[i]:=by
   unfold nmF;rw [if_neg om_,if_pos om_,show 2 * cA c + i - 2 * cA c=i by omega];simp [gE_ hi]
  obtain ⟨m',hm',hk'⟩:=Rv h (hw.nm (2 * cA c + i)) hF hm c.Actuators c.Inputs c.Signals c.Plus c.Minus;rw [hnm] at hm';rw [Mq];dsimp only;rw [Ak,dt_ hi,ct_,Aj,gE_ hi,ob_,hm',ob_];dsimp only;refine ⟨λh0=>⟨m',hk' h0,?_⟩,λh0=>?_⟩
  ·rw [h0,zf_,cf_,An om_]
  ·rw [show (nme c (2 * cA c + i) != 0)=true by simpa using h0,ct_]) (λn m _=>by
  rw [Mq];dsimp only;rw [Ak,df_ om_,cf_]) c.Inputs.length FF 0 m1 om_ uF k1
 have B1:=fnzI (L:=Jh FF c) (mk:=λi (_:Unit)=>(i:Int)) (N:=c.Inputs.length) (E:=λi=>nme c (2 * cA c + i)) (r:=λe=>e) (I:=λ_ _=>True) (λn i _ hi _=>by
  rw [Jh,Ak,dt_ hi,ct_,h.wa,Ar om_ om_,show ((2 * cA c:Nat):Int) + (i:Int)=((2 * cA c + i:Nat):Int) by omega,Rq h om_ (hw.nm _) hF,ob_];refine ⟨λh0=>⟨(),trivial,?_⟩,λh0=>?_⟩
  ·rw [h0,zf_,cf_,An om_]
  ·rw [show (nme c (2 * cA c + i) != 0)=true by simpa using h0,ct_]) (λn _ _=>by
  rw [Jh,Ak,df_ om_,cf_]) c.Inputs.length FF 0 () om_ uF trivial
 try dsimp only at A1 B1
 rw [n0] at A1 B1;generalize AK (λi=>nme c (2 * cA c + i)) c.Inputs.length 0=E1 at A1 B1;rcases A1 with ⟨z1,m2,k2,A1⟩ | ⟨z1,A1⟩
 case inr=>
  rcases B1 with ⟨z2,_⟩ | ⟨_,B1⟩
  ·exact absurd z2 z1
  rw [A1,B1];exact ⟨E1,rfl,rfl,λh=>absurd h z1⟩
 rcases B1 with ⟨_,_,_,B1⟩ | ⟨z2,_⟩
 case inr=>exact absurd z1 z2
 rw [A1,B1,ob_,ob_];dsimp only;have hget:∀ i,i < c.Signals.length->∃ x,c.Signals[i]?=some x/\sgE c i=sge c i x:=λi hi=>⟨c.Signals[i],gE_ hi,by unfold sgE;rw [gE_ hi]⟩;have A2:=fnzI (L:=Mo FF c) (mk:=λi m=>((i:Int),m)) (N:=c.Signals.length) (E:=sgE c) (r:=λe=>Sum.inl e) (I:=λi m=>Vn c (cS c + i) m) (λn i m hi hm=>by
  obtain ⟨x,hx,hsg⟩:=hget i hi;obtain ⟨m',hm',hk'⟩:=Ze h hw hx hm;rw [Mo,hsg];dsimp only;rw [Ak,dt_ hi,ct_,hm',ob_];dsimp only;refine ⟨λh0=>⟨m',hk' h0,?_⟩,λh0=>?_⟩
  ·rw [h0,zf_,cf_,An om_]
  ·rw [show (sge c i x != 0)=true by simpa using h0,ct_]) (λn m _=>by
  rw [Mo];dsimp only;rw [Ak,df_ om_,cf_]) c.Signals.length FF 0 m2 om_ uF k2
 have B2:=fnzI (L:=Jg FF c) (mk:=λi (_:Unit)=>(i:Int)) (N:=c.Signals.length) (E:=sgE c) (r:=λe=>e) (I:=λ_ _=>True) (λn i _ hi _=>by
  obtain ⟨x,hx,hsg⟩:=hget i hi;rw [Jg,Ak,dt_ hi,ct_,Yv h hw hx,ob_,hsg];refine ⟨λh0=>⟨(),trivial,?_⟩,λh0=>?_⟩
  ·rw [h0,zf_,cf_,An om_]
  ·rw [show (sge c i x != 0)=true by simpa using h0,ct_]) (λn _ _=>by
  rw [Jg,Ak,df_ om_,cf_]) c.Signals.length FF 0 () om_ uF trivial
 try dsimp only at A2 B2
 rw [n0] at A2 B2;have hz:AK (sgE c) c.Signals.length 0=0->∀ j,j < c.Signals.length->sgE c j=0:=λh j hj=>Sf h j om_ om_;generalize AK (sgE c) c.Signals.length 0=E2 at A2 B2 hz;rcases A2 with ⟨z1,m3,k3,A2⟩ | ⟨z1,A2⟩
 case inr=>
  rcases B2 with ⟨z2,_⟩ | ⟨_,B2⟩
  ·exact absurd z2 z1
  rw [A2,B2];exact ⟨E2,rfl,rfl,λh=>absurd h z1⟩
 rcases B2 with ⟨_,_,_,B2⟩ | ⟨z2,_⟩
 case inr=>exact absurd z1 z2
 rw [A2,B2,ob_,ob_];dsimp only;rw [Yu h];refine ⟨plE c,?_,rfl,λh0=>?_⟩
 ·unfold plE;by_cases h1:(c.Plus.length:Int)≠c.Actuators\/(c.Minus.length:Int)≠c.Actuators
  ·rw [if_pos h1,show (((c.Plus.length:Int) != c.Actuators) || ((c.Minus.length:Int) != c.Actuators))=true by simpa using h1,ct_];rfl
  ·rw [if_neg h1,show (((c.Plus.length:Int) != c.Actuators) || ((c.Minus.length:Int) != c.Actuators))=false by simp;omega,cf_];have h6:=h.a6;rw [Ru om_ om_,ob_,BB h so_,ob_];cases (c.Plus ++ c.Minus).any (bad (cL c)) <;> rfl
 ·unfold plE at h0;split at h0
  ·contradiction
  ·split at h0
   ·contradiction
   ·rename_i h1 h2;have h6:=h.a;have hsz:∀ x∈c.Signals,(0<=x.Kind/\x.Kind < 3/\okE 16 (cL c) x.On/\(x.Kind=1->okE 16 (cL c) x.Off))/\(x.Kind=2->x.Init=false):=λx hx=>by
     obtain ⟨i,hi⟩:=FW hx;have h5:=hz z1 i (CT.1 hi).1;have:sge c i x=0:=by
      unfold sgE at h5;rw [hi] at h5;exact h5
     exact AS hw hi this
    refine ⟨h,λx hx=>(hsz x hx).1,by omega,by omega,λl hl=>?_,λx hx=>(hsz x hx).2⟩
    ·have h5:(c.Plus ++ c.Minus).any (bad (cL c))=false:=by simpa using h2
     have:=D1.1 h5 l hl;unfold bad at this;simp at this;omega
theorem m4_spec (c:Aa):∃ b,m4 FF c=some b/\(b=true->Fw c/\(c.Signals.length<=16\/64 < c.Signals.length)):=by
 unfold m4;by_cases h1:c.Inputs.length > 32\/(c.Signals.length > 16/\c.Signals.length<=64)\/c.Signals.length > 128\/c.Plus.length > 40\/c.Minus.length > 40
 ·have:(((((decide ((c.Inputs.length:Int) > 32)) || ((decide ((c.Signals.length:Int) > 16)) && (decide ((c.Signals.length:Int)<=(64:Int))))) || (decide ((c.Signals.length:Int) > 128))) || (decide ((c.Plus.length:Int) > 40))) || (decide ((c.Minus.length:Int) > 40)))=true:=by
   simp;omega
  rw [this];exact ⟨false,rfl,by simp⟩
 ·have:(((((decide ((c.Inputs.length:Int) > 32)) || ((decide ((c.Signals.length:Int) > 16)) && (decide ((c.Signals.length:Int)<=(64:Int))))) || (decide ((c.Signals.length:Int) > 128))) || (decide ((c.Plus.length:Int) > 40))) || (decide ((c.Minus.length:Int) > 40)))=false:=by
   simp;omega
  rw [this,cf_];have h2:=Tt (L:=BD c) (xs:=c.Inputs) (p:=λ_ x=>some (decide ((x.size:Int) > 200))) (q:=λx=>decide ((x.size:Int) > 200)) (r:=λ_=>false) (λ_ _=>rfl) om_ (λ_ _ _=>rfl) FF 0 om_ uF;rw [n0,C6] at h2;cases hc:c.Inputs.findIdx? (λx=>decide ((x.size:Int) > 200)) with
  | some j=>rw [hc] at h2;rw [h2];exact ⟨false,rfl,by simp⟩
  | none=>
   rw [hc] at h2;rw [h2,ob_];dsimp only;rw [DN] at hc;have hF:600<=FF:=by unfold FF;omega
   let q:Ad->Bool:=λx=>decide ((x.Name.size:Int) > 200) || !((m10 FF x.On).getD false) || !((m10 FF x.Off).getD false)
   have h3:=Tt (L:=Xe FF c) (xs:=c.Signals) (p:=λ_ x=>some (q x)) (q:=q) (r:=λ_=>false) (λn z=>by
    rw [Xe];congr 1;cases hx:idx c.Signals z with
    | none=>rfl
    | some x=>
     rw [ob_,ob_,ob_];obtain ⟨b1,e1,_⟩:=Jy hF x.On;obtain ⟨b2,e2,_⟩:=Jy hF x.Off;show _=bif q x then _ else _;simp only [q];rw [e1,e2];cases decide ((x.Name.size:Int) > 200) <;> cases b1 <;> cases b2 <;> rfl) om_ (λ_ _ _=>rfl) FF 0 om_ (by unfold FF; omega)
   rw [n0,C6] at h3;cases hd:c.Signals.findIdx? q with
   | some j=>rw [hd] at h3;rw [h3];exact ⟨false,rfl,by simp⟩
   | none=>
    rw [hd] at h3;rw [h3];rw [DN] at hd;refine ⟨true,rfl,λ_=>⟨⟨λs hs=>?_,λx hx=>?_,λx hx=>?_,λx hx=>?_⟩,by omega⟩⟩
    ·have:=hc s hs;simp at this;omega
    ·have:=hd x hx;simp only [q,EZ,decide_eq_false_iff_not] at this;omega
    ·have:=hd x hx;simp only [q,EZ,decide_eq_false_iff_not] at this;obtain ⟨b,e,hb⟩:=Jy hF x.On;have h5:=this.1.2;rw [e] at h5;have h5:b=true:=by simpa using h5
     exact ⟨hb h5,by rw [e,h5]⟩
    ·have:=hd x hx;simp only [q,EZ,decide_eq_false_iff_not] at this;obtain ⟨b,e,hb⟩:=Jy hF x.Off;have h5:=this.2;rw [e] at h5;have h5:b=true:=by simpa using h5
     exact ⟨hb h5,by rw [e,h5]⟩
end Go.Pn
namespace Go.Pn
open Go
theorem Pc {S σ:Type} {L:Nat->S->Option S} {mk:Nat->σ->S} {N:Nat} {I:Nat->σ->Prop}
  (h:∀ (n i:Nat) s,i < N->I i s->∃ s',I (i + 1) s'/\L (n + 1) (mk i s)=L n (mk (i + 1) s')) (h':∀ (n:Nat) s,I N s->L (n + 1) (mk N s)=some (mk N s)) :
  ∀ (n i:Nat) s,i<=N->N - i < n->I i s->∃ s',I N s'/\L n (mk i s)=some (mk N s')
 | 0,i,_,_,h,_=>by omega
 | n + 1,i,s,h1,h2,hI=>by
  by_cases hi:i < N
  ·obtain ⟨s',h3,h4⟩:=h n i s hi hI;rw [h4];exact Pc h h' n (i + 1) s' om_ om_ h3
  ·obtain rfl:i=N:=by omega
   exact ⟨s,hI,h' n s hI⟩
def upd {α:Type} (f:Nat->α) (l:List α) (i:Nat):List α:=(List.range i).map f ++ l.drop i
theorem Bp {α:Type} {f:Nat->α} {l:List α}:upd f l 0=l:=by simp [upd]
theorem Cu {α:Type} {f:Nat->α} {l:List α}:upd f l l.length=(List.range l.length).map f:=by simp [upd]
theorem Hs {α:Type} {f:Nat->α} {l:List α} {i:Nat} (h:i<=l.length):(upd f l i).length=l.length:=by simp [upd];omega
theorem Bs {α:Type} {f:Nat->α} {l:List α} {i j:Nat} (h:i<=j):(upd f l i)[j]?=l[j]?:=by
 unfold upd;rw [DM so_,FL];congr 1;simp;omega
theorem Cr {α:Type} {f:Nat->α} {l:List α} {i:Nat} {y:α} (h:i < l.length) (hy:y=f i):(upd f l i).set i y=upd f l (i + 1):=by
 subst hy;refine EG λj=>?_;by_cases e:j=i
 ·subst e;rw [DK (by rw [Hs om_];exact h)];unfold upd;rw [DB smp_];simp
 ·rw [D9 om_];by_cases h2:j < i
  ·unfold upd;rw [DB so_,DB so_];simp [h2,show j < i + 1 by omega]
  ·rw [Bs om_,Bs om_]
structure Rc (c:Aa):Prop where
 rt:Rt c
 fw:Fw c
 ck:m50 FF c=some 0
 ck':LO FF c=some 0
structure Fit (c:Aa) (s:Ac):Prop where
 e:s.Ends.length=cA c
 v:s.Valves.length=cA c
 i:s.Inputs.length=c.Inputs.length
 x:s.Values.length=c.Signals.length
 t:s.Timers.length=c.Signals.length
 ee:∀ a∈s.Ends,0<=a/\a < 4
 tt:∀ a∈s.Timers,0<=a/\a < 3
 k:∀ (i:Nat) x t v,c.Signals[i]?=some x->s.Timers[i]?=some t->s.Values[i]?=some v->(x.Kind≠2->t=0)/\(x.Kind=2->v=(t == 2))
def Zv (s:Ac):GX:=s.Ends.flatMap λe=>[e == 0,e == 2]
def pre (s:Ac):GX:=Zv s ++ s.Inputs
def vals (s:Ac):GX:=pre s ++ s.Values
theorem Ma {l:GW}:(l.flatMap λe=>[e == 0,e == 2]).length=2 * l.length:=by
 induction l with
 | nil=>rfl
 | cons a l ih=>rw [FQ,CO,ih];simp;omega
theorem B6:∀ {l:GW} {j:Nat},(l.flatMap λe=>[e == 0,e == 2])[j]?=(l[j / 2]?).map λe=>if j % 2=0 then e == 0 else e == 2
 | [],j=>by simp
 | a :: l,0=>by simp
 | a :: l,1=>by simp
 | a :: l,j + 2=>by
  rw [FQ];show (List.flatMap (λe=>[e == 0,e == 2]) l)[j]?=_;rw [B6,show (j + 2) / 2=j / 2 + 1 by omega,show (j + 2) % 2=j % 2 by omega];rfl
theorem Fit.pl {c:Aa} {s:Ac} (h:Fit c s):(pre s).length=cS c:=by
 unfold pre Zv;rw [CO,Ma,h.e,h.i];rfl
theorem Fit.vl {c:Aa} {s:Ac} (h:Fit c s):(vals s).length=cL c:=by
 unfold vals;rw [CO,h.pl,h.x];rfl
theorem We {l:GW} {i:Nat} (h:i < l.length):(l.take (i + 1)).flatMap (λe=>[e == 0,e == 2])=(l.take i).flatMap (λe=>[e == 0,e == 2]) ++ [l[i] == 0,l[i] == 2]:=by
 rw [EX,gE_ h,List.flatMap_append];simp
theorem Lf {c:Aa} {s:Ac} (hb:Bd_ c) (h1:s.Ends.length=cA c) (h2:s.Inputs.length<=1000) (h3:s.Values.length<=1000):L1 FF c s=some (vals s):=by
 have ha:=hb.a';unfold L1;obtain ⟨acc,he,hl⟩:=Pc (L:=Cc c s) (mk:=λi acc=>((i:Int),acc)) (N:=cA c) (I:=λi acc=>acc=(s.Ends.take i).flatMap λe=>[e == 0,e == 2]) (λn i acc hi hI=>by
  subst hI;refine ⟨_,rfl,?_⟩;rw [Cc];dsimp only;have hlen:((s.Ends.take i).flatMap λe=>[e == 0,e == 2]).length<=1000:=by rw [Ma,D0];omega
  unfold app;rw [hb.a,Ak,dt_ hi,ct_,Aj,gE_ om_,ob_,ob_,if_pos (by simp only [EN,FZ];omega),ob_,An om_,We om_]) (λn acc _=>by
  rw [Cc];dsimp only;rw [hb.a,Ak,df_ om_,cf_]) FF 0 [] om_ uF rfl
 subst he;try dsimp only at hl
 rw [n0] at hl;rw [hl,ob_];dsimp only;rw [DY om_];have h4:(s.Ends.flatMap λe=>[e == 0,e == 2]).length<=1000:=by rw [Ma];omega
 unfold app;rw [if_pos om_,ob_,if_pos (by rw [CO];omega),ob_];rfl
theorem Ye:∀ {c:Aa} {s:Ac} {n z},Bu c s n z=Cc c s n z:=by
 intro c s n
 induction n with
 | zero=>intro z;rfl
 | succ n ih=>intro z;rw [Bu,Cc];simp only [ih]
theorem Lg {c:Aa} {s:Ac} (hb:Bd_ c) (h1:s.Ends.length=cA c) (h2:s.Inputs.length<=1000) (h3:s.Values.length<=1000):Nj FF c s=some (vals s):=by
 rw [← Lf hb h1 h2 h3];unfold Nj L1;simp only [Ye]
theorem Jp {s:Ac} (h1:s.Ends.length<=1000):De s FF ((0:Int),[])=some ((s.Ends.length:Int),Zv s):=by
 obtain ⟨acc,he,hl⟩:=Pc (L:=De s) (mk:=λi acc=>((i:Int),acc)) (N:=s.Ends.length) (I:=λi acc=>acc=(s.Ends.take i).flatMap λe=>[e == 0,e == 2]) (λn i acc hi hI=>by
  subst hI;refine ⟨_,rfl,?_⟩;rw [De];dsimp only;have hlen:((s.Ends.take i).flatMap λe=>[e == 0,e == 2]).length<=10000:=by rw [Ma,D0];omega
  unfold app;rw [Ak,dt_ hi,ct_,Aj,gE_ om_,ob_,if_pos (by simp only [EN,FZ];omega),ob_,An om_,We om_]) (λn acc _=>by
  rw [De];dsimp only;rw [Ak,df_ om_,cf_]) FF 0 [] om_ uF rfl
 subst he;try dsimp only at hl
 rw [n0] at hl;rw [hl,DY om_];rfl
theorem Yk {s:Ac} (h1:s.Ends.length<=1000) (h2:s.Inputs.length<=1000) (h3:s.Values.length<=1000):KM FF s=some (vals s):=by
 unfold KM;rw [Jp h1,ob_];dsimp only;have h4:(Zv s).length<=10000:=by unfold Zv;rw [Ma];omega
 unfold app;rw [if_pos om_,ob_,if_pos (by rw [CO];omega),ob_];rfl
theorem Xu {p q r:GX} (hp:p.length<=1000000) (hq:q.length<=1000000) (hr:r.length<=1000000):JN FF [p,q,r]=some (p ++ q ++ r):=by
 unfold JN;have h1:Db [p,q,r] FF ((0:Int),(0:Int))=some (((p.length + q.length + r.length:Nat):Int),3):=by
  show Db [p,q,r] (99996 + 1 + 1 + 1 + 1) _=_;unfold Db;rw [show decide ((0:Int) < (([p,q,r]:List GX).length:Int))=true by rfl,ct_,show idx [p,q,r] 0=some p by rfl,ob_];dsimp only;rw [Ar om_ om_,Ar om_ om_,df_ om_,cf_];unfold Db;rw [show decide ((0:Int) + 1 < (([p,q,r]:List GX).length:Int))=true by rfl,ct_,show idx [p,q,r] (0 + 1)=some q by rfl,ob_];dsimp only;rw [Ar om_ om_,Ar om_ om_,df_ om_,cf_];unfold Db;rw [show decide ((0:Int) + 1 + 1 < (([p,q,r]:List GX).length:Int))=true by rfl,ct_,show idx [p,q,r] (0 + 1 + 1)=some r by rfl,ob_];dsimp only;rw [Ar om_ om_,Ar om_ om_,df_ om_,cf_];unfold Db;rw [show decide ((0:Int) + 1 + 1 + 1 < (([p,q,r]:List GX).length:Int))=false by rfl,cf_];congr 1;refine Prod.ext ?_ rfl;dsimp only;omega
 have h2:Da [p,q,r] FF ((0:Int),[])=some ((3:Int),p ++ q ++ r):=by
  show Da [p,q,r] (99996 + 1 + 1 + 1 + 1) _=_;unfold Da app;rw [show decide ((0:Int) < (([p,q,r]:List GX).length:Int))=true by rfl,ct_,show idx [p,q,r] 0=some p by rfl,ob_,if_pos so_,ob_];dsimp only;rw [Ar om_ om_];unfold Da app;rw [show decide ((0:Int) + 1 < (([p,q,r]:List GX).length:Int))=true by rfl,ct_,show idx [p,q,r] (0 + 1)=some q by rfl,ob_,if_pos so_,ob_];dsimp only;rw [Ar om_ om_];unfold Da app;rw [show decide ((0:Int) + 1 + 1 < (([p,q,r]:List GX).length:Int))=true by rfl,ct_,show idx [p,q,r] (0 + 1 + 1)=some r by rfl,ob_,if_pos so_,ob_];dsimp only;rw [Ar om_ om_];unfold Da;rw [show decide ((0:Int) + 1 + 1 + 1 < (([p,q,r]:List GX).length:Int))=false by rfl,cf_];rfl
 rw [h1,ob_];unfold m251;rw [if_pos (by dsimp only;omega),ob_,h2];rfl
theorem Vw:∀ {s:Ac} {n z},La s.Ends n z=De s n z:=by
 intro s n
 induction n with
 | zero=>intro z;rfl
 | succ n ih=>intro z;rw [La,De];simp only [ih]
theorem Qw {s:Ac} (h1:s.Ends.length<=1000) (h2:s.Inputs.length<=1000) (h3:s.Values.length<=1000) (a b c d e f):JY FF a b c d e f s.Ends s.Valves s.Inputs s.Values s.Timers=some (vals s):=by
 unfold JY;rw [Vw,Jp h1,ob_];dsimp only;have h4:(Zv s).length<=10000:=by unfold Zv;rw [Ma];omega
 rw [Xu om_ om_ om_,ob_];rfl
theorem Hd {xs:GW} (h:xs.length<=1000):JC FF xs=some xs:=by
 unfold JC app;rw [if_pos so_];rfl
theorem Cj {xs:GX} (h:xs.length<=1000):JE FF xs=some xs:=by
 unfold JE app;rw [if_pos so_];rfl
def tup (s:Ac):GW×GX×GX×GX×GW:=(s.Ends,s.Valves,s.Inputs,s.Values,s.Timers)
theorem Ck {s:Ac} (h:Smst s 1000):LU FF s=some (tup s):=by
 obtain ⟨h1,h2,h3,h4,h5⟩:=h;unfold LU app;rw [if_pos so_,ob_,if_pos so_,ob_,if_pos so_,ob_,if_pos so_,ob_,if_pos so_,ob_];rfl
theorem Ld {s:Ac} (h:Smst s 1000):JJ FF s=some (tup s):=by
 obtain ⟨h1,h2,h3,h4,h5⟩:=h;unfold JJ;rw [Hd h1,ob_,Cj h2,ob_,Cj h3,ob_,Cj h4,ob_,Hd h5,ob_];rfl
theorem Rs {s:Ac} (h:Smst s 1000):JG FF s=some (tup s):=Ld h
theorem Fit.sm {c:Aa} {s:Ac} (hb:Bd_ c) (h:Fit c s):Smst s 1000:=by
 have h1:=hb.a';have h2:=hb.i;have h3:=hb.s;obtain ⟨a1,a2,a3,a4,a5⟩:=h;constructor <;> omega
def Lz (c:Aa) (p:GX) (i:Nat) (v:GX):GX:=match c.Signals[i]? with
 | some x=>if x.Kind=0 then v.set i (ev 16 (p ++ v) x.On) else v
 | none=>v
def Do (c:Aa) (s:Ac):Nat->GX
 | 0=>s.Values
 | i + 1=>Lz c (pre s) i (Do c s i)
def As (c:Aa) (s:Ac):Ac:=⟨s.Ends,s.Valves,s.Inputs,Do c s c.Signals.length,s.Timers⟩
theorem Di {c:Aa} {s:Ac}:∀ {i:Nat},(Do c s i).length=s.Values.length
 | 0=>rfl
 | i + 1=>by
  unfold Do Lz;split
  ·split
   ·rw [EL,Di]
   ·exact Di
  ·exact Di
theorem Wf {p v:GX} {i:Nat} {b:Bool}:(p ++ v).set (p.length + i) b=p ++ v.set i b:=by
 rw [List.set_append];rw [if_neg om_];congr 2;omega
theorem Rm {c:Aa} {s:Ac} (hc:Rt c) (h:Fit c s):L5 FF c s=some (As c s):=by
 have hb:=hc.bd;have h1:=hb.a';have h2:=hb.i;have h3:=hb.s;unfold L5;rw [Ck (h.sm hb),ob_];obtain ⟨v,he,hl⟩:=Pc (L:=Dy FF c (tup s)) (mk:=λi v=>((i:Int),v)) (N:=c.Signals.length) (I:=λi v=>v=Do c s i) (λn i v hi hI=>by
  subst hI;refine ⟨_,rfl,?_⟩;have hx:c.Signals[i]?=some c.Signals[i]:=gE_ hi;have hvl:=Di (c:=c) (s:=s) (i:=i);rw [Dy];dsimp only;rw [Ak,dt_ hi,ct_,Aj,hx,ob_,An om_];show _=Dy FF c (tup s) n (((i + 1:Nat):Int),Lz c (pre s) i (Do c s i));unfold Lz;rw [hx];dsimp only;by_cases hk:c.Signals[i].Kind=0
  ·rw [if_pos hk,show (c.Signals[i].Kind == 0)=true by simpa using hk,ct_,ob_];obtain ⟨_,_,ho,_⟩:=hc.sig _ (CS hi);have hv:vals ⟨(tup s).1,(tup s).2.1,(tup s).2.2.1,Do c s i,(tup s).2.2.2.2⟩=pre s ++ Do c s i:=rfl;rw [Lf hb (by show s.Ends.length=_;exact h.e) (by show s.Inputs.length<=_;rw [h.i];omega) (by show (Do c s i).length<=_;rw [hvl,h.x];omega),hv,ob_,Hc 16 FF _ _ (by rw [CO,h.pl,hvl,h.x];exact ho) uF,ob_,Aj,gE_ (by rw [hvl,h.x];exact hi),ob_,ob_];simp
  ·rw [if_neg hk,show (c.Signals[i].Kind == 0)=false by simpa using hk,cf_,ob_]) (λn v _=>by
  rw [Dy];dsimp only;rw [Ak,df_ om_,cf_]) FF 0 s.Values om_ uF rfl
 subst he;try dsimp only at hl
 rw [n0] at hl;show ((Dy FF c (tup s) FF ((0:Int),s.Values)).bind _)=_;rw [hl];rfl
theorem Xx {c:Aa} {s:Ac} (hc:Rt c) (h:Fit c s):J0 FF c.Actuators (cS c:Int) c.Inputs c.Signals c.Plus c.Minus s.Ends s.Valves s.Inputs s.Values s.Timers=some (Do c s c.Signals.length):=by
 have hb:=hc.bd;have h1:=hb.a';have h2:=hb.i;have h3:=hb.s;obtain ⟨s1,s2,s3,s4,s5⟩:=h.sm hb;unfold J0;rw [Qw s1 s3 s4,ob_];obtain ⟨v,he,hl⟩:=Pc (L:=Fn FF (cS c:Int) c.Signals) (mk:=λi (v:GX×GX)=>((i:Int),v.1,v.2)) (N:=c.Signals.length) (I:=λi v=>v=(Do c s i,pre s ++ Do c s i)) (λn i v hi hI=>by
  subst hI;refine ⟨_,rfl,?_⟩;have hx:c.Signals[i]?=some c.Signals[i]:=gE_ hi;have hvl:=Di (c:=c) (s:=s) (i:=i);have hS:cS c=2 * cA c + c.Inputs.length:=rfl;rw [Fn];dsimp only;rw [Ak,dt_ hi,ct_,Aj,hx,ob_,An om_,Ar om_ om_];show _=Fn FF (cS c:Int) c.Signals n (((i + 1:Nat):Int),Lz c (pre s) i (Do c s i),pre s ++ Lz c (pre s) i (Do c s i));unfold Lz;rw [hx];dsimp only;by_cases hk:c.Signals[i].Kind=0
  ·rw [if_pos hk,show (c.Signals[i].Kind == 0)=true by simpa using hk,ct_];obtain ⟨_,_,ho,_⟩:=hc.sig _ (CS hi);rw [Ha 16 FF _ _ (by rw [CO,h.pl,hvl,h.x];exact ho) uF,ob_,Aj,gE_ (by rw [hvl,h.x];exact hi),ob_,show (cS c:Int) + (i:Int)=((cS c + i:Nat):Int) by omega,Aj,gE_ (by rw [CO,h.pl,hvl,h.x];omega),ob_,ob_];dsimp only;rw [show ((cS c + i:Nat):Int).toNat=(pre s).length + i by rw [h.pl];omega,Wf];simp
  ·rw [if_neg hk,show (c.Signals[i].Kind == 0)=false by simpa using hk,cf_,ob_]) (λn v _=>by
  rw [Fn];dsimp only;rw [Ak,df_ om_,cf_]) FF 0 (s.Values,vals s) om_ uF rfl
 subst he;try dsimp only at hl
 rw [n0] at hl;rw [hl];rfl
theorem okE.che:∀ {d:Nat} {n:Int} {x:Expr},okE d n x->chE d n x=0
 | 0,_,_,h=>h.elim
 | d + 1,n,x,h=>by
  unfold chE;rw [if_pos h.1];have:∀ l:List Expr,(∀ y∈l,okE d n y)->fnz (l.map (chE d n))=0:=by
   intro l
   induction l with
   | nil=>intro _;rfl
   | cons y l ih=>
    intro hl;rw [CZ];unfold fnz;rw [if_pos (hl y smp_).che];exact ih λz hz=>hl z (by simp [hz])
  exact this _ h.2.2
theorem Yj {n:Nat} {ls:GX} {x:Expr} (hx:Lt_ x) (ho:okE 16 n x) (hl:ls.length=n) (hn:n<=256):KS FF x ls=some (ev 16 ls x,0):=by
 subst hl;unfold KS;rw [Li hx om_ om_ uF,ho.che,ob_,zf_,cf_,Qz 16 FF _ _ ho uF];rfl
theorem Za {c:Aa} {s:Ac} (hc:Rt c) (hw:Fw c) (h:Fit c s):KU FF c s=some (tup (As c s)):=by
 have hb:=hc.bd;have h1:=hb.a';have h2:=hb.i;have h3:=hb.s;obtain ⟨s1,s2,s3,s4,s5⟩:=h.sm hb;unfold KU;rw [Hd s1,ob_,Cj s2,ob_,Cj s3,ob_,Cj s4,ob_,Hd s5,ob_,Yk s1 s3 s4,ob_];have hS:cS c=2 * cA c + c.Inputs.length:=rfl;have hL:cL c=cS c + c.Signals.length:=rfl;obtain ⟨v,he,hl⟩:=Pc (L:=Gf FF c) (mk:=λi (v:GX×GX)=>((i:Int),v.1,v.2)) (N:=c.Signals.length) (I:=λi v=>v=(Do c s i,pre s ++ Do c s i)) (λn i v hi hI=>by
  subst hI;refine ⟨_,rfl,?_⟩;have hx:c.Signals[i]?=some c.Signals[i]:=gE_ hi;have hvl:=Di (c:=c) (s:=s) (i:=i);rw [Gf];dsimp only;rw [Ak,dt_ hi,ct_,Aj,hx,ob_,He hb,An om_];show _=Gf FF c n (((i + 1:Nat):Int),Lz c (pre s) i (Do c s i),pre s ++ Lz c (pre s) i (Do c s i));unfold Lz;rw [hx];dsimp only;by_cases hk:c.Signals[i].Kind=0
  ·rw [if_pos hk,show (c.Signals[i].Kind == 0)=true by simpa using hk,ct_];obtain ⟨_,_,ho,_⟩:=hc.sig _ (CS hi);rw [Yj (hw.on _ (CS hi)).1 ho (by rw [CO,h.pl,hvl,h.x];rfl) om_,ob_,ob_,Aj,gE_ (by rw [hvl,h.x];exact hi),ob_,Ar om_ om_,show (cS c:Int) + (i:Int)=((cS c + i:Nat):Int) by omega,Aj,gE_ (by rw [CO,h.pl,hvl,h.x];omega),ob_,ob_];dsimp only;rw [show ((cS c + i:Nat):Int).toNat=(pre s).length + i by rw [h.pl];omega,Wf];simp
  ·rw [if_neg hk,show (c.Signals[i].Kind == 0)=false by simpa using hk,cf_,ob_]) (λn v _=>by
  rw [Gf];dsimp only;rw [Ak,df_ om_,cf_]) FF 0 (s.Values,vals s) om_ uF rfl
 subst he;try dsimp only at hl
 rw [n0] at hl;rw [show vals (⟨s.Ends,s.Valves,s.Inputs,s.Values,s.Timers⟩:Ac)=vals s from rfl,hl];rfl
def ofb (ls:GX) (x:Ad):Bool:=(x.Kind == 1) && ev 16 ls x.Off
def chg (ls:GX) (x:Ad) (v:Bool) (t:Int):Bool×Int:=
 if x.Kind=1 then (if ev 16 ls x.On=ofb ls x then (v,t) else (ev 16 ls x.On,t))
 else if x.Kind=2 then (if ev 16 ls x.On=false then (false,0) else if t=0 then (v,1) else (v,t)) else (v,t)
def Er (c:Aa) (g:Ac) (i:Nat):Bool×Int:=match c.Signals[i]? with
 | some x=>chg (vals g) x (g.Values.getD i false) (g.Timers.getD i 0)
 | none=>(false,0)
def nxtS (c:Aa) (g:Ac):Ac:=⟨g.Ends,g.Valves,g.Inputs,(List.range g.Values.length).map λi=>(Er c g i).1,(List.range g.Timers.length).map λi=>(Er c g i).2⟩
def Hu (c:Aa) (s:Ac):Ac:=nxtS c (As c s)
theorem Ej {c:Aa} {s:Ac} (h:Fit c s):Fit c (As c s):=by
 refine ⟨h.e,h.v,h.i,Di.trans h.x,h.t,h.ee,h.tt,?_⟩;intro i x t v hx ht hv;refine ⟨λhk=>?_,λhk=>?_⟩
 ·have hi:i < s.Values.length:=by rw [h.x];exact (CT.1 hx).1
  exact (h.k i x t _ hx ht (gE_ hi)).1 hk
 ·-- the value of a timer is not a gate's
  have key:∀ n,(Do c s n)[i]?=s.Values[i]?:=by
   intro n
   induction n with
   | zero=>rfl
   | succ n ih=>
    unfold Do Lz;cases hy:c.Signals[n]? with
    | none=>exact ih
    | some y=>
     dsimp only;split
     ·rename_i h0;have:n≠i:=λe=>by subst e;rw [hx] at hy;cases hy;omega
      rw [D9 this];exact ih
     ·exact ih
  have hv':(Do c s c.Signals.length)[i]?=some v:=hv;rw [key] at hv';exact (h.k i x t v hx ht hv').2 hk
theorem CB {ls:GX} {x:Ad} {v:Bool} {t:Int} (h0:0<=t/\t < 3) (h:(x.Kind≠2->t=0)/\(x.Kind=2->v=(t == 2))) :
  (0<=(chg ls x v t).2/\(chg ls x v t).2 < 3)/\(x.Kind≠2->(chg ls x v t).2=0)/\(x.Kind=2->(chg ls x v t).1=((chg ls x v t).2 == 2)):=by
 unfold chg;by_cases h1:x.Kind=1
 ·rw [if_pos h1];split
  ·exact ⟨h0,h⟩
  ·exact ⟨h0,h.1,λh2=>by omega⟩
 ·rw [if_neg h1];by_cases h2:x.Kind=2
  ·rw [if_pos h2];split
   ·exact ⟨by simp,λh3=>absurd h2 h3,λ_=>rfl⟩
   ·split
    ·rename_i ht;refine ⟨by simp,λh3=>absurd h2 h3,λ_=>?_⟩;have:=h.2 h2;rw [ht] at this;exact this
    ·exact ⟨h0,h⟩
  ·rw [if_neg h2];exact ⟨h0,h⟩
theorem AY {c:Aa} {g:Ac} (h:Fit c g):Fit c (nxtS c g):=by
 have hget:∀ (i:Nat) x,c.Signals[i]?=some x->∃ v t,g.Values[i]?=some v/\g.Timers[i]?=some t/\Er c g i=chg (vals g) x v t:=by
  intro i x hx;have hi:=(CT.1 hx).1;have h1:i < g.Values.length:=by rw [h.x];exact hi
  have h2:i < g.Timers.length:=by rw [h.t];exact hi
  refine ⟨g.Values[i],g.Timers[i],gE_ h1,gE_ h2,?_⟩;unfold Er;rw [hx];simp [gE_ h1,gE_ h2]
 refine ⟨h.e,h.v,h.i,by simp [nxtS,h.x],by simp [nxtS,h.t],h.ee,?_,?_⟩
 ·intro a ha;obtain ⟨i,hi,rfl⟩:=ET.1 ha;have hi:i < c.Signals.length:=by have:=C3.1 hi;rw [h.t] at this;exact this
  obtain ⟨v,t,h1,h2,h3⟩:=hget i _ (gE_ hi);rw [h3];exact (CB (h.tt t (CV h2)) (h.k i _ t v (gE_ hi) h2 h1)).1
 ·intro i x t v hx ht hv;obtain ⟨v0,t0,h1,h2,h3⟩:=hget i x hx;have hi:=(CT.1 hx).1;have ht':((List.range g.Timers.length).map λi=>(Er c g i).2)[i]?=some t:=ht;have hv':((List.range g.Values.length).map λi=>(Er c g i).1)[i]?=some v:=hv;rw [C8,D4 (by rw [h.t];exact hi)] at ht';rw [C8,D4 (by rw [h.x];exact hi)] at hv';have ht':=Option.some.inj ht';have hv':=Option.some.inj hv';dsimp only at ht' hv';rw [h3] at ht' hv';subst ht';subst hv';exact (CB (h.tt t0 (CV h2)) (h.k i x t0 v0 hx h2 h1)).2
theorem Oa {c:Aa} {s:Ac} (h:Fit c s):Fit c (Hu c s):=AY (Ej h)
theorem Qu {c:Aa} {x:Ad} {ls:GX} (hl:ls.length=cL c) (ho:okE 16 (cL c) x.On) (hf:x.Kind=1->okE 16 (cL c) x.Off):LZ FF x ls=some (ev 16 ls x.On,ofb ls x):=by
 unfold LZ ofb;rw [Hc 16 FF _ _ (by rw [hl];exact ho) uF,ob_];by_cases hk:x.Kind=1
 ·rw [show (x.Kind == 1)=true by simpa using hk,ct_,Hc 16 FF _ _ (by rw [hl];exact hf hk) uF];rfl
 ·rw [show (x.Kind == 1)=false by simpa using hk];rfl
theorem Xv {c:Aa} {g:Ac} (hc:Rt c) (h:Fit c g) {i:Nat} {x:Ad} (hx:c.Signals[i]?=some x):∃ s' b,L3 FF c g (i:Int)=some (s',b)/\s'.Values[i]?=some (Er c g i).1/\s'.Timers[i]?=some (Er c g i).2:=by
 have hb:=hc.bd;have h1:=hb.a';have h2:=hb.i;have h3:=hb.s;have hi:=(CT.1 hx).1;obtain ⟨k0,k3,ho,hf⟩:=hc.sig x (CV hx);have hv0:i < g.Values.length:=by rw [h.x];exact hi
 have ht0:i < g.Timers.length:=by rw [h.t];exact hi
 have hv:g.Values[i]?=some g.Values[i]:=gE_ hv0;have ht:g.Timers[i]?=some g.Timers[i]:=gE_ ht0;generalize g.Values[i]=v at hv;generalize g.Timers[i]=t at ht;have hci:Er c g i=chg (vals g) x v t:=by
  unfold Er;rw [hx];simp [hv,ht]
 unfold L3;rw [Ck (h.sm hb),ob_,Aj,hx,ob_,Lg hb h.e (by rw [h.i];omega) (by rw [h.x];omega),ob_,Qu h.vl ho hf,ob_,hci];unfold tup chg;dsimp only;simp only [Aj,hv,ht,ob_,DQ];have hvl:i < g.Values.length:=by rw [h.x];exact hi
 have htl:i < g.Timers.length:=by rw [h.t];exact hi
 have hk:x.Kind=0\/x.Kind=1\/x.Kind=2:=by omega
 rcases hk with k | k | k <;> rw [k]
 ·simp only [show ((0:Int) == 1)=false by rfl,show ((0:Int) == 2)=false by rfl,EU,cf_,ob_,show ¬ ((0:Int)=1) by omega,show ¬ ((0:Int)=2) by omega,if_false];exact ⟨_,_,rfl,hv,ht⟩
 ·simp only [show ((1:Int) == 1)=true by rfl,show ((1:Int) == 2)=false by rfl,EE,EU,cf_,ob_,if_true];by_cases e:ev 16 (vals g) x.On=ofb (vals g) x
  ·rw [if_pos e,e];simp only [bne_self_eq_false,cf_];exact ⟨_,_,rfl,hv,ht⟩
  ·rw [if_neg e,show (ev 16 (vals g) x.On != ofb (vals g) x)=true by simpa using e,ct_];exact ⟨_,_,rfl,by dsimp only;rw [DK hvl],ht⟩
 ·simp only [show ((2:Int) == 1)=false by rfl,show ((2:Int) == 2)=true by rfl,EE,EU,cf_,ct_,ob_,show ¬ ((2:Int)=1) by omega,if_false,if_true];cases ev 16 (vals g) x.On with
  | false=>
   simp only [FP,ct_,if_true];exact ⟨_,_,rfl,by dsimp only;rw [DK hvl],by dsimp only;rw [DK htl]⟩
  | true=>
   simp only [E9,cf_,show ¬ (true=false) by simp,if_false];by_cases e:t=0
   ·rw [if_pos e,show (t == 0)=true by simpa using e,ct_];exact ⟨_,_,rfl,hv,by dsimp only;rw [DK htl];rfl⟩
   ·rw [if_neg e,show (t == 0)=false by simpa using e,cf_];exact ⟨_,_,rfl,hv,ht⟩
def onPi (c:Aa) (g:Ac) (i:Nat) (x:Int):Prop:=∃ j sig,j < i/\c.Signals[j]?=some sig/\x=((cS c + j:Nat):Int)/\(ev 16 (vals g) sig.On && ofb (vals g) sig)=true
def onP (c:Aa) (s:Ac) (x:Int):Prop:=onPi c (As c s) c.Signals.length x
theorem Qi {c:Aa} {g:Ac} {x:Int}:¬ onPi c g 0 x:=λ⟨j,_,h,_⟩=>by omega
theorem Qj {c:Aa} {g:Ac} {i:Nat} {x:Int} (hi:i < c.Signals.length):onPi c g (i + 1) x↔onPi c g i x\/(x=((cS c + i:Nat):Int)/\(ev 16 (vals g) c.Signals[i].On && ofb (vals g) c.Signals[i])=true):=by
 constructor
 ·rintro ⟨j,sig,h1,h2,h3,h4⟩;by_cases h:j=i
  ·subst h;rw [gE_ hi] at h2;cases h2;exact .inr ⟨h3,h4⟩
  ·exact .inl ⟨j,sig,by omega,h2,h3,h4⟩
 ·rintro (⟨j,sig,h1,h2,h3,h4⟩ | ⟨h3,h4⟩)
  ·exact ⟨j,sig,by omega,h2,h3,h4⟩
  ·exact ⟨i,_,by omega,gE_ hi,h3,h4⟩
theorem onP_lt {c:Aa} {s:Ac} {x:Int} (h:onP c s x):∃ k:Nat,x=k/\k < cL c:=by
 obtain ⟨j,_,h1,_,h3,_⟩:=h;exact ⟨_,h3,by have hL:cL c=cS c + c.Signals.length:=rfl;omega⟩
theorem Wp {l:GW} {x y:Int} {b:Bool} {p:Int->Prop} (h:∀ x,x∈l↔p x):x∈(if b=true then l ++ [y] else l)↔p x\/(x=y/\b=true):=by
 cases b
 ·rw [if_neg smp_,h];simp
 ·rw [if_pos rfl,CY,h];simp
theorem Xy {c:Aa} {s:Ac} (hc:Rt c) (h:Fit c s):∃ l,L7 FF c s=some (Hu c s,l)/\l.length<=c.Signals.length/\∀ x,x∈l↔onP c s x:=by
 have hb:=hc.bd;have h1:=hb.a';have h2:=hb.i;have h3:=hb.s;have hg:=Ej h;have hS:cS c=2 * cA c + c.Inputs.length:=rfl;unfold L7;rw [Rm hc h,ob_,Ck (hg.sm hb),ob_];generalize hgg:As c s=g at hg;have hvl:g.Values.length=c.Signals.length:=hg.x;have htl:g.Timers.length=c.Signals.length:=hg.t;obtain ⟨v,he,hl⟩:=Pc (L:=Fp FF c g) (mk:=λi (v:GX×GW×GW)=>((i:Int),v.1,v.2.1,v.2.2)) (N:=c.Signals.length) (I:=λi v=>v.1=upd (λi=>(Er c g i).1) g.Values i/\v.2.1=upd (λi=>(Er c g i).2) g.Timers i/\v.2.2.length<=i/\∀ x,x∈v.2.2↔onPi c g i x) (λn i v hi hI=>by
  obtain ⟨V,T,l⟩:=v;obtain ⟨rfl,rfl,hll,hmm⟩:=hI;have hx:c.Signals[i]?=some c.Signals[i]:=gE_ hi;obtain ⟨_,_,ho,hf⟩:=hc.sig _ (CS hi);obtain ⟨s',b,e1,e2,e3⟩:=Xv hc hg hx;have e4:(upd (λi=>(Er c g i).1) g.Values i)[i]?=some g.Values[i]:=by rw [Bs (C5 i)];exact gE_ om_
  have e5:(upd (λi=>(Er c g i).2) g.Timers i)[i]?=some g.Timers[i]:=by rw [Bs (C5 i)];exact gE_ om_
  refine ⟨(upd (λi=>(Er c g i).1) g.Values (i + 1),upd (λi=>(Er c g i).2) g.Timers (i + 1),if (ev 16 (vals g) c.Signals[i].On && ofb (vals g) c.Signals[i])=true then l ++ [((cS c + i:Nat):Int)] else l),⟨rfl,rfl,?_⟩,?_⟩
  ·dsimp only at hll hmm ⊢;refine ⟨by split <;> (try simp) <;> omega,λx=>?_⟩
   rw [Wp hmm,Qj hi]
  ·rw [Fp];dsimp only at hll ⊢;rw [Ak,dt_ hi,ct_,e1,ob_];dsimp only;rw [Aj,e2,ob_,Aj,e3,ob_,Aj,e4,ob_,Aj,e5,ob_,Aj,hx,ob_,Lg hb hg.e (by rw [hg.i];omega) om_,ob_,Qu hg.vl ho hf,ob_];dsimp only;unfold L4;rw [Dx hb,ob_,Ar om_ om_,show (cS c:Int) + (i:Int)=((cS c + i:Nat):Int) by omega,An om_,DQ,Cr om_ rfl,Cr om_ rfl];cases ev 16 (vals g) c.Signals[i].On && ofb (vals g) c.Signals[i] with
   | true=>
    unfold app;rw [ct_,ob_,if_pos so_];rfl
   | false=>rfl) (λn v _=>by
  rw [Fp];dsimp only;rw [Ak,df_ om_,cf_]) FF 0 (g.Values,g.Timers,[]) om_ uF ⟨Bp.symm,Bp.symm,by simp,λx=>by simp [Qi]⟩
 obtain ⟨V,T,l⟩:=v;obtain ⟨rfl,rfl,hll,hmm⟩:=he;try dsimp only at hl hll hmm
 rw [n0] at hl;show ∃ l,((Fp FF c g FF ((0:Int),g.Values,g.Timers,[])).bind _)=_/\_;rw [hl];refine ⟨l,?_,hll,by unfold onP;rw [hgg];exact hmm⟩;unfold Hu nxtS;rw [hgg,ob_];dsimp only;have e1:upd (λi=>(Er c g i).1) g.Values c.Signals.length=(List.range g.Values.length).map λi=>(Er c g i).1:=by rw [← hvl];exact Cu
 have e2:upd (λi=>(Er c g i).2) g.Timers c.Signals.length=(List.range g.Timers.length).map λi=>(Er c g i).2:=by rw [← htl];exact Cu
 rw [e1,e2];rfl
theorem Xz {c:Aa} {s:Ac} (hc:Rt c) (h:Fit c s):∃ l,J1 FF c.Actuators (cS c:Int) c.Inputs c.Signals c.Plus c.Minus s.Ends s.Valves s.Inputs s.Values s.Timers=some (!sst s (Hu c s),l,(Hu c s).Values,(Hu c s).Timers)/\l.length<=c.Signals.length/\∀ x,x∈l↔onP c s x:=by
 have hb:=hc.bd;have h1:=hb.a';have h2:=hb.i;have h3:=hb.s;have hg:=Ej h;have hS:cS c=2 * cA c + c.Inputs.length:=rfl;obtain ⟨s1,s2,s3,s4,s5⟩:=hg.sm hb;unfold J1 JX;rw [show (⟨s.Ends,s.Valves,s.Inputs,s.Values,s.Timers⟩:Ac)=s from rfl,Ld (h.sm hb),ob_,Xx hc h,ob_];have h318:=Qw (s:=As c s) s1 s3 s4 c.Actuators (cS c:Int) c.Inputs c.Signals c.Plus c.Minus;rw [show (As c s).Ends=s.Ends from rfl,show (As c s).Valves=s.Valves from rfl,show (As c s).Inputs=s.Inputs from rfl,show (As c s).Timers=s.Timers from rfl,show (As c s).Values=Do c s c.Signals.length from rfl] at h318;rw [h318,ob_,ob_];have hvl:(Do c s c.Signals.length).length=c.Signals.length:=hg.x;have htl:s.Timers.length=c.Signals.length:=hg.t;obtain ⟨v,he,hl⟩:=Pc (L:=Hz FF (cS c:Int) c.Signals (vals (As c s))) (mk:=λi (v:GX×GW×GW)=>((i:Int),v.1,v.2.1,v.2.2)) (N:=c.Signals.length) (I:=λi v=>v.1=upd (λi=>(Er c (As c s) i).1) (Do c s c.Signals.length) i/\v.2.1=upd (λi=>(Er c (As c s) i).2) s.Timers i/\v.2.2.length<=i/\∀ x,x∈v.2.2↔onPi c (As c s) i x) (λn i v hi hI=>by
  obtain ⟨V,T,l⟩:=v;obtain ⟨rfl,rfl,hll,hmm⟩:=hI;have hx:c.Signals[i]?=some c.Signals[i]:=gE_ hi;obtain ⟨k0,k3,ho,hf⟩:=hc.sig _ (CS hi);have e4:(upd (λi=>(Er c (As c s) i).1) (Do c s c.Signals.length) i)[i]?=some (Do c s c.Signals.length)[i]:=by rw [Bs (C5 i)];exact gE_ om_
  have e5:(upd (λi=>(Er c (As c s) i).2) s.Timers i)[i]?=some s.Timers[i]:=by rw [Bs (C5 i)];exact gE_ om_
  have hci:Er c (As c s) i=chg (vals (As c s)) c.Signals[i] (Do c s c.Signals.length)[i] s.Timers[i]:=by
   unfold Er;rw [hx];simp [As,gE_ (show i < (Do c s c.Signals.length).length by omega),gE_ (show i < s.Timers.length by omega)]
  have hbody:∃ b,(((bif (c.Signals[i].Kind.toNat) == 0 then JU FF (⟨(Do c s c.Signals.length)[i],s.Timers[i],false⟩:Af) (ev 16 (vals (As c s)) c.Signals[i].On) (ofb (vals (As c s)) c.Signals[i]) else bif (c.Signals[i].Kind.toNat) == 1 then JV FF (⟨(Do c s c.Signals.length)[i],s.Timers[i],false⟩:Af) (ev 16 (vals (As c s)) c.Signals[i].On) (ofb (vals (As c s)) c.Signals[i]) else bif (c.Signals[i].Kind.toNat) == 2 then JW FF (⟨(Do c s c.Signals.length)[i],s.Timers[i],false⟩:Af) (ev 16 (vals (As c s)) c.Signals[i].On) (ofb (vals (As c s)) c.Signals[i]) else none)))=some (⟨(Er c (As c s) i).1,(Er c (As c s) i).2,b⟩:Af)/\b=(ev 16 (vals (As c s)) c.Signals[i].On && ofb (vals (As c s)) c.Signals[i]):=by
   rw [hci];have hk:c.Signals[i].Kind=0\/c.Signals[i].Kind=1\/c.Signals[i].Kind=2:=by omega
   unfold chg;rcases hk with k | k | k <;> rw [k]
   ·exact ⟨false,rfl,by unfold ofb;rw [k];simp⟩
   ·rw [show ((1:Int).toNat == 0)=false by rfl,show ((1:Int).toNat == 1)=true by rfl,cf_,ct_,if_pos rfl];unfold JV;cases ev 16 (vals (As c s)) c.Signals[i].On <;> cases ofb (vals (As c s)) c.Signals[i] <;> exact ⟨_,rfl,rfl⟩
   ·rw [show ((2:Int).toNat == 0)=false by rfl,show ((2:Int).toNat == 1)=false by rfl,show ((2:Int).toNat == 2)=true by rfl,cf_,cf_,ct_,if_neg om_,if_pos rfl];unfold JW;cases ev 16 (vals (As c s)) c.Signals[i].On with
    | false=>exact ⟨_,rfl,rfl⟩
    | true=>
     rw [nt_,cf_,if_neg smp_];by_cases e:s.Timers[i]=0
     ·rw [if_pos e,show (s.Timers[i] == 0)=true by simpa using e];exact ⟨_,rfl,by unfold ofb;rw [k];rfl⟩
     ·rw [if_neg e,show (s.Timers[i] == 0)=false by simpa using e];exact ⟨_,rfl,by unfold ofb;rw [k];rfl⟩
  obtain ⟨b,hbody,hbe⟩:=hbody;refine ⟨(upd (λi=>(Er c (As c s) i).1) (Do c s c.Signals.length) (i + 1),upd (λi=>(Er c (As c s) i).2) s.Timers (i + 1),if b=true then l ++ [((cS c + i:Nat):Int)] else l),⟨rfl,rfl,?_⟩,?_⟩
  ·dsimp only at hll hmm ⊢;refine ⟨by split <;> (try simp) <;> omega,λx=>?_⟩
   rw [Wp hmm,Qj hi,← hbe]
  ·rw [Hz];dsimp only at hll ⊢;have hr3:idx (List.range 3) c.Signals[i].Kind=some c.Signals[i].Kind.toNat:=by
    have hk:c.Signals[i].Kind=0\/c.Signals[i].Kind=1\/c.Signals[i].Kind=2:=by omega
    rcases hk with k | k | k <;> rw [k] <;> rfl
   have hoff:(bif (c.Signals[i].Kind == 1) then (JS FF (c.Signals[i].Off) (vals (As c s))).bind λx19=>some x19 else some false)=some (ofb (vals (As c s)) c.Signals[i]):=by
    unfold ofb;by_cases hk:c.Signals[i].Kind=1
    ·rw [show (c.Signals[i].Kind == 1)=true by simpa using hk,ct_,Ha 16 FF _ _ (by rw [hg.vl];exact hf hk) uF];rfl
    ·rw [show (c.Signals[i].Kind == 1)=false by simpa using hk];rfl
   rw [Ak,dt_ hi,ct_,Aj,hx,ob_,hr3,ob_,Aj,e4,ob_,Aj,e5,ob_,Ha 16 FF _ _ (by rw [hg.vl];exact ho) uF,ob_,hoff,ob_,hbody,ob_,ob_,ob_];dsimp only;rw [Ar om_ om_,show (cS c:Int) + (i:Int)=((cS c + i:Nat):Int) by omega,An om_,DQ,Cr om_ rfl,Cr om_ rfl];cases b with
   | true=>
    unfold app;rw [ct_,if_pos so_];rfl
   | false=>rfl) (λn v _=>by
  rw [Hz];dsimp only;rw [Ak,df_ om_,cf_]) FF 0 (Do c s c.Signals.length,s.Timers,[]) om_ uF ⟨Bp.symm,Bp.symm,by simp,λx=>by simp [Qi]⟩
 obtain ⟨V,T,l⟩:=v;obtain ⟨rfl,rfl,hll,hmm⟩:=he;try dsimp only at hl hll hmm
 rw [n0] at hl;rw [hl,ob_];dsimp only;have e1:upd (λi=>(Er c (As c s) i).1) (Do c s c.Signals.length) c.Signals.length=(Hu c s).Values:=by
  unfold Hu nxtS;dsimp only
  conv=>lhs;rw [show c.Signals.length=(Do c s c.Signals.length).length from hvl.symm]
  rw [show (As c s).Values=Do c s c.Signals.length from rfl,hvl];rw [← hvl,hvl];have:=Cu (f:=λi=>(Er c (As c s) i).1) (l:=Do c s c.Signals.length);rw [hvl] at this;exact this
 have e2:upd (λi=>(Er c (As c s) i).2) s.Timers c.Signals.length=(Hu c s).Timers:=by
  have:=Cu (f:=λi=>(Er c (As c s) i).2) (l:=s.Timers);rw [htl] at this;rw [this];unfold Hu nxtS;dsimp only;rw [show (As c s).Timers=s.Timers from rfl,htl]
 rw [e1,e2];refine ⟨l,?_,hll,hmm⟩;have e3:(⟨s.Ends,s.Valves,s.Inputs,(Hu c s).Values,(Hu c s).Timers⟩:Ac)=Hu c s:=rfl;unfold tup;dsimp only;rw [e3,Ep (n:=1000) (h.sm hb) uF om_];rfl
end Go.Pn
namespace Go.Pn
open Go
theorem Ho {α:Type} {xs ys:List α} (h:xs.length + ys.length<=1073741824):app xs ys=some (xs ++ ys):=if_pos h
def stl (c:Aa):Nat->Ac->Option Ac
 | 0,_=>none
 | k + 1,s=>if sst s (Hu c s)=true then some s else stl c k (Hu c s)
structure Kp (s t:Ac):Prop where
 e:t.Ends=s.Ends
 v:t.Valves=s.Valves
 i:t.Inputs=s.Inputs
theorem Gl {c:Aa}:∀ {k:Nat} {s t:Ac},Fit c s->stl c k s=some t->Fit c t/\Kp s t/\sst t (Hu c t)=true
 | 0,_,_,_,h=>by cases h
 | k + 1,s,t,hf,h=>by
  unfold stl at h;split at h
  ·rename_i h1;obtain rfl:=Option.some.inj h;exact ⟨hf,⟨rfl,rfl,rfl⟩,h1⟩
  ·obtain ⟨h1,⟨h2,h3,h4⟩,h5⟩:=Gl (Oa hf) h;exact ⟨h1,⟨h2,h3,h4⟩,h5⟩
def Cs (l:GW) (p:Int->Prop):Prop:=l.Pairwise (· < ·)/\∀ x,x∈l↔p x
theorem Cs.iff {l:GW} {p q:Int->Prop} (h:Cs l p) (e:∀ x,p x↔q x):Cs l q:=⟨h.1,λx=>(h.2 x).trans (e x)⟩
theorem Cs.nil {p:Int->Prop} (h:∀ x,¬ p x):Cs [] p:=⟨.nil,λx=>by simp [h x]⟩
theorem Cs.snoc {l:GW} {p:Int->Prop} {y:Int} (h:Cs l p) (hy:∀ x,p x->x < y):Cs (l ++ [y]) λx=>p x\/x=y:=
 ⟨List.pairwise_append.2 ⟨h.1,by simp,λa ha b hb=>by
  obtain rfl:b=y:=by simpa using hb
  exact hy a ((h.2 a).1 ha)⟩,λx=>by rw [CY,h.2];simp⟩
theorem Wa {zs:GW} (h:zs.Pairwise (·<=·)):Cs (Lib.compact zs) (·∈zs):=by
 have hle:∀ i j,(_:i<=j)->(hj:j < zs.length)->zs[i]'om_<=zs[j]:=λi j hij hj=>by
  by_cases e:i=j
  ·subst e;exact FX _
  ·exact F9.1 h i j om_ hj om_
 have hd:∀ i,(hi:i < zs.length)->zs.toArray[i]! = zs[i]:=λi hi=>by simp [hi]
 unfold Lib.compact Lib.compactUpTo;constructor
 ·rw [List.pairwise_map];refine (List.Pairwise.filter _ List.pairwise_lt_range).imp_of_mem λ{a b} ha hb hab=>?_;obtain ⟨ha1,_⟩:=FY.1 ha;obtain ⟨hb1,hb2⟩:=FY.1 hb;have ha1:=C3.1 ha1;have hb1:=C3.1 hb1;have hk:zs.toArray[b]! ≠ zs.toArray[b - 1]!:=(of_decide_eq_true hb2).resolve_left om_;rw [hd b hb1,hd (b - 1) om_] at hk;rw [hd a ha1,hd b hb1];have h1:=hle a (b - 1) om_ om_;have h2:=hle (b - 1) b om_ hb1;omega
 ·intro x;constructor
  ·intro hx;obtain ⟨i,hi,rfl⟩:=ET.1 hx;have hi:=C3.1 (FY.1 hi).1;rw [hd i hi];exact CS hi
  ·intro hx;cases hf:zs.findIdx? (· == x) with
   | none=>
    rw [DN] at hf;have:=hf x hx;simp at this
   | some i=>
    obtain ⟨hi,h1,h2⟩:=DC.1 hf;have h1:zs[i]=x:=by simpa using h1
    refine ET.2 ⟨i,FY.2 ⟨List.mem_range.2 hi,dt_ ?_⟩,by rw [hd i hi,h1]⟩;by_cases h0:i=0
    ·exact .inl h0
    ·right;rw [hd i hi,hd (i - 1) om_,h1];have:=h2 (i - 1) om_;exact λe=>this (by simp [← e])
theorem Ts {l:GW} (h:l.length<=900000000):∃ r1 r2,m172 FF l=some r1/\m173 FF r1=some r2/\r2.length<=l.length/\Cs r2 (·∈l):=by
 have hl:(isort l).length=l.length:=(isort_perm l).length_eq;refine ⟨isort l,Lib.compact (isort l),by unfold m172;rw [if_pos om_],by unfold m173;rw [if_pos om_],by rw [← hl];exact compact_le _,?_⟩;have hs:=isort_pw l;exact (Wa hs).iff λx=>(isort_perm l).mem_iff
def Vo (c:Aa):Nat->Ac->Int->Prop
 | 0,_,_=>False
 | k + 1,s,x=>onP c s x\/(sst s (Hu c s)=false/\Vo c k (Hu c s) x)
def mgP (m:List (Int×Bool)) (x:Int):Prop:=(mat Ka m x).getD false=true
theorem Re (x6:Ac×GW) (hl:x6.2.length<=1000) (m:List (Int×Bool)):∃ z m',Fv x6 FF ((0:Int),m)=some (z,m')/\∀ x,mgP m' x↔mgP m x\/x∈x6.2:=by
 obtain ⟨v,hv,h⟩:=Pc (L:=Fv x6) (mk:=λi (m:List (Int×Bool))=>((i:Int),m)) (N:=x6.2.length) (I:=λi v=>∀ x,mgP v x↔mgP m x\/x∈x6.2.take i) (λn i v hi hI=>by
  refine ⟨Jl Ka v x6.2[i] true,λx=>?_,?_⟩
  ·have h1:mgP (Jl Ka v x6.2[i] true) x↔x=x6.2[i]\/mgP v x:=by
    unfold mgP;rw [mat_put];split
    ·rename_i e;simp [e]
    ·rename_i e;simp [e]
   rw [h1,hI,EX,gE_ hi,CY];simp only [Option.toList_some,EV];constructor
   ·rintro (h | h | h)
    ·exact .inr (.inr h)
    ·exact .inl h
    ·exact .inr (.inl h)
   ·rintro (h | h | h)
    ·exact .inr (.inl h)
    ·exact .inr (.inr h)
    ·exact .inl h
  ·rw [Fv];dsimp only;rw [Ak,dt_ hi,ct_,Aj,gE_ hi,ob_,An om_]) (λn m _=>by
  rw [Fv];dsimp only;rw [Ak,df_ om_,cf_]) FF 0 m om_ uF (λx=>by simp)
 try dsimp only at h
 rw [n0] at h;rw [List.take_length] at hv;exact ⟨_,_,h,hv⟩
theorem Rb {c:Aa} (hb:Bd_ c) (o:Int×List (Int×Bool)):∃ z l,Fu FF c o FF ((0:Int),[])=some (z,l)/\l.length<=cL c/\Cs l λx=>∃ k:Nat,x=k/\k < cL c/\mgP o.2 x:=by
 have h1:=hb.a';have h2:=hb.i;have h3:=hb.s;have hS:cS c=2 * cA c + c.Inputs.length:=rfl;have hL:cL c=cS c + c.Signals.length:=rfl;obtain ⟨v,⟨hv,hw⟩,h⟩:=Pc (L:=Fu FF c o) (mk:=λi (m:GW)=>((i:Int),m)) (N:=cL c) (I:=λi l=>l.length<=i/\Cs l λx=>∃ k:Nat,x=k/\k < i/\mgP o.2 x) (λn i m hi hI=>by
  obtain ⟨hI,hC⟩:=hI;rw [Fu];dsimp only;rw [Gx hb,ob_,Ak,dt_ hi,ct_,An om_];cases hm:(mat Ka o.2 (i:Int)).getD false with
  | true=>
   unfold app;rw [ct_,if_pos so_];refine ⟨m ++ [(i:Int)],⟨by simp;omega,(hC.snoc (y:=(i:Int)) λx ⟨k,hk,hk2,_⟩=>by omega).iff λx=>?_⟩,rfl⟩;constructor
   ·rintro (⟨k,a1,a2,a3⟩ | rfl)
    ·exact ⟨k,a1,by omega,a3⟩
    ·exact ⟨i,rfl,by omega,hm⟩
   ·rintro ⟨k,rfl,a2,a3⟩;by_cases e:k=i
    ·subst e;exact .inr rfl
    ·exact .inl ⟨k,rfl,by omega,a3⟩
  | false=>
   refine ⟨m,⟨by omega,hC.iff λx=>?_⟩,rfl⟩;constructor
   ·rintro ⟨k,a1,a2,a3⟩;exact ⟨k,a1,by omega,a3⟩
   ·rintro ⟨k,rfl,a2,a3⟩;by_cases e:k=i
    ·subst e;unfold mgP at a3;rw [hm] at a3;cases a3
    ·exact ⟨k,rfl,by omega,a3⟩) (λn m _=>by
  rw [Fu];dsimp only;rw [Gx hb,ob_,Ak,df_ om_,cf_]) FF 0 [] om_ uF ⟨by simp,Cs.nil λx ⟨k,_,h,_⟩=>by omega⟩
 try dsimp only at h
 rw [n0] at h;exact ⟨_,_,h,hv,hw⟩
theorem Jn {c:Aa} (hc:Rt c):∀ (k n j:Nat) (s:Ac) (m:List (Int×Bool)),j + k=65->k < n->Fit c s ->
  match stl c k s with
  | some t=>∃ l z,Fx FF c n ((j:Int),s,m)=some (.ret (t,l,z,true))/\l.length<=100/\Cs l λx=>(∃ k:Nat,x=k/\k < cL c/\mgP m x)\/Vo c k s x
  | none=>∃ q,Fx FF c n ((j:Int),s,m)=some (.brk q)
 | _,0,_,_,_,_,h,_=>by omega
 | 0,n + 1,j,s,m,h1,h2,hf=>by
  unfold stl Fx;dsimp only;rw [show decide ((j:Int)<=64)=false by simp;omega,cf_];exact ⟨_,rfl⟩
 | k + 1,n + 1,j,s,m,h1,h2,hf=>by
  have hb:=hc.bd;have h3:=hb.s;have hS:cS c=2 * cA c + c.Inputs.length:=rfl;have hL:cL c=cS c + c.Signals.length:=rfl;obtain ⟨l,e1,hl,hmm⟩:=Xy hc hf;obtain ⟨z,m',e2,hm'⟩:=Re (Hu c s,l) (by dsimp only;omega) m;dsimp only at hm';have hin:∀ x:Int,(∃ k:Nat,x=k/\k < cL c/\mgP m' x)↔(∃ k:Nat,x=k/\k < cL c/\mgP m x)\/onP c s x:=λx=>by
   constructor
   ·rintro ⟨k,a1,a2,a3⟩;rcases (hm' x).1 a3 with h | h
    ·exact .inl ⟨k,a1,a2,h⟩
    ·exact .inr ((hmm x).1 h)
   ·rintro (⟨k,a1,a2,a3⟩ | h)
    ·exact ⟨k,a1,a2,(hm' x).2 (.inl a3)⟩
    ·obtain ⟨k,a1,a2⟩:=onP_lt h;exact ⟨k,a1,a2,(hm' x).2 (.inr ((hmm x).2 h))⟩
  have ho:=Oa hf;unfold stl Fx;dsimp only;rw [show decide ((j:Int)<=64)=true by simp;omega,ct_,e1,ob_,e2,ob_,El (n:=1000) (ho.sm hb) uF om_,ob_,show sst (Hu c s) s=sst s (Hu c s) from Jv];cases hs:sst s (Hu c s) with
  | true=>
   obtain ⟨z2,l2,e3,hl2,hC⟩:=Rb hb (z,m');rw [if_pos rfl,ct_,e3,ob_];have:=hb.a';have:=hb.i;refine ⟨l2,(j:Int),rfl,by omega,hC.iff λx=>?_⟩;rw [hin,Vo,hs];simp
  | false=>
   rw [if_neg smp_,cf_,An om_];have ih:=Jn hc k n (j + 1) (Hu c s) m' om_ om_ ho;cases hst:stl c k (Hu c s) with
   | none=>rw [hst] at ih;exact ih
   | some t=>
    rw [hst] at ih;obtain ⟨l',z',e4,hl',hC⟩:=ih;refine ⟨l',z',e4,hl',hC.iff λx=>?_⟩;rw [hin,Vo,hs];simp [or_assoc]
theorem Yt {c:Aa} {s:Ac} (hc:Rt c) (hf:Fit c s):match stl c 65 s with
  | some t=>∃ l,L9 FF c s=some (t,l,true)/\l.length<=100/\Cs l (Vo c 65 s)
  | none=>∃ a l,L9 FF c s=some (a,l,false):=by
 have h:=Jn hc 65 FF 0 s [] om_ uF hf;rw [n0] at h;unfold L9 L8;cases hs:stl c 65 s with
 | none=>rw [hs] at h;obtain ⟨q,h⟩:=h;rw [h];exact ⟨_,_,rfl⟩
 | some t=>
  rw [hs] at h;obtain ⟨l,z,h,hl,hC⟩:=h;rw [h];refine ⟨l,rfl,hl,hC.iff λx=>?_⟩;constructor
  ·rintro (⟨_,_,_,h⟩ | h)
   ·cases h
   ·exact h
  ·exact .inr
theorem Jo {c:Aa} (hc:Rt c):∀ (k n j:Nat) (s:Ac) (q:GW),j + k=65->k < n->Fit c s->q.length<=16 * j ->
  match stl c k s with
  | some t=>∃ l z,Fy FF c.Actuators (cS c:Int) c.Inputs c.Signals c.Plus c.Minus s.Ends s.Valves s.Inputs n ((j:Int),s.Values,s.Timers,q)=some (.ret (z,0,t.Values,t.Timers,l))/\l.length<=2000/\Cs l λx=>x∈q\/Vo c k s x
  | none=>∃ q',Fy FF c.Actuators (cS c:Int) c.Inputs c.Signals c.Plus c.Minus s.Ends s.Valves s.Inputs n ((j:Int),s.Values,s.Timers,q)=some (.brk q')
 | _,0,_,_,_,_,h,_,_=>by omega
 | 0,n + 1,j,s,q,h1,h2,hf,hq=>by
  unfold stl Fy;dsimp only;rw [show decide ((j:Int)<=64)=false by simp;omega,cf_];exact ⟨_,rfl⟩
 | k + 1,n + 1,j,s,q,h1,h2,hf,hq=>by
  have hb:=hc.bd;have h3:=hb.s;obtain ⟨l,e1,hl,hmm⟩:=Xz hc hf;have ho:=Oa hf;unfold stl Fy;dsimp only;rw [show decide ((j:Int)<=64)=true by simp;omega,ct_,e1,ob_];dsimp only;rw [Ho om_,ob_];cases hs:sst s (Hu c s) with
  | true=>
   obtain ⟨r1,r2,e2,e3,l3,hC⟩:=Ts (l:=q ++ l) so_;rw [if_pos rfl,show (!(!true))=true by rfl,ct_,e2,ob_,e3,ob_];have hse:=Dr.1 hs;rw [← hse];refine ⟨r2,(j:Int),rfl,by rw [CO] at l3;omega,hC.iff λx=>?_⟩;rw [CY,hmm,Vo,hs];simp
  | false=>
   rw [if_neg smp_,show (!(!false))=false by rfl,cf_,An om_];have ih:=Jo hc k n (j + 1) (Hu c s) (q ++ l) om_ om_ ho (by rw [CO];omega);cases hst:stl c k (Hu c s) with
   | none=>rw [hst] at ih;exact ih
   | some t=>
    rw [hst] at ih;obtain ⟨l',z',e4,hl',hC⟩:=ih;refine ⟨l',z',e4,hl',hC.iff λx=>?_⟩;rw [CY,hmm,Vo,hs];simp [or_assoc]
theorem Mw {xs:GW} {k:Int} (hl:xs.length<=1000):Vv FF xs k=some (xs.any λx=>decide (x < 0) || decide (x>=k)):=by
 unfold Vv BF;have h5:=Tt (L:=Jx FF xs k) (xs:=xs) (p:=λ_ y=>H7 FF y k) (q:=λx=>decide (x < 0) || decide (x>=k)) (r:=λz=>z) (λ_ _=>rfl) om_ (λi y hy=>rfl) FF 0 om_ uF;rw [n0,C6] at h5;rw [h5];cases h6:xs.findIdx? (λx=>decide (x < 0) || decide (x>=k)) with
 | none=>
  rw [DN] at h6;have:(xs.any λx=>decide (x < 0) || decide (x>=k))=false:=D1.2 λy hy=>by simpa using h6 y hy
  rw [this];rfl
 | some j=>
  obtain ⟨hj,hj2,_⟩:=DC.1 h6;have:(xs.any λx=>decide (x < 0) || decide (x>=k))=true:=DA.2 ⟨_,CS hj,by simpa using hj2⟩;rw [this];simp
def AP (c:Aa) (s:Ac) (i:Nat):Bool:=match c.Signals[i]?,s.Timers[i]?,s.Values[i]? with
 | some x,some t,some v=>(x.Kind != 2 && t != 0) || (x.Kind == 2 && v != (t == 2))
 | _,_,_=>false
def Pw (c:Aa) (s:Ac):Int:=
 if (s.Ends.length:Int)≠c.Actuators\/(s.Valves.length:Int)≠c.Actuators\/s.Inputs.length≠c.Inputs.length\/s.Values.length≠c.Signals.length\/s.Timers.length≠c.Signals.length then 8
 else if (s.Ends.any λx=>decide (x < 0) || decide (x>=4))=true then 1
 else if (s.Timers.any λx=>decide (x < 0) || decide (x>=3))=true then 1
 else if (List.range c.Signals.length).any (AP c s)=true then 14 else 0
theorem Ux {c:Aa} {s:Ac}:(((((((s.Ends.length:Int) != c.Actuators) || ((s.Valves.length:Int) != c.Actuators)) || ((s.Inputs.length:Int) != (c.Inputs.length:Int))) || ((s.Values.length:Int) != (c.Signals.length:Int))) || ((s.Timers.length:Int) != (c.Signals.length:Int))))=decide ((s.Ends.length:Int)≠c.Actuators\/(s.Valves.length:Int)≠c.Actuators\/s.Inputs.length≠c.Inputs.length\/s.Values.length≠c.Signals.length\/s.Timers.length≠c.Signals.length):=by
 rw [EF];simp only [E8,bne_iff_ne,ne_eq,decide_eq_true_eq,Int.natCast_inj,or_assoc]
theorem Yx {c:Aa} {s:Ac} (hb:Bd_ c):H8 FF c s=some (Pw c s):=by
 have h1:=hb.a6;have h2:=hb.i;have h3:=hb.s;unfold H8 Pw;rw [Ux];by_cases hl:(s.Ends.length:Int)≠c.Actuators\/(s.Valves.length:Int)≠c.Actuators\/s.Inputs.length≠c.Inputs.length\/s.Values.length≠c.Signals.length\/s.Timers.length≠c.Signals.length
 ·rw [if_pos hl,dt_ hl];rfl
 ·rw [if_neg hl,df_ hl,cf_];have hl:(s.Ends.length:Int)=c.Actuators/\(s.Valves.length:Int)=c.Actuators/\s.Inputs.length=c.Inputs.length/\s.Values.length=c.Signals.length/\s.Timers.length=c.Signals.length:=by omega
  rw [show G3 FF (4:Int)=some 4 from rfl,show G3 FF (3:Int)=some 3 from rfl,ob_,Mw om_,ob_,ob_,Mw om_];cases (s.Ends.any λx=>decide (x < 0) || decide (x>=4)) with
  | true=>rfl
  | false=>
   rw [cf_,ob_,ob_,if_neg smp_];cases (s.Timers.any λx=>decide (x < 0) || decide (x>=3)) with
   | true=>rfl
   | false=>
    rw [cf_,if_neg smp_];have hs:=Sr (L:=Je c s) (N:=c.Signals.length) (Q:=AP c s) (r:=λ_=>14) (λn i hi=>by
     have e1:c.Signals[i]?=some c.Signals[i]:=gE_ hi;have e2:s.Timers[i]?=some s.Timers[i]:=gE_ om_;have e3:s.Values[i]?=some s.Values[i]:=gE_ om_;rw [Je];unfold AP;rw [hl.2.2.2.2,Ak,dt_ hi,ct_,Aj,Aj,Aj,e1,e2,e3,ob_,ob_,ob_,An om_];dsimp only;cases hk:(c.Signals[i].Kind == 2) with
     | true=>
      have hk':(c.Signals[i].Kind != 2)=false:=by show (!(c.Signals[i].Kind == 2))=false;rw [hk];rfl
      rw [hk'];cases (s.Values[i] != (s.Timers[i] == 2)) <;> rfl
     | false=>
      have hk':(c.Signals[i].Kind != 2)=true:=by show (!(c.Signals[i].Kind == 2))=true;rw [hk];rfl
      rw [hk'];cases (s.Timers[i] != 0) <;> rfl) (λn=>by
     rw [Je,hl.2.2.2.2,Ak,df_ om_,cf_]) FF 0 om_ uF
    rw [n0] at hs;rcases hs with ⟨k,_,hk,hq,h⟩ | ⟨h,hn⟩
    ·rw [h,if_pos (DA.2 ⟨k,C3.2 hk,hq⟩)];rfl
    ·rw [h,if_neg ?_]
     ·rfl
     ·intro ha;obtain ⟨k,hk,h4⟩:=DA.1 ha;have:=hn k om_ (C3.1 hk);rw [this] at h4;cases h4
theorem Bi {c:Aa} {s:Ac} (hb:Bd_ c):Pw c s=0↔Fit c s:=by
 have ha:=hb.a;unfold Pw;constructor
 ·intro h;split at h
  ·contradiction
  ·rename_i h1;split at h
   ·contradiction
   ·rename_i h2;split at h
    ·contradiction
    ·rename_i h3;split at h
     ·contradiction
     ·rename_i h4;refine ⟨by omega,by omega,by omega,by omega,by omega,λa ha=>?_,λa ha=>?_,λi x t v hx ht hv=>?_⟩
      ·have:=D1.1 (by simpa using h2:(s.Ends.any λx=>decide (x < 0) || decide (x>=4))=false) a ha;simp at this;omega
      ·have:=D1.1 (by simpa using h3:(s.Timers.any λx=>decide (x < 0) || decide (x>=3))=false) a ha;simp at this;omega
      ·have hb:AP c s i=false:=by
        cases hq:AP c s i with
        | false=>rfl
        | true=>exact absurd (DA.2 ⟨i,C3.2 (CT.1 hx).1,hq⟩) h4
       unfold AP at hb;rw [hx,ht,hv] at hb;dsimp only at hb;rw [EZ,FB,FB] at hb;obtain ⟨h5,h6⟩:=hb;refine ⟨λhk=>?_,λhk=>?_⟩
       ·rcases h5 with h5 | h5
        ·exact absurd (by simpa using h5) hk
        ·simpa using h5
       ·rcases h6 with h6 | h6
        ·simp [hk] at h6
        ·simpa using h6
 ·intro h;obtain ⟨a1,a2,a3,a4,a5,a6,a7,a8⟩:=h;rw [if_neg om_,if_neg,if_neg,if_neg]
  ·intro hx;obtain ⟨i,hi,hq⟩:=DA.1 hx;have hi:=C3.1 hi;have e1:c.Signals[i]?=some c.Signals[i]:=gE_ hi;have e2:s.Timers[i]?=some s.Timers[i]:=gE_ om_;have e3:s.Values[i]?=some s.Values[i]:=gE_ om_;unfold AP at hq;rw [e1,e2,e3] at hq;dsimp only at hq;obtain ⟨k1,k2⟩:=a8 i _ _ _ e1 e2 e3;by_cases hk:c.Signals[i].Kind=2
   ·rw [k2 hk] at hq;simp [hk] at hq
   ·rw [k1 hk] at hq;simp [hk] at hq
  ·intro hx;obtain ⟨a,ha,hq⟩:=DA.1 hx;have:=a7 a ha;simp at hq;omega
  ·intro hx;obtain ⟨a,ha,hq⟩:=DA.1 hx;have:=a6 a ha;simp at hq;omega
theorem Ef {c:Aa} {s:Ac} (hc:Rc c):H9 FF c s=some (Pw c s):=by
 unfold H9;rw [hc.ck,ob_,zf_,cf_,Yx hc.rt.bd];rfl
abbrev z0:Ac:=⟨[],[],[],[],[]⟩
theorem Yw {c:Aa} {s:Ac} (hc:Rc c) (hf:Fit c s):match stl c 65 s with
  | some t=>∃ l,J3 FF c s=some (t,0,l)/\l.length<=2000/\Cs l (Vo c 65 s)
  | none=>J3 FF c s=some (z0,21,[]):=by
 have hb:=hc.rt.bd;have h1:=hb.a';have h2:=hb.i;have h3:=hb.s;have hS:cS c=2 * cA c + c.Inputs.length:=rfl;have h:=Jo hc.rt 65 FF 0 s [] om_ uF hf smp_;rw [n0] at h;unfold J3 JL;rw [Ef hc,(Bi hb).2 hf,ob_,zf_,cf_,Ld (hf.sm hb),ob_,ob_];dsimp only;rw [zf_,cf_,hb.wa,Ar om_ om_,show ((2 * cA c:Nat):Int) + (c.Inputs.length:Int)=(cS c:Int) by omega];unfold J2 tup;dsimp only;cases hs:stl c 65 s with
 | none=>rw [hs] at h;obtain ⟨q,h⟩:=h;rw [h];rfl
 | some t=>
  rw [hs] at h;obtain ⟨l,z,h,hl,hC⟩:=h;obtain ⟨_,⟨k1,k2,k3⟩,_⟩:=Gl hf hs;rw [h];refine ⟨l,?_,hl,hC.iff λx=>by simp⟩;rw [ob_,ob_];dsimp only;rw [zf_,cf_,← k1,← k2,← k3]
def lin (s:Ac) (k:Int):Bool:=(vals s).getD k.toNat false
def vlv (c:Aa) (s:Ac) (i:Nat):Bool:=if lin s (c.Plus.getD i 0)=lin s (c.Minus.getD i 0) then s.Valves.getD i false else lin s (c.Plus.getD i 0)
def Ex (v:Bool) (e:Int):Int:=if v=true then (if e=2\/e=1 then e else 1) else (if e=0\/e=3 then e else 3)
def rnd (c:Aa) (s:Ac):Ac:=⟨(List.range s.Ends.length).map λi=>Ex (vlv c s i) (s.Ends.getD i 0),(List.range s.Valves.length).map (vlv c s),s.Inputs,s.Values,s.Timers⟩
theorem Kj {c:Aa} {s:Ac} (h:Fit c s):Fit c (rnd c s):=by
 refine ⟨by simp [rnd,h.e],by simp [rnd,h.v],h.i,h.x,h.t,?_,h.tt,h.k⟩;intro a ha;obtain ⟨i,hi,rfl⟩:=ET.1 ha;have hi:=C3.1 hi;have:=h.ee s.Ends[i] (CS hi);rw [C4,gE_ hi,FD];generalize s.Ends[i]=e at this;unfold Ex;split <;> split <;> omega
theorem AM {c:Aa} {s:Ac} (h:Fit c s) (k:Nat) (hk:k < cL c):∃ b,(vals s)[k]?=some b/\lin s (k:Int)=b:=by
 have:k < (vals s).length:=by rw [h.vl];exact hk
 exact ⟨(vals s)[k],gE_ this,by unfold lin;simp [gE_ this]⟩
theorem Rr {c:Aa} {s:Ac} (hb:Bd_ c) (h:Fit c s) {k:Nat} (hk:k < cL c):JB FF c s (k:Int)=some (lin s (k:Int)):=by
 have h1:=hb.a';have h2:=hb.i;have h3:=hb.s;have hS:cS c=2 * cA c + c.Inputs.length:=rfl;have hL:cL c=cS c + c.Signals.length:=rfl;have hel:(Zv s).length=2 * cA c:=by unfold Zv;rw [Ma,h.e]
 unfold JB lin;rw [hb.wa,Ak,DQ,C4];by_cases h4:k < 2 * cA c
 ·rw [dt_ h4,ct_];have hdiv:(k:Int).tdiv 2=((k / 2:Nat):Int):=by
   rw [Int.tdiv_eq_ediv_of_nonneg om_];omega
  have hmod:(k:Int).tmod 2=((k % 2:Nat):Int):=by
   rw [Int.tmod_eq_emod_of_nonneg om_];omega
  have hv:(vals s)[k]?=(Zv s)[k]?:=by
   unfold vals pre;rw [DJ,DB om_]
  have hk2:k / 2 < s.Ends.length:=by rw [h.e];omega
  have he:s.Ends[k / 2]?=some s.Ends[k / 2]:=gE_ hk2;rw [hdiv,hmod,Ar om_ om_,Aj,he,ob_,hv];unfold Zv;rw [B6,he];have hm2:k % 2=0\/k % 2=1:=by omega
  rcases hm2 with e | e <;> rw [e] <;> rfl
 ·rw [df_ h4,cf_,Ar om_ om_,show (k:Int) - ((2 * cA c:Nat):Int)=((k - 2 * cA c:Nat):Int) by omega,Ak];by_cases h5:k - 2 * cA c < s.Inputs.length
  ·rw [dt_ h5,ct_,Aj,gE_ h5,ob_];unfold vals pre;rw [DJ,DM om_,hel,DB h5,gE_ h5];rfl
  ·rw [df_ h5,cf_,Ar (by have:=h.i;omega) om_,show ((k - 2 * cA c:Nat):Int) - (s.Inputs.length:Int)=((k - 2 * cA c - s.Inputs.length:Nat):Int) by omega,Aj];have h6:k - 2 * cA c - s.Inputs.length < s.Values.length:=by have:=h.i;have:=h.x;omega
   rw [gE_ h6,ob_];unfold vals pre;rw [DJ,DM om_,hel,DM om_,gE_ h6];rfl
end Go.Pn
namespace Go.Pn
open Go
theorem Wk {c:Aa} (hc:Rt c) {i:Nat} (hi:i < cA c):∃ p m:Nat,c.Plus[i]?=some (p:Int)/\c.Minus[i]?=some (m:Int)/\p < cL c/\m < cL c/\c.Plus.getD i 0=(p:Int)/\c.Minus.getD i 0=(m:Int):=by
 have h1:i < c.Plus.length:=by rw [hc.plus];exact hi
 have h2:i < c.Minus.length:=by rw [hc.minus];exact hi
 have h3:=hc.lines c.Plus[i] (C0 _ (CS h1));have h4:=hc.lines c.Minus[i] (CX _ (CS h2));have e1:((c.Plus[i].toNat:Nat):Int)=c.Plus[i]:=by omega
 have e2:((c.Minus[i].toNat:Nat):Int)=c.Minus[i]:=by omega
 refine ⟨c.Plus[i].toNat,c.Minus[i].toNat,?_,?_,by omega,by omega,?_,?_⟩
 ·rw [gE_ h1,e1]
 ·rw [gE_ h2,e2]
 ·rw [C4,gE_ h1,e1];rfl
 ·rw [C4,gE_ h2,e2];rfl
theorem endn_eq (v:Bool) (e:Int):(bif (e != (bif v then ((2:Int),(1:Int)) else ((0:Int),(3:Int))).1) && (e != (bif v then ((2:Int),(1:Int)) else ((0:Int),(3:Int))).2) then (bif v then ((2:Int),(1:Int)) else ((0:Int),(3:Int))).2 else e)=Ex v e:=by
 unfold Ex;cases v with
 | true=>
  simp only [ct_,if_true];by_cases h:e=2
  ·simp [h]
  ·by_cases h1:e=1
   ·simp [h1]
   ·rw [show (e != 2)=true by simpa using h,show (e != 1)=true by simpa using h1,if_neg om_];rfl
 | false=>
  simp only [cf_];by_cases h:e=0
  ·simp [h]
  ·by_cases h1:e=3
   ·simp [h1]
   ·rw [show (e != 0)=true by simpa using h,show (e != 3)=true by simpa using h1];simp [h,h1]
def rnPi (c:Aa) (t:Ac) (i:Nat) (x:Int):Prop:=∃ j:Nat,j < i/\x=((cL c + j:Nat):Int)/\(lin t (c.Plus.getD j 0) && lin t (c.Minus.getD j 0))=true
def rnP (c:Aa) (t:Ac) (x:Int):Prop:=rnPi c t (cA c) x
theorem Kk {c:Aa} {t:Ac} {i:Nat} {x:Int}:rnPi c t (i + 1) x↔rnPi c t i x\/(x=((cL c + i:Nat):Int)/\(lin t (c.Plus.getD i 0) && lin t (c.Minus.getD i 0))=true):=by
 constructor
 ·rintro ⟨j,h1,h2,h3⟩;by_cases h:j=i
  ·subst h;exact .inr ⟨h2,h3⟩
  ·exact .inl ⟨j,by omega,h2,h3⟩
 ·rintro (⟨j,h1,h2,h3⟩ | ⟨h2,h3⟩)
  ·exact ⟨j,by omega,h2,h3⟩
  ·exact ⟨i,by omega,h2,h3⟩
theorem Qe {c:Aa} {t:Ac} {x:Int}:¬ rnPi c t 0 x:=λ⟨_,h,_⟩=>by omega
theorem Lq {c:Aa} {s:Ac} (hc:Rc c) (hf:Fit c s):match stl c 65 s with
  | some t=>∃ l,J4 FF c s=some (rnd c t,0,l)/\l.length<=3000/\∀ x,x∈l↔Vo c 65 s x\/rnP c t x
  | none=>J4 FF c s=some (z0,21,[]):=by
 have hb:=hc.rt.bd;have h1:=hb.a';have h2:=hb.i;have h3:=hb.s;have hS:cS c=2 * cA c + c.Inputs.length:=rfl;have hL:cL c=cS c + c.Signals.length:=rfl;have h:=Yw hc hf;unfold J4;cases hs:stl c 65 s with
 | none=>rw [hs] at h;rw [h];rfl
 | some t=>
  rw [hs] at h;obtain ⟨l0,h,hl0,hC0⟩:=h;obtain ⟨ht,_,_⟩:=Gl hf hs;rw [h,ob_];dsimp only;rw [zf_,cf_,Rs (ht.sm hb),ob_];have hel:=ht.e;have hvl:=ht.v;obtain ⟨v,hI,hl⟩:=Pc (L:=Gg FF c (t,0,l0)) (mk:=λi (v:GW×GW×GX)=>((i:Int),v.1,v.2.1,v.2.2)) (N:=cA c) (I:=λi v=>(v.1.length<=2000 + i/\∀ x,x∈v.1↔Vo c 65 s x\/rnPi c t i x)/\v.2.1=upd (λi=>Ex (vlv c t i) (t.Ends.getD i 0)) t.Ends i/\v.2.2=upd (vlv c t) t.Valves i) (λn i v hi hI=>by
   obtain ⟨l,E,V⟩:=v;obtain ⟨⟨hll,hmm⟩,rfl,rfl⟩:=hI;obtain ⟨p,m,e1,e2,hp,hm,g1,g2⟩:=Wk hc.rt hi;have e4:(upd (λi=>Ex (vlv c t i) (t.Ends.getD i 0)) t.Ends i)[i]?=some t.Ends[i]:=by rw [Bs (C5 i)];exact gE_ om_
   have e5:(upd (vlv c t) t.Valves i)[i]?=some t.Valves[i]:=by rw [Bs (C5 i)];exact gE_ om_
   have e6:t.Ends.getD i 0=t.Ends[i]:=by rw [C4,gE_ om_];rfl
   have e7:t.Valves.getD i false=t.Valves[i]:=by rw [C4,gE_ om_];rfl
   have hsetE:∀ y,y=Ex (vlv c t i) (t.Ends.getD i 0)->(upd (λi=>Ex (vlv c t i) (t.Ends.getD i 0)) t.Ends i).set i y=upd (λi=>Ex (vlv c t i) (t.Ends.getD i 0)) t.Ends (i + 1):=λy hy=>Cr om_ hy;have hsetV:∀ y,y=vlv c t i->(upd (vlv c t) t.Valves i).set i y=upd (vlv c t) t.Valves (i + 1):=λy hy=>Cr om_ hy;have hkeep:vlv c t i=t.Valves[i]->upd (vlv c t) t.Valves i=upd (vlv c t) t.Valves (i + 1):=λhy=>by
    rw [← hsetV t.Valves[i] hy.symm];refine EG λj=>?_;by_cases hj:j=i
    ·subst hj;rw [DK (by rw [Hs om_];omega),e5]
    ·rw [D9 om_]
   have hkeepE:Ex (vlv c t i) (t.Ends.getD i 0)=t.Ends[i]->upd (λi=>Ex (vlv c t i) (t.Ends.getD i 0)) t.Ends i=upd (λi=>Ex (vlv c t i) (t.Ends.getD i 0)) t.Ends (i + 1):=λhy=>by
    rw [← hsetE t.Ends[i] hy.symm];refine EG λj=>?_;by_cases hj:j=i
    ·subst hj;rw [DK (by rw [Hs om_];omega),e4]
    ·rw [D9 om_]
   have hvi:vlv c t i=if lin t (p:Int)=lin t (m:Int) then t.Valves[i] else lin t (p:Int):=by
    unfold vlv;rw [g1,g2,e7]
   -- the valve
   have hV:∀ (k:(GW×GX)->Option (Int×GW×GW×GX)),((bif (lin t (p:Int) && lin t (m:Int)) then (app l ([(wr ((wr ((wr ((wr ((2:Int) * (c).Actuators)) + (((c).Inputs).length:Int))) + (((c).Signals).length:Int))) + (i:Int)))]:GW)).bind λx16=>some (x16,(upd (vlv c t) t.Valves i)) else (bif (lin t (p:Int) || lin t (m:Int)) then (idx (upd (vlv c t) t.Valves i) (i:Int)).bind λx19=>some ((upd (vlv c t) t.Valves i).set ((i:Int)).toNat (lin t (p:Int))) else some (upd (vlv c t) t.Valves i)).bind λz18=>some (l,z18)).bind k)=k ((if (lin t (p:Int) && lin t (m:Int))=true then l ++ [((cL c + i:Nat):Int)] else l),upd (vlv c t) t.Valves (i + 1)):=by
    intro k;have w1:wr (((2 * cA c:Nat):Int) + (c.Inputs.length:Int))=((cS c:Nat):Int):=by rw [Ar om_ om_];omega
    have w2:wr (((cS c:Nat):Int) + (c.Signals.length:Int))=((cL c:Nat):Int):=by rw [Ar om_ om_];omega
    have w3:wr (((cL c:Nat):Int) + (i:Int))=((cL c + i:Nat):Int):=by rw [Ar om_ om_];omega
    rw [hb.wa,w1,w2,w3,Aj,e5,DQ];dsimp only at hll;cases hP:lin t (p:Int) with
    | true=>
     cases hM:lin t (m:Int) with
     | true=>
      unfold app;rw [Bool.and_self,ct_,if_pos so_,hkeep (by rw [hvi,hP,hM];simp)];rfl
     | false=>
      rw [hsetV true (by rw [hvi,hP,hM];simp)];rfl
    | false=>
     cases hM:lin t (m:Int) with
     | true=>
      rw [hsetV false (by rw [hvi,hP,hM];simp)];rfl
     | false=>
      rw [hkeep (by rw [hvi,hP,hM];simp)];rfl
   refine ⟨((if (lin t (p:Int) && lin t (m:Int))=true then l ++ [((cL c + i:Nat):Int)] else l),upd (λi=>Ex (vlv c t i) (t.Ends.getD i 0)) t.Ends (i + 1),upd (vlv c t) t.Valves (i + 1)),⟨?_,rfl,rfl⟩,?_⟩
   ·dsimp only at hll hmm ⊢;refine ⟨by split <;> (try simp) <;> omega,λx=>?_⟩
    rw [Wp hmm,Kk,g1,g2,or_assoc]
   ·rw [Gg];dsimp only;rw [hb.a,Ak,dt_ hi,ct_,Aj,e1,ob_,Rr hb ht hp,ob_,Aj,e2,ob_,Rr hb ht hm,ob_,← hb.a,hV];dsimp only;have e8:(upd (vlv c t) t.Valves (i + 1))[i]?=some (vlv c t i):=by
     rw [← hsetV _ rfl,DK (by rw [Hs om_];omega)]
    rw [Aj,e4,ob_,Aj,e8,ob_,cs_,ob_,ob_,An om_];have hE:((bif (t.Ends[i] != (bif vlv c t i then ((2:Int),(1:Int)) else ((0:Int),(3:Int))).1) && (t.Ends[i] != (bif vlv c t i then ((2:Int),(1:Int)) else ((0:Int),(3:Int))).2) then some ((upd (λi=>Ex (vlv c t i) (t.Ends.getD i 0)) t.Ends i).set ((i:Int)).toNat (bif vlv c t i then ((2:Int),(1:Int)) else ((0:Int),(3:Int))).2) else some (upd (λi=>Ex (vlv c t i) (t.Ends.getD i 0)) t.Ends i)))=some (upd (λi=>Ex (vlv c t i) (t.Ends.getD i 0)) t.Ends (i + 1)):=by
     have hq:=endn_eq (vlv c t i) t.Ends[i];rw [DQ];cases hcnd:(t.Ends[i] != (bif vlv c t i then ((2:Int),(1:Int)) else ((0:Int),(3:Int))).1) && (t.Ends[i] != (bif vlv c t i then ((2:Int),(1:Int)) else ((0:Int),(3:Int))).2) with
     | true=>
      rw [hcnd,ct_] at hq;rw [ct_,hsetE _ (by rw [e6,← hq])]
     | false=>
      rw [hcnd,cf_] at hq;rw [cf_,hkeepE (by rw [e6,← hq])]
    rw [hE,ob_]) (λn v _=>by
   rw [Gg];dsimp only;rw [hb.a,Ak,df_ om_,cf_]) FF 0 (l0,t.Ends,t.Valves) om_ uF ⟨⟨by dsimp only;omega,λx=>by simp [hC0.2 x,Qe]⟩,Bp.symm,Bp.symm⟩
  obtain ⟨l,E,V⟩:=v;obtain ⟨⟨hll,hmm⟩,rfl,rfl⟩:=hI;try dsimp only at hl hll hmm
  rw [n0] at hl;refine ⟨l,?_,by omega,hmm⟩;show ((Gg FF c (t,0,l0) FF ((0:Int),l0,t.Ends,t.Valves)).bind _)=_;rw [hl,ob_];unfold rnd tup;dsimp only;have e1:=Cu (f:=λi=>Ex (vlv c t i) (t.Ends.getD i 0)) (l:=t.Ends);have e2:=Cu (f:=vlv c t) (l:=t.Valves);rw [hel] at e1;rw [hvl] at e2;rw [e1,e2,hel,hvl]
theorem Ro {a b:GW} (h:a.length + b.length < 50000) {p q:Int->Prop} (ha:Cs a p) (hb:Cs b q):∃ l,LQ FF a b=some l/\l.length<=a.length + b.length/\Cs l λx=>p x\/q x:=by
 have sa:∀ i j,(_:i < j)->(hj:j < a.length)->a[i]'om_ < a[j]:=λi j hij hj=>F9.1 ha.1 i j om_ hj hij;have sb:∀ i j,(_:i < j)->(hj:j < b.length)->b[i]'om_ < b[j]:=λi j hij hj=>F9.1 hb.1 i j om_ hj hij;have key:∀ (n i j:Nat) (l:GW),i<=a.length->j<=b.length->(a.length - i) + (b.length - j) < n->l.length<=i + j->l.Pairwise (· < ·)->(∀ x,x∈l↔x∈a.take i\/x∈b.take j)->(∀ x∈l,(∀ h:i < a.length,x < a[i])/\∀ h:j < b.length,x < b[j]) ->
   ∃ z1 z2 l',Dz a b n ((i:Int),(j:Int),l)=some (z1,z2,l')/\l'.length<=a.length + b.length/\l'.Pairwise (· < ·)/\∀ x,x∈l'↔x∈a\/x∈b:=by
  intro n
  induction n with
  | zero=>intro i j l _ _ h;omega
  | succ n ih=>
   intro i j l hi hj hn hl hp hm hlt;have snoc:∀ y,(∀ x∈l,x < y)->(l ++ [y]).Pairwise (· < ·):=λy hy=>GH.2 ⟨hp,by simp,λu hu v hv=>by
    obtain rfl:v=y:=by simpa using hv
    exact hy u hu⟩
   have ta:(h:i < a.length)->∀ x,x∈a.take (i + 1)↔x∈a.take i\/x=a[i]:=λh x=>by rw [EX,gE_ h,CY];simp
   have tb:(h:j < b.length)->∀ x,x∈b.take (j + 1)↔x∈b.take j\/x=b[j]:=λh x=>by rw [EX,gE_ h,CY];simp
   rw [Dz];dsimp only;rw [Ak,Ak];by_cases h1:i < a.length
   ·have ea:a[i]?=some a[i]:=gE_ h1;by_cases h2:j < b.length
    ·have eb:b[j]?=some b[j]:=gE_ h2;simp only [dt_ h1,dt_ h2,Bool.or_self,ct_,Aj,ea,eb,ob_,Br,show (j == b.length)=false by rw [beq_eq_false_iff_ne];omega,show (i == a.length)=false by rw [beq_eq_false_iff_ne];omega,cf_];rw [Ho so_,Ho so_];by_cases h3:a[i] < b[j]
     ·simp only [dt_ h3,ct_,ob_];rw [An om_];refine ih (i + 1) j _ om_ hj om_ so_ (snoc _ λx hx=>(hlt x hx).1 h1) (λx=>?_) (λx hx=>?_)
      ·rw [CY,EV,hm,ta h1];exact or_right_comm
      ·rcases CY.1 hx with hx | hx
       ·exact ⟨λh=>F5 ((hlt x hx).1 h1) (sa i (i + 1) om_ h),(hlt x hx).2⟩
       ·obtain rfl:x=a[i]:=by simpa using hx
        exact ⟨λh=>sa i (i + 1) om_ h,λ_=>h3⟩
     ·by_cases h4:b[j] < a[i]
      ·simp only [df_ h3,dt_ h4,ct_,cf_,ob_];rw [An om_];refine ih i (j + 1) _ hi om_ om_ so_ (snoc _ λx hx=>(hlt x hx).2 h2) (λx=>?_) (λx hx=>?_)
       ·rw [CY,EV,hm,tb h2];exact or_assoc
       ·rcases CY.1 hx with hx | hx
        ·exact ⟨(hlt x hx).1,λh=>F5 ((hlt x hx).2 h2) (sb j (j + 1) om_ h)⟩
        ·obtain rfl:x=b[j]:=by simpa using hx
         exact ⟨λ_=>h4,λh=>sb j (j + 1) om_ h⟩
      ·have h5:a[i]=b[j]:=by omega
       simp only [df_ h3,df_ h4,cf_,ob_];rw [An om_,An om_];refine ih (i + 1) (j + 1) _ om_ om_ om_ so_ (snoc _ λx hx=>(hlt x hx).1 h1) (λx=>?_) (λx hx=>?_)
       ·rw [CY,EV,hm,ta h1,tb h2,← h5];exact or_or_distrib_right
       ·rcases CY.1 hx with hx | hx
        ·exact ⟨λh=>F5 ((hlt x hx).1 h1) (sa i (i + 1) om_ h),λh=>F5 ((hlt x hx).2 h2) (sb j (j + 1) om_ h)⟩
        ·obtain rfl:x=a[i]:=by simpa using hx
         exact ⟨λh=>sa i (i + 1) om_ h,λh=>by rw [h5];exact sb j (j + 1) om_ h⟩
    ·have hjb:j=b.length:=by omega
     simp only [dt_ h1,GT,ct_,Aj,ea,ob_,Br,show (j == b.length)=true by rw [beq_iff_eq];omega];rw [Ho so_,ob_,ob_,An om_];refine ih (i + 1) j _ om_ hj om_ so_ (snoc _ λx hx=>(hlt x hx).1 h1) (λx=>?_) (λx hx=>?_)
     ·rw [CY,EV,hm,ta h1];exact or_right_comm
     ·rcases CY.1 hx with hx | hx
      ·exact ⟨λh=>F5 ((hlt x hx).1 h1) (sa i (i + 1) om_ h),λh=>by omega⟩
      ·obtain rfl:x=a[i]:=by simpa using hx
       exact ⟨λh=>sa i (i + 1) om_ h,λh=>by omega⟩
   ·by_cases h2:j < b.length
    ·have eb:b[j]?=some b[j]:=gE_ h2;simp only [df_ h1,dt_ h2,D8,ct_,cf_,Aj,eb,ob_,Br,show (j == b.length)=false by rw [beq_eq_false_iff_ne];omega,show (i == a.length)=true by rw [beq_iff_eq];omega];rw [Ho so_,ob_,ob_,An om_];refine ih i (j + 1) _ hi om_ om_ so_ (snoc _ λx hx=>(hlt x hx).2 h2) (λx=>?_) (λx hx=>?_)
     ·rw [CY,EV,hm,tb h2];exact or_assoc
     ·rcases CY.1 hx with hx | hx
      ·exact ⟨λh=>by omega,λh=>F5 ((hlt x hx).2 h2) (sb j (j + 1) om_ h)⟩
      ·obtain rfl:x=b[j]:=by simpa using hx
       exact ⟨λh=>by omega,λh=>sb j (j + 1) om_ h⟩
    ·rw [df_ h1,df_ h2,Bool.or_self,cf_];refine ⟨_,_,l,rfl,by omega,hp,λx=>?_⟩;rw [hm,DY om_,DY om_]
 obtain ⟨z1,z2,l',e,e1,e2,e3⟩:=key FF 0 0 [] om_ om_ uF smp_ .nil smp_ smp_;have e:Dz a b FF ((0:Int),(0:Int),[])=some (z1,z2,l'):=e;unfold LQ;rw [e];exact ⟨l',rfl,e1,e2,λx=>by rw [e3,ha.2,hb.2]⟩
theorem Uy {c:Aa} {s:Ac} (h:Fit c s) {k:Nat} (hk:k < cL c):idx (vals s) (k:Int)=some (lin s (k:Int)):=by
 obtain ⟨b,h1,h2⟩:=AM h k hk;rw [Aj,h1,h2]
theorem Ys {c:Aa} {t:Ac} (hc:Rt c) (ht:Fit c t):∃ l,MA FF c t=some (⟨t.Ends,(List.range t.Valves.length).map (vlv c t),t.Inputs,t.Values,t.Timers⟩,l)/\l.length<=10/\Cs l (rnP c t):=by
 have hb:=hc.bd;have h1:=hb.a';have h2:=hb.i;have h3:=hb.s;have hS:cS c=2 * cA c + c.Inputs.length:=rfl;have hL:cL c=cS c + c.Signals.length:=rfl;have hvl:=ht.v;unfold MA;rw [Ck (ht.sm hb),ob_,Lf hb ht.e (by rw [ht.i];omega) (by rw [ht.x];omega),ob_];obtain ⟨v,hI,hl⟩:=Pc (L:=Ge FF c (vals t)) (mk:=λi (v:GX×GW)=>((i:Int),v.1,v.2)) (N:=cA c) (I:=λi v=>(v.2.length<=i/\Cs v.2 (rnPi c t i))/\v.1=upd (vlv c t) t.Valves i) (λn i v hi hI=>by
  obtain ⟨V,l⟩:=v;obtain ⟨⟨hll,hC⟩,rfl⟩:=hI;obtain ⟨p,m,e1,e2,hp,hm,g1,g2⟩:=Wk hc hi;have e5:(upd (vlv c t) t.Valves i)[i]?=some t.Valves[i]:=by rw [Bs (C5 i)];exact gE_ om_
  have e7:t.Valves.getD i false=t.Valves[i]:=by rw [C4,gE_ om_];rfl
  have hsetV:∀ y,y=vlv c t i->(upd (vlv c t) t.Valves i).set i y=upd (vlv c t) t.Valves (i + 1):=λy hy=>Cr om_ hy;have hkeep:vlv c t i=t.Valves[i]->upd (vlv c t) t.Valves i=upd (vlv c t) t.Valves (i + 1):=λhy=>by
   rw [← hsetV t.Valves[i] hy.symm];refine EG λj=>?_;by_cases hj:j=i
   ·subst hj;rw [DK (by rw [Hs om_];omega),e5]
   ·rw [D9 om_]
  have hvi:vlv c t i=if lin t (p:Int)=lin t (m:Int) then t.Valves[i] else lin t (p:Int):=by
   unfold vlv;rw [g1,g2,e7]
  dsimp only at hll hC;refine ⟨(upd (vlv c t) t.Valves (i + 1),if (lin t (p:Int) && lin t (m:Int))=true then l ++ [((cL c + i:Nat):Int)] else l),⟨?_,rfl⟩,?_⟩
  ·dsimp only;refine ⟨by split <;> (try simp) <;> omega,?_⟩
   cases hpm:lin t (p:Int) && lin t (m:Int) with
   | true=>
    rw [if_pos rfl];refine (hC.snoc λx ⟨j,h1,h2,_⟩=>by omega).iff λx=>?_;rw [Kk,g1,g2,hpm];simp
   | false=>
    rw [if_neg smp_];refine hC.iff λx=>?_;rw [Kk,g1,g2,hpm];simp
  ·rw [Ge];dsimp only;rw [hb.a,Ak,dt_ hi,ct_,Aj,e1,ob_,Uy ht hp,ob_,Aj,e2,ob_,Uy ht hm,ob_,Gx hb,ob_,Ar om_ om_,show (cL c:Int) + (i:Int)=((cL c + i:Nat):Int) by omega,Aj,e5,ob_,An om_,DQ];cases hP:lin t (p:Int) with
   | true=>
    cases hM:lin t (m:Int) with
    | true=>
     unfold app;rw [Bool.and_self,ct_,if_pos so_,hkeep (by rw [hvi,hP,hM];simp)];rfl
    | false=>
     rw [hsetV true (by rw [hvi,hP,hM];simp)];rfl
   | false=>
    cases hM:lin t (m:Int) with
    | true=>
     rw [hsetV false (by rw [hvi,hP,hM];simp)];rfl
    | false=>
     rw [hkeep (by rw [hvi,hP,hM];simp)];rfl) (λn v _=>by
  rw [Ge];dsimp only;rw [hb.a,Ak,df_ om_,cf_]) FF 0 (t.Valves,[]) om_ uF ⟨⟨by simp,Cs.nil λ_=>Qe⟩,Bp.symm⟩
 obtain ⟨V,l⟩:=v;obtain ⟨⟨hll,hC⟩,rfl⟩:=hI;try dsimp only at hl hll hC
 rw [n0] at hl;refine ⟨l,?_,by omega,hC⟩;show ((Ge FF c (vals t) FF ((0:Int),t.Valves,[])).bind _)=_;rw [hl,ob_];have e2:=Cu (f:=vlv c t) (l:=t.Valves);rw [hvl] at e2;unfold tup;dsimp only;rw [e2,hvl]
theorem Yr {c:Aa} {t:Ac} (hb:Bd_ c) (ht:Fit c t) (V:GX) (hV:V.length=cA c):LW FF ⟨t.Ends,V,t.Inputs,t.Values,t.Timers⟩=some ⟨(List.range t.Ends.length).map λi=>Ex (V.getD i false) (t.Ends.getD i 0),V,t.Inputs,t.Values,t.Timers⟩:=by
 have h1:=hb.a';have hel:=ht.e;have hsm:Smst (⟨t.Ends,V,t.Inputs,t.Values,t.Timers⟩:Ac) 1000:=by
  have:=ht.sm hb;exact ⟨this.e,by show V.length<=1000;omega,this.i,this.x,this.t⟩
 unfold LW;rw [Ck hsm,ob_];obtain ⟨v,hI,hl⟩:=Pc (L:=Gc ⟨t.Ends,V,t.Inputs,t.Values,t.Timers⟩) (mk:=λi (v:GW)=>((i:Int),v)) (N:=cA c) (I:=λi v=>v=upd (λi=>Ex (V.getD i false) (t.Ends.getD i 0)) t.Ends i) (λn i v hi hI=>by
  subst hI;have e4:(upd (λi=>Ex (V.getD i false) (t.Ends.getD i 0)) t.Ends i)[i]?=some t.Ends[i]:=by rw [Bs (C5 i)];exact gE_ om_
  have e6:t.Ends.getD i 0=t.Ends[i]:=by rw [C4,gE_ om_];rfl
  have e7:V.getD i false=V[i]:=by rw [C4,gE_ om_];rfl
  have hee:=ht.ee t.Ends[i] (CS om_);have hsetE:∀ y,y=Ex (V.getD i false) (t.Ends.getD i 0)->(upd (λi=>Ex (V.getD i false) (t.Ends.getD i 0)) t.Ends i).set i y=upd (λi=>Ex (V.getD i false) (t.Ends.getD i 0)) t.Ends (i + 1):=λy hy=>Cr om_ hy;have hkeepE:Ex (V.getD i false) (t.Ends.getD i 0)=t.Ends[i]->upd (λi=>Ex (V.getD i false) (t.Ends.getD i 0)) t.Ends i=upd (λi=>Ex (V.getD i false) (t.Ends.getD i 0)) t.Ends (i + 1):=λhy=>by
   rw [← hsetE t.Ends[i] hy.symm];refine EG λj=>?_;by_cases hj:j=i
   ·subst hj;rw [DK (by rw [Hs om_];omega),e4]
   ·rw [D9 om_]
  refine ⟨_,rfl,?_⟩;rw [Gc];dsimp only;have eV:V[i]?=some V[i]:=gE_ om_;have eE:t.Ends[i]?=some t.Ends[i]:=gE_ om_;rw [hel,Ak,dt_ hi,ct_];simp only [Aj,eV,eE,e4,ob_,DQ];rw [An om_];rw [e6,e7] at hsetE hkeepE;generalize t.Ends[i]=e at hee hsetE hkeepE e4;cases hv:V[i] with
  | true=>
   rw [hv] at hsetE hkeepE;by_cases h0:e=0
   ·rw [show (e == 0)=true by simpa using h0];simp only [ct_,ob_,E9,cf_];rw [hsetE 1 (by unfold Ex;rw [if_pos rfl,if_neg om_])]
   ·by_cases h3:e=3
    ·rw [show (e == 0)=false by simpa using h0,show (e == 3)=true by simpa using h3];simp only [ct_,ob_,E9,cf_];rw [hsetE 1 (by unfold Ex;rw [if_pos rfl,if_neg om_])]
    ·rw [show (e == 0)=false by simpa using h0,show (e == 3)=false by simpa using h3];simp only [ct_,ob_,E9,cf_];rw [hkeepE (by unfold Ex;rw [if_pos rfl,if_pos om_])]
  | false=>
   rw [hv] at hsetE hkeepE;simp only [cf_,ob_,FP,ct_];by_cases h0:e=2
   ·rw [show (e == 2)=true by simpa using h0];simp only [ct_,ob_];rw [e4,ob_,ob_,hsetE 3 (by unfold Ex;rw [if_neg smp_,if_neg om_])]
   ·by_cases h3:e=1
    ·rw [show (e == 2)=false by simpa using h0,show (e == 1)=true by simpa using h3];simp only [ct_,ob_,cf_];rw [e4,ob_,ob_,hsetE 3 (by unfold Ex;rw [if_neg smp_,if_neg om_])]
    ·rw [show (e == 2)=false by simpa using h0,show (e == 1)=false by simpa using h3];simp only [cf_,ob_];rw [hkeepE (by unfold Ex;rw [if_neg smp_,if_pos om_])]) (λn v _=>by
  rw [Gc];dsimp only;rw [hel,Ak,df_ om_,cf_]) FF 0 t.Ends om_ uF Bp.symm
 subst hI;try dsimp only at hl
 rw [n0] at hl;show ((Gc ⟨t.Ends,V,t.Inputs,t.Values,t.Timers⟩ FF ((0:Int),t.Ends)).bind _)=_;rw [hl,ob_];have e2:=Cu (f:=λi=>Ex (V.getD i false) (t.Ends.getD i 0)) (l:=t.Ends);rw [hel] at e2;unfold tup;dsimp only;rw [e2,hel]
theorem Rx {c:Aa} {s:Ac} (hc:Rt c) (hf:Fit c s):match stl c 65 s with
  | some t=>∃ l,MC FF c s=some (rnd c t,l,true)/\l.length<=110/\Cs l λx=>Vo c 65 s x\/rnP c t x
  | none=>∃ a l,MC FF c s=some (a,l,false):=by
 have hb:=hc.bd;have h:=Yt hc hf;unfold MC;cases hs:stl c 65 s with
 | none=>rw [hs] at h;obtain ⟨a,l,h⟩:=h;rw [h];exact ⟨_,_,rfl⟩
 | some t=>
  rw [hs] at h;obtain ⟨l,h,hl,hC⟩:=h;obtain ⟨ht,_,_⟩:=Gl hf hs;obtain ⟨l2,h2,hl2,hC2⟩:=Ys hc ht;obtain ⟨l3,h3,hl3,hC3⟩:=Ro (a:=l) (b:=l2) om_ hC hC2;rw [h,ob_];dsimp only;rw [nt_,cf_,h2,ob_];dsimp only;rw [Yr hb ht _ (by simp [ht.v]),ob_,h3,ob_];refine ⟨l3,?_,by omega,hC3⟩;congr 2;unfold rnd;congr 1;refine List.map_congr_left λi hi=>?_;have hi:=C3.1 hi;rw [ht.e] at hi;rw [C4,C8,D4 (by rw [ht.v];exact hi)];rfl
def rst (c:Aa):Nat->Ac->Option Ac
 | 0,_=>none
 | k + 1,s=>match stl c 65 s with
  | none=>none
  | some t=>if sst (rnd c t) s=true then some s else rst c k (rnd c t)
def Qt (c:Aa) (s:Ac):Prop:=∃ t,stl c 65 s=some t/\sst (rnd c t) s=true
theorem Ua {c:Aa}:∀ {k:Nat} {s t:Ac},Fit c s->rst c k s=some t->Fit c t/\t.Inputs=s.Inputs/\Qt c t
 | 0,_,_,_,h=>by cases h
 | k + 1,s,t,hf,h=>by
  unfold rst at h;cases hs:stl c 65 s with
  | none=>rw [hs] at h;cases h
  | some u=>
   rw [hs] at h;try dsimp only at h
   obtain ⟨hu,hk,_⟩:=Gl hf hs;split at h
   ·rename_i h1;obtain rfl:=Option.some.inj h;exact ⟨hf,rfl,u,hs,h1⟩
   ·obtain ⟨h1,h2,h3⟩:=Ua (Kj hu) h;exact ⟨h1,h2.trans hk.i,h3⟩
def Ub (c:Aa):Nat->Ac->Int->Prop
 | 0,_,_=>False
 | k + 1,s,x=>match stl c 65 s with
  | none=>False
  | some t=>(Vo c 65 s x\/rnP c t x)\/(sst (rnd c t) s=false/\Ub c k (rnd c t) x)
theorem Yz {a b:GW} (h:a.length + b.length<=400000000):∃ l,KA FF a b=some l/\l.length<=a.length + b.length/\Cs l λx=>x∈a\/x∈b:=by
 unfold KA;obtain ⟨r1,r2,e2,e3,l3,hC⟩:=Ts (l:=a ++ b) so_;rw [Ru om_ om_,ob_,e2,ob_,e3];exact ⟨r2,rfl,by rw [CO] at l3;omega,hC.iff λx=>CY⟩
theorem Fj {c:Aa} (hc:Rc c):∀ (k n j:Nat) (s:Ac) (q:GW),j + k=65->k < n->Fit c s->q.length<=3000 * j ->
  match rst c k s with
  | some t=>∃ l,Dm FF c n ((j:Int),s,q)=some (.ret (t,0,l))/\l.length<=200000/\Cs l λx=>x∈q\/Ub c k s x
  | none=>Dm FF c n ((j:Int),s,q)=some (.ret (z0,21,[]))\/∃ q',Dm FF c n ((j:Int),s,q)=some (.brk q')
 | _,0,_,_,_,_,h,_,_=>by omega
 | 0,n + 1,j,s,q,h1,h2,hf,hq=>by
  unfold rst Dm;dsimp only;rw [show decide ((j:Int) < 65)=false by simp;omega,cf_];exact .inr ⟨_,rfl⟩
 | k + 1,n + 1,j,s,q,h1,h2,hf,hq=>by
  have hb:=hc.rt.bd;have h:=Lq hc hf;unfold rst Dm;dsimp only;rw [show decide ((j:Int) < 65)=true by simp;omega,ct_];cases hs:stl c 65 s with
  | none=>rw [hs] at h;rw [h];exact .inl rfl
  | some t=>
   rw [hs] at h;obtain ⟨l,h,hl,hmm⟩:=h;obtain ⟨ht,_,_⟩:=Gl hf hs;have hr:=Kj ht;obtain ⟨l2,e2,hl2,hC2⟩:=Yz (a:=q) (b:=l) om_;rw [h,ob_];dsimp only;rw [zf_,cf_,e2,ob_,Ep (n:=1000) (hr.sm hb) uF om_,ob_];cases hq2:sst (rnd c t) s with
   | true=>
    rw [if_pos rfl,ct_,Dr.1 hq2];refine ⟨l2,rfl,by omega,hC2.iff λx=>?_⟩;rw [hmm,Ub,hs];dsimp only;rw [hq2];simp
   | false=>
    rw [if_neg smp_,cf_,An om_];have ih:=Fj hc k n (j + 1) (rnd c t) l2 om_ om_ hr om_;cases hst:rst c k (rnd c t) with
    | none=>rw [hst] at ih;exact ih
    | some u=>
     rw [hst] at ih;obtain ⟨l',e4,hl',hC⟩:=ih;refine ⟨l',e4,hl',hC.iff λx=>?_⟩;rw [hC2.2];show (x∈q\/x∈l)\/Ub c k (rnd c t) x↔_;rw [hmm,Ub,hs];dsimp only;rw [hq2];simp [or_assoc]
theorem A4 {c:Aa} {s:Ac} (hc:Rc c) (hf:Fit c s):match rst c 65 s with
  | some t=>∃ l,m95 FF c s=some (t,0,l)/\l.length<=200000/\Cs l (Ub c 65 s)
  | none=>m95 FF c s=some (z0,21,[]):=by
 have h:=Fj hc 65 FF 0 s [] om_ uF hf smp_;rw [n0] at h;unfold m95;rw [Ef hc,(Bi hc.rt.bd).2 hf,ob_,zf_,cf_];cases hs:rst c 65 s with
 | none=>
  rw [hs] at h;rcases h with h | ⟨q,h⟩ <;> rw [h] <;> rfl
 | some t=>rw [hs] at h;obtain ⟨l,h,hl,hC⟩:=h;rw [h];exact ⟨l,rfl,hl,hC.iff λx=>by simp⟩
theorem Sz {c:Aa}:∀ {n z},Cz FF c n z=(Dm FF c n z).map λo=>match o with | .brk q=>.brk q | .ret r=>.ret (r.1,r.2.2,r.2.1):=by
 intro n
 induction n with
 | zero=>intro z;rfl
 | succ n ih=>
  intro z;rw [Cz,Dm];cases decide (z.1 < 65) with
  | false=>rfl
  | true=>
   rw [ct_,ct_];cases J4 FF c z.2.1 with
   | none=>rfl
   | some x=>
    rw [ob_,ob_];cases x.2.1 != 0 with
    | true=>rfl
    | false=>
     rw [cf_,cf_];cases KA FF z.2.2 x.2.2 with
     | none=>rfl
     | some y=>
      rw [ob_,ob_];cases m22 FF x.1 z.2.1 with
      | none=>rfl
      | some b=>
       rw [ob_,ob_];cases b with
       | true=>rfl
       | false=>rw [cf_,cf_];exact ih
theorem Vr {c:Aa} {s:Ac} (hc:Rc c) (hf:Fit c s):match rst c 65 s with
  | some t=>∃ l,Vs FF c s=some (t,l,0)/\l.length<=200000/\Cs l (Ub c 65 s)
  | none=>Vs FF c s=some (z0,[],21):=by
 have h:=Fj hc 65 FF 0 s [] om_ uF hf smp_;rw [n0] at h;unfold Vs;rw [Ef hc,(Bi hc.rt.bd).2 hf,ob_,zf_,cf_,Sz];cases hs:rst c 65 s with
 | none=>
  rw [hs] at h;rcases h with h | ⟨q,h⟩ <;> rw [h] <;> rfl
 | some t=>rw [hs] at h;obtain ⟨l,h,hl,hC⟩:=h;rw [h];exact ⟨l,rfl,hl,hC.iff λx=>by simp⟩
theorem Js {c:Aa} (hc:Rt c):∀ (k n j:Nat) (s:Ac) (q:GW),j + k=65->k < n->Fit c s->q.length<=110 * j->∀ {p:Int->Prop},Cs q p ->
  match rst c k s with
  | some t=>∃ l,Ee FF c n (q,(j:Int),s)=some (.ret (t,l,true))/\Cs l λx=>p x\/Ub c k s x
  | none=>(∃ a l,Ee FF c n (q,(j:Int),s)=some (.ret (a,l,false)))\/∃ q',Ee FF c n (q,(j:Int),s)=some (.brk q')
 | _,0,_,_,_,_,h,_,_,_,_=>by omega
 | 0,n + 1,j,s,q,h1,h2,hf,hq,p,hp=>by
  unfold rst Ee;dsimp only;rw [show decide ((j:Int)<=64)=false by simp;omega,cf_];exact .inr ⟨_,rfl⟩
 | k + 1,n + 1,j,s,q,h1,h2,hf,hq,p,hp=>by
  have hb:=hc.bd;have h:=Rx hc hf;unfold rst Ee;dsimp only;rw [show decide ((j:Int)<=64)=true by simp;omega,ct_];cases hs:stl c 65 s with
  | none=>rw [hs] at h;obtain ⟨a,l,h⟩:=h;rw [h];exact .inl ⟨_,_,rfl⟩
  | some t=>
   rw [hs] at h;obtain ⟨l,h,hl,hC⟩:=h;obtain ⟨ht,_,_⟩:=Gl hf hs;have hr:=Kj ht;obtain ⟨l2,e2,hl2,hC2⟩:=Ro (a:=q) (b:=l) om_ hp hC;rw [h,ob_];dsimp only;rw [nt_,cf_,e2,ob_,El (n:=1000) (hf.sm hb) uF om_,ob_,show sst s (rnd c t)=sst (rnd c t) s from Jv];cases hq2:sst (rnd c t) s with
   | true=>
    rw [if_pos rfl,ct_];refine ⟨l2,rfl,hC2.iff λx=>?_⟩;rw [Ub,hs];dsimp only;rw [hq2];simp
   | false=>
    rw [if_neg smp_,cf_,An om_];have ih:=Js hc k n (j + 1) (rnd c t) l2 om_ om_ hr om_ hC2;cases hst:rst c k (rnd c t) with
    | none=>rw [hst] at ih;exact ih
    | some u=>
     rw [hst] at ih;obtain ⟨l',e4,hC⟩:=ih;refine ⟨l',e4,hC.iff λx=>?_⟩;rw [Ub,hs];dsimp only;rw [hq2];simp [or_assoc]
theorem Sa {c:Aa} {s:Ac} (hc:Rt c) (hf:Fit c s):match rst c 65 s with
  | some t=>∃ l,ME FF c s=some (t,l,true)/\Cs l (Ub c 65 s)
  | none=>∃ a l,ME FF c s=some (a,l,false):=by
 have h:=Js hc 65 FF 0 s [] om_ uF hf smp_ (Cs.nil (p:=λ_=>False) λ_ h=>h);rw [n0] at h;unfold ME;cases hs:rst c 65 s with
 | none=>
  rw [hs] at h;rcases h with ⟨a,l,h⟩ | ⟨q,h⟩ <;> rw [h] <;> exact ⟨_,_,rfl⟩
 | some t=>rw [hs] at h;obtain ⟨l,h,hC⟩:=h;rw [h];exact ⟨l,rfl,hC.iff λx=>by simp⟩
theorem Zi {c:Aa} {s:Ac} (hc:Rt c) (hf:Fit c s):match rst c 65 s with
  | some t=>∃ l,MH FF c s=some (t,l,0)/\Cs l (Ub c 65 s)
  | none=>MH FF c s=some (z0,[],21):=by
 have h:=Sa hc hf;unfold MH;cases hs:rst c 65 s with
 | none=>rw [hs] at h;obtain ⟨a,l,h⟩:=h;rw [h];rfl
 | some t=>rw [hs] at h;obtain ⟨l,h,hC⟩:=h;rw [h];exact ⟨_,rfl,hC⟩
def qtE (c:Aa) (s:Ac):Int:=if Pw c s=0 then (match stl c 65 s with | some t=>if sst (rnd c t) s=true then 0 else 14 | none=>14) else Pw c s
theorem Ui {c:Aa} {s:Ac} (hc:Rc c):m96 FF c s=some (qtE c s):=by
 unfold m96 m65 qtE;rw [Ef hc,ob_];by_cases h0:Pw c s=0
 ·have hf:=(Bi hc.rt.bd).1 h0;have h:=Lq hc hf;rw [if_pos h0,h0,zf_,cf_];cases hs:stl c 65 s with
  | none=>rw [hs] at h;rw [h];rfl
  | some t=>
   rw [hs] at h;obtain ⟨l,h,hl⟩:=h;obtain ⟨ht,_,_⟩:=Gl hf hs;rw [h,ob_];dsimp only;rw [show ((0:Int) == 0)=true by rfl,ct_,Ep (n:=1000) ((Kj ht).sm hc.rt.bd) uF om_];cases sst (rnd c t) s <;> rfl
 ·rw [if_neg h0,show (Pw c s != 0)=true by simpa using h0,ct_,ob_];dsimp only;rw [show (Pw c s != 0)=true by simpa using h0,ct_]
theorem Uf {c:Aa} {s:Ac} (hb:Bd_ c):qtE c s=0↔Fit c s/\Qt c s:=by
 unfold qtE Qt;rw [← Bi hb];by_cases h0:Pw c s=0
 ·rw [if_pos h0];cases stl c 65 s with
  | none=>simp
  | some t=>simp [h0]
 ·rw [if_neg h0];simp [h0]
def act (s:Ac) (x:Ae):Option Ac:=
 if x.Kind=0 then (match idx s.Ends x.Index with
  | some e=>if e=1 then some { s with Ends:=s.Ends.set x.Index.toNat 2 } else if e=3 then some { s with Ends:=s.Ends.set x.Index.toNat 0 } else none
  | none=>none)
 else if x.Kind=1 then (match idx s.Timers x.Index with
  | some t=>if t=1 then some { s with Values:=s.Values.set x.Index.toNat true,Timers:=s.Timers.set x.Index.toNat 2 } else none
  | none=>none)
 else (match idx s.Inputs x.Index with
  | some v=>if v=x.Value then none else some { s with Inputs:=s.Inputs.set x.Index.toNat x.Value }
  | none=>none)
def aft (c:Aa) (s:Ac) (x:Ae):Ac×Int:=
 if x.Kind < 0\/3<=x.Kind then (z0,1) else match act s x with
  | none=>(z0,14)
  | some s'=>match rst c 65 s' with
   | none=>(z0,21)
   | some t=>(t,0)
theorem Sx {α:Type} {l:List α} {i:Nat} {y a:α} (h:a∈l.set i y):a∈l\/a=y:=by
 rcases List.mem_or_eq_of_mem_set h with h | h
 ·exact .inl h
 ·exact .inr h
theorem Ps {c:Aa} {s s':Ac} {x:Ae} (h:Fit c s) (ha:act s x=some s'):Fit c s':=by
 unfold act at ha;split at ha
 ·split at ha
  ·rename_i e he;split at ha
   ·obtain rfl:=Option.some.inj ha;exact ⟨(EL ..).trans h.e,h.v,h.i,h.x,h.t,λa ha=>(Sx ha).elim (h.ee a) (λe=>by omega),h.tt,h.k⟩
   ·split at ha
    ·obtain rfl:=Option.some.inj ha;exact ⟨(EL ..).trans h.e,h.v,h.i,h.x,h.t,λa ha=>(Sx ha).elim (h.ee a) (λe=>by omega),h.tt,h.k⟩
    ·cases ha
  ·cases ha
 ·split at ha
  ·split at ha
   ·rename_i t ht;split at ha
    ·rename_i h1;obtain rfl:=Option.some.inj ha;obtain ⟨i0,i1,i2⟩:=Aq ht;refine ⟨h.e,h.v,h.i,(EL ..).trans h.x,(EL ..).trans h.t,h.ee,λa ha=>(Sx ha).elim (h.tt a) (λe=>by omega),?_⟩;intro i y t' v' hy ht' hv';dsimp only at ht' hv';by_cases e:i=x.Index.toNat
     ·subst e;rw [DK om_] at ht';rw [DK (by have:=h.x;have:=h.t;omega)] at hv';obtain rfl:=Option.some.inj ht';obtain rfl:=Option.some.inj hv';refine ⟨λhk=>?_,λ_=>rfl⟩;have hlt:x.Index.toNat < s.Values.length:=by rw [h.x,← h.t];exact (CT.1 i2).1
      have hvo:s.Values[x.Index.toNat]?=some s.Values[x.Index.toNat]:=gE_ hlt;have:=(h.k _ y t _ hy i2 hvo).1 hk;omega
     ·rw [D9 om_] at ht' hv';exact h.k i y t' v' hy ht' hv'
    ·cases ha
   ·cases ha
  ·split at ha
   ·split at ha
    ·cases ha
    ·obtain rfl:=Option.some.inj ha;exact ⟨h.e,h.v,(EL ..).trans h.i,h.x,h.t,h.ee,h.tt,h.k⟩
   ·cases ha
def afP (c:Aa) (s:Ac) (x:Ae) (y:Int):Prop:=(aft c s x).2=0/\∃ s',act s x=some s'/\Ub c 65 s' y
theorem A3 {c:Aa} {s:Ac} {x:Ae} (hc:Rc c) (hf:Fit c s):∃ l,m97 FF c s x=some ((aft c s x).1,l,(aft c s x).2)/\l.length<=200000/\Cs l (afP c s x):=by
 have hb:=hc.rt.bd;unfold m97 afP aft;rw [Rs (hf.sm hb),ob_];by_cases hk:x.Kind < 0\/3<=x.Kind
 ·rw [if_pos hk,show (decide (x.Kind < 0) || decide (x.Kind>=(3:Int)))=true by simpa using hk];exact ⟨_,rfl,by simp,Cs.nil λx h=>by cases h.1⟩
 ·rw [if_neg hk,show (decide (x.Kind < 0) || decide (x.Kind>=(3:Int)))=false by simp;omega,cf_]
  -- what the act gives
  have key:∃ r:Bool×GW×GX×GX×GX×GW,((idx (List.range 3) x.Kind).bind λx6=>(bif x6 == 0 then KC FF x (tup s).1 (tup s).2.1 (tup s).2.2.1 (tup s).2.2.2.1 (tup s).2.2.2.2 else bif x6 == 1 then KE FF x (tup s).1 (tup s).2.1 (tup s).2.2.1 (tup s).2.2.2.1 (tup s).2.2.2.2 else bif x6 == 2 then KF FF x (tup s).1 (tup s).2.1 (tup s).2.2.1 (tup s).2.2.2.1 (tup s).2.2.2.2 else none))=some r /\
    (match act s x with | none=>r.1=false | some s'=>r=(true,s'.Ends,s'.Valves,s'.Inputs,s'.Values,s'.Timers)):=by
   unfold tup act;dsimp only;have hkk:x.Kind=0\/x.Kind=1\/x.Kind=2:=by omega
   rcases hkk with k | k | k <;> rw [k]
   ·rw [show idx (List.range 3) (0:Int)=some 0 by rfl,ob_,show ((0:Nat) == 0)=true by rfl,ct_,if_pos rfl];unfold KC;by_cases hr:x.Index < 0\/(s.Ends.length:Int)<=x.Index
    ·rw [show (decide (x.Index < 0) || decide (x.Index>=(s.Ends.length:Int)))=true by simpa using hr,ct_];have:idx s.Ends x.Index=none:=by
      cases he:idx s.Ends x.Index with
      | none=>rfl
      | some e=>have:=Aq he;omega
     rw [this];exact ⟨_,rfl,rfl⟩
    ·rw [show (decide (x.Index < 0) || decide (x.Index>=(s.Ends.length:Int)))=false by simp;omega,cf_];obtain ⟨e,he,_⟩:=Cp (xs:=s.Ends) (i:=x.Index) om_ om_;rw [he,ob_];dsimp only;by_cases h1:e=1
     ·rw [if_pos h1,show (e == 1)=true by simpa using h1,ct_];exact ⟨_,rfl,rfl⟩
     ·rw [if_neg h1,show (e == 1)=false by simpa using h1,cf_];by_cases h3:e=3
      ·rw [if_pos h3,show (e == 3)=true by simpa using h3,ct_];exact ⟨_,rfl,rfl⟩
      ·rw [if_neg h3,show (e == 3)=false by simpa using h3,cf_];exact ⟨_,rfl,rfl⟩
   ·rw [show idx (List.range 3) (1:Int)=some 1 by rfl,ob_,show ((1:Nat) == 0)=false by rfl,cf_,show ((1:Nat) == 1)=true by rfl,ct_,if_neg om_,if_pos rfl];unfold KE;by_cases hr:x.Index < 0\/(s.Timers.length:Int)<=x.Index
    ·rw [show (decide (x.Index < 0) || decide (x.Index>=(s.Timers.length:Int)))=true by simpa using hr,ct_,ob_];have:idx s.Timers x.Index=none:=by
      cases he:idx s.Timers x.Index with
      | none=>rfl
      | some e=>have:=Aq he;omega
     rw [this];exact ⟨_,rfl,rfl⟩
    ·rw [show (decide (x.Index < 0) || decide (x.Index>=(s.Timers.length:Int)))=false by simp;omega,cf_];obtain ⟨e,he,_⟩:=Cp (xs:=s.Timers) (i:=x.Index) om_ om_;obtain ⟨v,hv,_⟩:=Cp (xs:=s.Values) (i:=x.Index) om_ (by have:=hf.x;have:=hf.t;omega);rw [he,ob_,ob_];dsimp only;by_cases h1:e=1
     ·rw [if_pos h1,show (e != 1)=false by simpa using h1,cf_,ob_,hv];exact ⟨_,rfl,rfl⟩
     ·rw [if_neg h1,show (e != 1)=true by simpa using h1,ct_];exact ⟨_,rfl,rfl⟩
   ·rw [show idx (List.range 3) (2:Int)=some 2 by rfl,ob_,show ((2:Nat) == 0)=false by rfl,cf_,show ((2:Nat) == 1)=false by rfl,cf_,show ((2:Nat) == 2)=true by rfl,ct_,if_neg om_,if_neg om_];unfold KF;by_cases hr:x.Index < 0\/(s.Inputs.length:Int)<=x.Index
    ·rw [show (decide (x.Index < 0) || decide (x.Index>=(s.Inputs.length:Int)))=true by simpa using hr,ct_,ob_];have:idx s.Inputs x.Index=none:=by
      cases he:idx s.Inputs x.Index with
      | none=>rfl
      | some e=>have:=Aq he;omega
     rw [this];exact ⟨_,rfl,rfl⟩
    ·rw [show (decide (x.Index < 0) || decide (x.Index>=(s.Inputs.length:Int)))=false by simp;omega,cf_];obtain ⟨e,he,_⟩:=Cp (xs:=s.Inputs) (i:=x.Index) om_ om_;rw [he,ob_,ob_];dsimp only;by_cases h1:e=x.Value
     ·rw [if_pos h1,show (e == x.Value)=true by simpa using h1,ct_];exact ⟨_,rfl,rfl⟩
     ·rw [if_neg h1,show (e == x.Value)=false by simpa using h1,cf_,ob_];exact ⟨_,rfl,rfl⟩
  obtain ⟨r,hr,hm⟩:=key;obtain ⟨x6,h6,hr⟩:=D6.1 hr;rw [h6,ob_,hr,ob_];cases ha:act s x with
  | none=>
   rw [ha] at hm;rw [hm,nf_,ct_];exact ⟨_,rfl,by simp,Cs.nil λx h=>by cases h.1⟩
  | some s'=>
   rw [ha] at hm;subst hm;have h:=Vr hc (Ps hf ha);dsimp only;rw [nt_,cf_];rw [show (⟨s'.Ends,s'.Valves,s'.Inputs,s'.Values,s'.Timers⟩:Ac)=s' from rfl];cases hs:rst c 65 s' with
   | none=>rw [hs] at h;rw [h];exact ⟨_,rfl,by simp,Cs.nil λx h=>by cases h.1⟩
   | some t=>rw [hs] at h;obtain ⟨l,h,hl,hC⟩:=h;rw [h];exact ⟨_,rfl,hl,hC.iff λx=>by simp⟩
theorem m52_cs {c:Aa} {s:Ac} {x:Ae} (hc:Rc c) (hf:Fit c s) (hq:Qt c s):∃ l,m52 FF c s x=some ((aft c s x).1,l,(aft c s x).2)/\l.length<=200000/\Cs l (afP c s x):=by
 obtain ⟨l,h,hl,hC⟩:=A3 (x:=x) hc hf;unfold m52;rw [Ui hc,(Uf hc.rt.bd).2 ⟨hf,hq⟩,ob_,zf_,cf_,h];exact ⟨l,rfl,hl,hC⟩
theorem Up {c:Aa} {s:Ac} {x:Ae} (hc:Rc c) (hf:Fit c s) (hq:Qt c s):∃ l,m52 FF c s x=some ((aft c s x).1,l,(aft c s x).2):=
 let ⟨l,h,_⟩:=m52_cs hc hf hq;⟨l,h⟩
end Go.Pn
namespace Go.Pn
open Go
def Pu (s:Ac) (i:Nat):Option Ae:=if s.Ends.getD i 0=1\/s.Ends.getD i 0=3 then some ⟨0,(i:Int),false⟩ else none
def Wb (s:Ac) (i:Nat):Option Ae:=if s.Timers.getD i 0=1 then some ⟨1,(i:Int),false⟩ else none
def Cf (s:Ac):List Ae:=(List.range s.Ends.length).filterMap (Pu s) ++ (List.range s.Timers.length).filterMap (Wb s)
theorem Ce {α:Type} {g:Nat->Option α} {n:Nat}:((List.range n).filterMap g).length<=n:=by
 have:=List.length_filterMap_le g (List.range n);rw [GA] at this;exact this
theorem Jz {α:Type} {g:Nat->Option α} {n:Nat}:(List.range (n + 1)).filterMap g=(List.range n).filterMap g ++ (match g n with | some y=>[y] | none=>[]):=by
 rw [List.range_succ,List.filterMap_append];cases h:g n <;> simp [h]
theorem Um {s:Ac} (h:Smst s 1000):m74 FF s=some (Cf s):=by
 have h1:=h.e;have h2:=h.t;unfold m74;obtain ⟨v,hv,hl⟩:=Pc (L:=Mt s) (mk:=λi (v:List Ae)=>((i:Int),v)) (N:=s.Ends.length) (I:=λi v=>v=(List.range i).filterMap (Pu s)) (λn i v hi hI=>by
  subst hI;refine ⟨_,rfl,?_⟩;have hle:=Ce (g:=Pu s) (n:=i);have hg:s.Ends.getD i 0=s.Ends[i]:=by rw [C4,gE_ hi];rfl
  rw [Mt];dsimp only;rw [Ak,dt_ hi,ct_];simp only [Aj,gE_ hi,ob_];rw [An om_,Jz];have hp:Pu s i=if s.Ends[i]=1\/s.Ends[i]=3 then some ⟨0,(i:Int),false⟩ else none:=by unfold Pu;rw [hg]
  rw [hp];by_cases a1:s.Ends[i]=1
  ·rw [show (s.Ends[i] == 1)=true by simpa using a1,if_pos (.inl a1),ct_,ob_,ct_,Ho so_];rfl
  ·by_cases a3:s.Ends[i]=3
   ·rw [show (s.Ends[i] == 1)=false by simpa using a1,show (s.Ends[i] == 3)=true by simpa using a3,if_pos (.inr a3),cf_,ob_,ct_,Ho so_];rfl
   ·rw [show (s.Ends[i] == 1)=false by simpa using a1,show (s.Ends[i] == 3)=false by simpa using a3,if_neg om_,cf_,ob_,cf_,ob_,D2]) (λn v _=>by
  rw [Mt];dsimp only;rw [Ak,df_ om_,cf_]) FF 0 [] om_ uF rfl
 subst hv;try dsimp only at hl
 rw [n0] at hl;rw [hl,ob_];have hle1:=Ce (g:=Pu s) (n:=s.Ends.length);obtain ⟨v,hv,hl⟩:=Pc (L:=Ms s) (mk:=λi (v:List Ae)=>((i:Int),v)) (N:=s.Timers.length) (I:=λi v=>v=(List.range s.Ends.length).filterMap (Pu s) ++ (List.range i).filterMap (Wb s)) (λn i v hi hI=>by
  subst hI;refine ⟨_,rfl,?_⟩;have hle:=Ce (g:=Wb s) (n:=i);have hg:s.Timers.getD i 0=s.Timers[i]:=by rw [C4,gE_ hi];rfl
  rw [Ms];dsimp only;rw [Ak,dt_ hi,ct_];simp only [Aj,gE_ hi,ob_];rw [An om_,Jz];have hp:Wb s i=if s.Timers[i]=1 then some ⟨1,(i:Int),false⟩ else none:=by unfold Wb;rw [hg]
  rw [hp];by_cases a1:s.Timers[i]=1
  ·rw [show (s.Timers[i] == 1)=true by simpa using a1,if_pos a1,ct_,Ho so_,← DJ];rfl
  ·rw [show (s.Timers[i] == 1)=false by simpa using a1,if_neg a1,cf_,ob_,D2]) (λn v _=>by
  rw [Ms];dsimp only;rw [Ak,df_ om_,cf_]) FF 0 ((List.range s.Ends.length).filterMap (Pu s)) om_ uF smp_
 subst hv;try dsimp only at hl
 rw [n0] at hl;rw [hl];rfl
theorem AV {s:Ac} (h:Smst s 1000):(Cf s).length<=2000:=by
 have h1:=h.e;have h2:=h.t;have a:=Ce (g:=Pu s) (n:=s.Ends.length);have b:=Ce (g:=Wb s) (n:=s.Timers.length);unfold Cf;rw [CO];omega
theorem Ob {s:Ac} {x:Ae}:x∈Cf s↔(∃ i,i < s.Ends.length/\(s.Ends.getD i 0=1\/s.Ends.getD i 0=3)/\x=⟨0,(i:Int),false⟩)\/(∃ i,i < s.Timers.length/\s.Timers.getD i 0=1/\x=⟨1,(i:Int),false⟩):=by
 unfold Cf;rw [CY,FK,FK];unfold Pu Wb;constructor
 ·rintro (⟨i,hi,h⟩ | ⟨i,hi,h⟩)
  ·split at h
   ·rename_i h1;exact .inl ⟨i,C3.1 hi,h1,(Option.some.inj h).symm⟩
   ·cases h
  ·split at h
   ·rename_i h1;exact .inr ⟨i,C3.1 hi,h1,(Option.some.inj h).symm⟩
   ·cases h
 ·rintro (⟨i,hi,h,rfl⟩ | ⟨i,hi,h,rfl⟩)
  ·exact .inl ⟨i,C3.2 hi,by rw [if_pos h]⟩
  ·exact .inr ⟨i,C3.2 hi,by rw [if_pos h]⟩
theorem Vc {l:GW} {i:Nat} (h:i < l.length):idx l (i:Int)=some (l.getD i 0):=by
 rw [Aj,C4,gE_ h];rfl
theorem Uz {l:GW} {i e:Int} (h:idx l i=some e):i.toNat < l.length/\l.getD i.toNat 0=e/\((i.toNat:Nat):Int)=i:=by
 obtain ⟨h0,h1,h2⟩:=Aq h;exact ⟨(CT.1 h2).1,by rw [C4,h2];rfl,by omega⟩
theorem Zj {s:Ac} {x:Ae} (h:Smst s 1000) (hk:0<=x.Kind/\x.Kind < 3):ML FF s x=some (act s x).isSome:=by
 have hkk:x.Kind=0\/x.Kind=1\/x.Kind=2:=by omega
 unfold ML;by_cases h2:x.Kind=2
 ·rw [h2,show ((2:Int) == 2)=true by rfl,ct_];unfold act;rw [if_neg om_,if_neg om_];by_cases hr:x.Index>=0/\x.Index < s.Inputs.length
  ·rw [dt_ hr.1,dt_ hr.2,Bool.and_self,ct_];obtain ⟨v,hv,_⟩:=Cp (xs:=s.Inputs) hr.1 hr.2;rw [hv,ob_,ob_];dsimp only;by_cases e:v=x.Value
   ·rw [if_pos e,e];simp
   ·rw [if_neg e,show (v != x.Value)=true by simpa using e];rfl
  ·have:(decide (x.Index>=(0:Int)) && decide (x.Index < (s.Inputs.length:Int)))=false:=by
    rw [FB,decide_eq_false_iff_not,decide_eq_false_iff_not];omega
   have hn:idx s.Inputs x.Index=none:=by
    cases he:idx s.Inputs x.Index with
    | none=>rfl
    | some e=>have:=Aq he;omega
   rw [this,hn];rfl
 ·rw [show (x.Kind == 2)=false by simpa using h2,cf_,Um h,ob_];have hpl:=AV h;have h5:=Tt (L:=Lm x (Cf s)) (xs:=Cf s) (p:=λ_ y=>some ((y.Kind == x.Kind) && (y.Index == x.Index))) (q:=λy=>(y.Kind == x.Kind) && (y.Index == x.Index)) (r:=λ_=>true) (λn z=>by
   rw [Lm];congr 1;cases hy:idx (Cf s) z with
   | none=>rfl
   | some y=>
    simp only [ob_];cases (y.Kind == x.Kind) <;> rfl) om_ (λi y hy=>rfl) FF 0 om_ (by unfold FF; omega)
  rw [n0,C6] at h5;rw [h5];have key:(act s x).isSome=true↔∃ y∈Cf s,((y.Kind == x.Kind) && (y.Index == x.Index))=true:=by
   unfold act;constructor
   ·intro ha;split at ha
    ·rename_i hk0;split at ha
     ·rename_i e he;obtain ⟨g1,g2,g3⟩:=Uz he;have:e=1\/e=3:=by
       split at ha
       ·left;assumption
       ·split at ha
        ·right;assumption
        ·cases ha
      exact ⟨⟨0,((x.Index.toNat:Nat):Int),false⟩,Ob.2 (.inl ⟨_,g1,by omega,rfl⟩),by simp [hk0,g3]⟩
     ·cases ha
    ·split at ha
     ·rename_i hk0 hk1;split at ha
      ·rename_i e he;obtain ⟨g1,g2,g3⟩:=Uz he;have:e=1:=by
        split at ha
        ·assumption
        ·cases ha
       exact ⟨⟨1,((x.Index.toNat:Nat):Int),false⟩,Ob.2 (.inr ⟨_,g1,by omega,rfl⟩),by simp [hk1,g3]⟩
      ·cases ha
     ·omega
   ·rintro ⟨y,hy,hq⟩;rw [CU,beq_iff_eq,beq_iff_eq] at hq;obtain ⟨q1,q2⟩:=hq;rcases Ob.1 hy with ⟨i,hi,he,rfl⟩ | ⟨i,hi,he,rfl⟩
    ·dsimp only at q1 q2;rw [if_pos q1.symm,← q2,Vc hi];dsimp only;rcases he with he | he
     ·rw [if_pos he];rfl
     ·rw [if_neg om_,if_pos he];rfl
    ·dsimp only at q1 q2;rw [if_neg om_,if_pos q1.symm,← q2,Vc hi];dsimp only;rw [if_pos he];rfl
  cases h6:(Cf s).findIdx? (λy=>(y.Kind == x.Kind) && (y.Index == x.Index)) with
  | none=>
   rw [DN] at h6;have:(act s x).isSome=false:=by
    rw [GV];intro ha;obtain ⟨y,hy,hq⟩:=key.1 ha;rw [h6 y hy] at hq;cases hq
   rw [this];rfl
  | some j=>
   obtain ⟨hj,hj2,_⟩:=DC.1 h6;rw [key.2 ⟨_,CS hj,hj2⟩];rfl
theorem Zh {c:Aa} {s s':Ac} {x:Ae} (hb:Bd_ c) (hf:Fit c s) (hk:0<=x.Kind/\x.Kind < 3) (ha:act s x=some s'):MJ FF s x=some s':=by
 have hkk:x.Kind=0\/x.Kind=1\/x.Kind=2:=by omega
 unfold MJ;rw [Ck (hf.sm hb),ob_];unfold tup;dsimp only;unfold act at ha;rcases hkk with k | k | k <;> rw [k] at ha ⊢
 ·rw [if_pos rfl] at ha;rw [show ((0:Int) == 0)=true by rfl,ct_];split at ha
  ·rename_i e he;obtain ⟨i0,i1,i2⟩:=Aq he;rw [he,ob_,ob_];split at ha
   ·rename_i h1;obtain rfl:=Option.some.inj ha;obtain ⟨y,hy,_⟩:=Cp (xs:=s.Ends.set x.Index.toNat 0) i0 (by rw [EL];exact i1);rw [h1,show ((1:Int) == 1)=true by rfl,ct_,hy,ob_,ob_,ob_,List.set_set]
   ·rename_i h1;split at ha
    ·obtain rfl:=Option.some.inj ha;rw [show (e == 1)=false by simpa using h1,cf_,ob_,ob_]
    ·cases ha
  ·cases ha
 ·rw [if_neg om_,if_pos rfl] at ha;rw [show ((1:Int) == 0)=false by rfl,cf_,show ((1:Int) == 1)=true by rfl,ct_];split at ha
  ·rename_i e he;obtain ⟨i0,i1,i2⟩:=Aq he;have hx:=hf.x;have ht:=hf.t;obtain ⟨y,hy,_⟩:=Cp (xs:=s.Values) i0 om_;rw [he,ob_,hy,ob_,ob_];split at ha
   ·obtain rfl:=Option.some.inj ha;rfl
   ·cases ha
  ·cases ha
 ·rw [if_neg om_,if_neg om_] at ha;rw [show ((2:Int) == 0)=false by rfl,cf_,show ((2:Int) == 1)=false by rfl,cf_,show ((2:Int) == 2)=true by rfl,ct_];split at ha
  ·rename_i e he;rw [he,ob_,ob_,ob_,ob_];split at ha
   ·cases ha
   ·obtain rfl:=Option.some.inj ha;rfl
  ·cases ha
theorem m75_cs {c:Aa} {s:Ac} {x:Ae} (hc:Rt c) (hf:Fit c s):∃ l,m75 FF c s x=some ((aft c s x).1,l,(aft c s x).2)/\Cs l (afP c s x):=by
 have hb:=hc.bd;unfold m75 afP aft;by_cases hk:x.Kind < 0\/3<=x.Kind
 ·rw [if_pos hk,show (decide (x.Kind < 0) || decide (x.Kind > 2))=true by simp;omega];exact ⟨_,rfl,Cs.nil λx h=>by cases h.1⟩
 ·rw [if_neg hk,show (decide (x.Kind < 0) || decide (x.Kind > 2))=false by simp;omega,cf_,Zj (hf.sm hb) om_,ob_];cases ha:act s x with
  | none=>exact ⟨_,rfl,Cs.nil λx h=>by cases h.1⟩
  | some s'=>
   rw [show (!(some s').isSome)=false by rfl,cf_,Zh hb hf om_ ha,ob_];have h:=Zi hc (Ps hf ha);dsimp only;cases hs:rst c 65 s' with
   | none=>rw [hs] at h;rw [h];exact ⟨_,rfl,Cs.nil λx h=>by cases h.1⟩
   | some t=>rw [hs] at h;obtain ⟨l,h,hC⟩:=h;rw [h];exact ⟨_,rfl,hC.iff λy=>⟨λh=>⟨rfl,s',rfl,h⟩,λ⟨_,s2,h2,h3⟩=>by obtain rfl:=Option.some.inj h2;exact h3⟩⟩
theorem Ul {c:Aa} {s:Ac} {x:Ae} (hc:Rt c) (hf:Fit c s):∃ l,m75 FF c s x=some ((aft c s x).1,l,(aft c s x).2):=
 let ⟨l,h,_⟩:=m75_cs hc hf;⟨l,h⟩
def AJ (c:Aa) (i:Nat):Bool:=((c.Signals[i]?).map (·.Init)).getD false
def ini (c:Aa):Ac:=⟨List.replicate (cA c) 0,List.replicate (cA c) false,List.replicate c.Inputs.length false,(List.range c.Signals.length).map (AJ c),List.replicate c.Signals.length 0⟩
theorem Pb {c:Aa} (hc:Rt c):Fit c (ini c):=by
 refine ⟨by simp [ini],by simp [ini],by simp [ini],by simp [ini],by simp [ini],?_,?_,?_⟩
 ·intro a ha;have:=List.eq_of_mem_replicate ha;omega
 ·intro a ha;have:=List.eq_of_mem_replicate ha;omega
 ·intro i x t v hx ht hv;have hi:=(CT.1 hx).1;have ht':(List.replicate c.Signals.length (0:Int))[i]?=some t:=ht;have hv':((List.range c.Signals.length).map (AJ c))[i]?=some v:=hv;rw [FO,if_pos hi] at ht';rw [C8,D4 hi] at hv';have ht':=Option.some.inj ht';have hv':=Option.some.inj hv';subst ht';refine ⟨λ_=>rfl,λhk=>?_⟩;have:=hc.ini x (CV hx) hk;unfold AJ at hv';rw [hx] at hv';have hv':x.Init=v:=hv';rw [← hv',this];rfl
theorem Km {c:Aa} (hb:Bd_ c):∃ z,Gw c FF ((0:Int),List.replicate c.Signals.length false)=some (z,(List.range c.Signals.length).map (AJ c)):=by
 have h3:=hb.s;obtain ⟨v,hv,hl⟩:=Pc (L:=Gw c) (mk:=λi (v:GX)=>((i:Int),v)) (N:=c.Signals.length) (I:=λi v=>v=upd (AJ c) (List.replicate c.Signals.length false) i) (λn i v hi hI=>by
  subst hI;refine ⟨_,rfl,?_⟩;have hg:(upd (AJ c) (List.replicate c.Signals.length false) i)[i]?=some false:=by rw [Bs (C5 i),FO,if_pos hi]
  rw [Gw];dsimp only;rw [Ak,dt_ hi,ct_,Aj,gE_ hi,ob_,Aj,hg,ob_,An om_,DQ,Cr (by simpa using hi) (by unfold AJ;rw [gE_ hi];rfl)]) (λn v _=>by
  rw [Gw];dsimp only;rw [Ak,df_ om_,cf_]) FF 0 _ om_ uF Bp.symm
 subst hv;try dsimp only at hl
 rw [n0] at hl;rw [hl];have:=Cu (f:=AJ c) (l:=List.replicate c.Signals.length false);rw [List.length_replicate] at this;rw [this];exact ⟨_,rfl⟩
theorem Vx {c:Aa}:∀ {n z},Lp c n z=Gw c n z:=by
 intro n
 induction n with
 | zero=>intro z;rfl
 | succ n ih=>intro z;rw [Lp,Gw];simp only [ih]
theorem Ez {α:Type} {z:α} {n:Nat} (h:n<=1000):mks z (n:Int)=some (List.replicate n z):=by
 unfold mks;rw [if_pos om_,DQ]
theorem A5 {c:Aa} (hc:Rc c):m94 FF c=some (As c (ini c),0):=by
 have hb:=hc.rt.bd;have h1:=hb.a';have h2:=hb.i;have h3:=hb.s;obtain ⟨z,hz⟩:=Km hb;unfold m94;rw [hc.ck,ob_,zf_,cf_,hb.a,Ez om_,ob_,Ez om_,ob_,Ez om_,ob_,Ez om_,ob_,Ez om_,ob_,hz,ob_];dsimp only;rw [show (⟨List.replicate (cA c) 0,List.replicate (cA c) false,List.replicate c.Inputs.length false,(List.range c.Signals.length).map (AJ c),List.replicate c.Signals.length 0⟩:Ac)=ini c from rfl,Za hc.rt hc.fw (Pb hc.rt)];rfl
theorem Zl {c:Aa} (hc:Rt c):MG FF c=some (As c (ini c)):=by
 have hb:=hc.bd;have h1:=hb.a';have h2:=hb.i;have h3:=hb.s;obtain ⟨z,hz⟩:=Km hb;unfold MG;rw [hb.a,Ez om_,ob_,Ez om_,ob_,Ez om_,ob_,Ez om_,ob_,Ez om_,ob_,Vx,hz,ob_];dsimp only;rw [show (⟨List.replicate (cA c) 0,List.replicate (cA c) false,List.replicate c.Inputs.length false,(List.range c.Signals.length).map (AJ c),List.replicate c.Signals.length 0⟩:Ac)=ini c from rfl,Rm hc (Pb hc)];rfl
theorem BC {c:Aa} (hc:Rc c):match rst c 65 (As c (ini c)) with
  | some t=>∃ l,m51 FF c=some (t,0,l)/\l.length<=200000/\Cs l (Ub c 65 (As c (ini c)))
  | none=>m51 FF c=some (z0,21,[]):=by
 have h:=A4 hc (Ej (Pb hc.rt));unfold m51;rw [A5 hc,ob_,zf_,cf_];dsimp only;cases hs:rst c 65 (As c (ini c)) with
 | none=>rw [hs] at h;rw [h];rfl
 | some t=>rw [hs] at h;obtain ⟨l,h,hl,hC⟩:=h;rw [h];exact ⟨l,rfl,hl,hC⟩
def bgs (c:Aa):GX->Nat->Ac->Option Ac
 | [],_,s=>some s
 | b :: l,i,s=>if b=true then (match rst c 65 { s with Inputs:=s.Inputs.set i true } with
   | some t=>bgs c l (i + 1) t
   | none=>none) else bgs c l (i + 1) s
theorem Hy {c:Aa} {held:GX} (hl:held.length<=1000) {e:Int} (he:e≠0) (s:Ac):∀ (n i:Nat),i<=held.length->held.length - i < n->∃ z,Hb FF c held n (e,(i:Int),s)=some (e,z,s)
 | 0,i,_,h=>by omega
 | n + 1,i,h1,h2=>by
  unfold Hb;dsimp only;by_cases hi:i < held.length
  ·rw [Ak,dt_ hi,ct_,Aj,gE_ hi,ob_,show (e == 0)=false by simpa using he,EU,cf_,ob_,An om_];exact Hy hl he s n (i + 1) om_ om_
  ·rw [Ak,df_ hi,cf_];exact ⟨_,rfl⟩
theorem Pp {c:Aa} (hc:Rc c) {held:GX} (hhl:held.length=c.Inputs.length):∀ (l:GX) (i n:Nat) (s:Ac),held.drop i=l->l.length < n->Fit c s->Qt c s->(∀ j,i<=j->j < c.Inputs.length->s.Inputs[j]?=some false) ->
  match bgs c l i s with
  | some t=>(∃ z,Hb FF c held n ((0:Int),(i:Int),s)=some (0,z,t))/\(∃ z,Dv FF c held n (true,(i:Int),s)=some (true,z,t))/\Fit c t/\Qt c t
  | none=>(∃ z t,Hb FF c held n ((0:Int),(i:Int),s)=some (21,z,t))/\∃ z t,Dv FF c held n (true,(i:Int),s)=some (false,z,t)
 | [],i,0,s,_,h,_,_,_=>by simp at h
 | [],i,n + 1,s,hd,_,hf,hq,_=>by
  have hi:held.length<=i:=by simpa using hd
  unfold bgs Hb Dv;dsimp only;rw [Ak,df_ om_,cf_,EU,cf_];exact ⟨⟨_,rfl⟩,⟨_,rfl⟩,hf,hq⟩
 | b :: l,i,0,s,_,h,_,_,_=>by simp at h
 | b :: l,i,n + 1,s,hd,hn,hf,hq,hI=>by
  have hb:=hc.rt.bd;have h2:=hb.i;have hi:i < held.length:=by
   rcases D3 i held.length with h | h
   ·exact h
   ·rw [CW h] at hd;cases hd
  rw [C2 hi] at hd;obtain ⟨hb1,hd1⟩:=List.cons.inj hd;have hx:held[i]?=some b:=by rw [gE_ hi,hb1]
  have hin:=hI i (C5 i) om_;unfold bgs Hb Dv;dsimp only;rw [Ak,dt_ hi,ct_,EE,ct_,Aj,hx,ob_,ob_,show ((0:Int) == 0)=true by rfl,EE,An om_];simp only [EN] at hn;cases b with
  | false=>
   rw [if_neg smp_,cf_,cf_,ob_,ob_];exact Pp hc hhl l (i + 1) n s hd1 om_ hf hq (λj h1 h2=>hI j om_ h2)
  | true=>
   have ha:act s ⟨2,(i:Int),true⟩=some { s with Inputs:=s.Inputs.set i true }:=by
    unfold act;dsimp only;rw [if_neg om_,if_neg om_,Aj,hin];rfl
   have haf:aft c s ⟨2,(i:Int),true⟩=match rst c 65 { s with Inputs:=s.Inputs.set i true } with | none=>(z0,21) | some t=>(t,0):=by
    unfold aft;rw [if_neg smp_,ha]
    all_goals (dsimp only; cases rst c 65 { s with Inputs:=s.Inputs.set i true } <;> rfl)
   obtain ⟨l1,e1⟩:=Up (x:=⟨2,(i:Int),true⟩) hc hf hq;obtain ⟨l2,e2⟩:=Ul (x:=⟨2,(i:Int),true⟩) hc.rt hf;rw [if_pos rfl,ct_,ct_,e1,e2,ob_,ob_,ob_,ob_];rw [haf];cases hs:rst c 65 { s with Inputs:=s.Inputs.set i true } with
   | none=>
    dsimp only;refine ⟨?_,?_⟩
    ·obtain ⟨z,hz⟩:=Hy (c:=c) (held:=held) om_ (show (21:Int)≠0 by omega) z0 n (i + 1) om_ (by
      have:held.length - (i + 1)=l.length:=by rw [← hd1,List.length_drop]
      omega)
     exact ⟨_,_,hz⟩
    ·rw [show ((21:Int) == 0)=false by rfl];cases n with
     | zero=>omega
     | succ n=>
      unfold Dv;dsimp only;rw [Bool.and_false,cf_];exact ⟨_,_,rfl⟩
   | some t=>
    dsimp only;rw [show ((0:Int) == 0)=true by rfl];obtain ⟨f1,f2,f3⟩:=Ua (Ps hf ha) hs;refine Pp hc hhl l (i + 1) n t hd1 om_ f1 f3 (λj h1 h2=>?_);rw [f2];dsimp only;rw [D9 om_];exact hI j om_ h2
def AB (c:Aa) (held:GX):Ac×Int:=match rst c 65 (As c (ini c)) with
 | none=>(z0,21)
 | some s=>match bgs c held 0 s with
  | none=>(z0,21)
  | some t=>(t,0)
theorem BW {c:Aa} (hw:Fw c) (hs16:c.Signals.length<=16\/64 < c.Signals.length) (held:GX) :
  (∃ e,e≠0/\m20 FF c held=some (z0,e)/\m27 FF c held=some (z0,e)/\(Rc c->held.length≠c.Inputs.length))\/(Rc c/\held.length=c.Inputs.length/\m20 FF c held=some (AB c held)/\m27 FF c held=some (AB c held)/\((AB c held).2=0->Fit c (AB c held).1/\Qt c (AB c held).1)):=by
 obtain ⟨e,h1,h2,h3⟩:=BT hw hs16;unfold m20 m27 m67;rw [h1,h2,ob_,ob_];by_cases he:e=0
 ·subst he;have hc:Rc c:=⟨h3 rfl,hw,h1,h2⟩;have hb:=hc.rt.bd;have hi:=hb.i;rw [zf_,cf_,cf_];by_cases hl:held.length=c.Inputs.length
  ·right;refine ⟨hc,hl,?_⟩;rw [show ((held.length:Int) != (c.Inputs.length:Int))=false by simp;omega,cf_,cf_,ob_,zf_,cf_];unfold m68 AB;have hf:=Ej (Pb hc.rt);have h71:=BC hc;have h156:=Sa hc.rt hf;rw [Zl hc.rt,ob_];cases hr:rst c 65 (As c (ini c)) with
   | none=>
    rw [hr] at h71 h156;obtain ⟨a,l,h156⟩:=h156;rw [h71,h156,ob_,ob_];dsimp only;obtain ⟨z,hz⟩:=Hy (c:=c) (held:=held) om_ (show (21:Int)≠0 by omega) z0 FF 0 om_ uF;rw [n0] at hz;rw [hz,ob_];have:Dv FF c held FF (false,(0:Int),a)=some (false,0,a):=by
     show Dv FF c held (99999 + 1) _=_;unfold Dv;dsimp only;rw [Bool.and_false,cf_]
    rw [this];exact ⟨rfl,rfl,λh=>by cases h⟩
   | some s=>
    rw [hr] at h71 h156;obtain ⟨l1,h71,_⟩:=h71;obtain ⟨l2,h156,_⟩:=h156;obtain ⟨f1,f2,f3⟩:=Ua hf hr;rw [h71,h156,ob_,ob_];dsimp only;have hbs:=Pp hc hl held 0 FF s smp_ uF f1 f3 (λj _ hj=>by
     rw [f2];show (List.replicate c.Inputs.length false)[j]?=some false;rw [FO,if_pos hj])
    rw [n0] at hbs;cases hg:bgs c held 0 s with
    | none=>
     rw [hg] at hbs;obtain ⟨⟨z,t,a1⟩,⟨z',t',a2⟩⟩:=hbs;rw [a1,a2];exact ⟨rfl,rfl,λh=>by cases h⟩
    | some t=>
     rw [hg] at hbs;obtain ⟨⟨z,a1⟩,⟨z',a2⟩,a3,a4⟩:=hbs;rw [a1,a2];exact ⟨rfl,rfl,λ_=>⟨a3,a4⟩⟩
  ·left;rw [show ((held.length:Int) != (c.Inputs.length:Int))=true by simp;omega,ct_,ct_];exact ⟨8,by omega,rfl,rfl,λ_=>hl⟩
 ·left;rw [show (e != 0)=true by simpa using he,ct_,ct_];refine ⟨e,he,rfl,?_,λhc=>absurd (Option.some.inj (h1.symm.trans hc.ck)) he⟩;rw [ob_,show (e != 0)=true by simpa using he,ct_]
end Go.Pn
namespace Go.Pn
open Go
theorem forG {S σ R:Type} {L:Nat->S->R} {mk:Nat->σ->S} {N:Nat} {I:Nat->σ->Prop} {E:σ->R}
  (h:∀ (n i:Nat) s,i < N->I i s->∃ s',I (i + 1) s'/\L (n + 1) (mk i s)=L n (mk (i + 1) s')) (h':∀ (n:Nat) s,I N s->L (n + 1) (mk N s)=E s) :
  ∀ (n i:Nat) s,i<=N->N - i < n->I i s->∃ s',I N s'/\L n (mk i s)=E s'
 | 0,i,_,_,h,_=>by omega
 | n + 1,i,s,h1,h2,hI=>by
  by_cases hi:i < N
  ·obtain ⟨s',h3,h4⟩:=h n i s hi hI;rw [h4];exact forG h h' n (i + 1) s' om_ om_ h3
  ·obtain rfl:i=N:=by omega
   exact ⟨s,hI,h' n s hI⟩
theorem Jq {x:Ae} {l:List Ae} (h:l.length<=100000):Dg x (l,0)=some (true,(l ++ [x],0)):=by
 unfold Dg;dsimp only;rw [Ho so_];rfl
theorem Yq {s:Ac} (h:Smst s 1000):J8 FF s=some (Cf s):=by
 have h1:=h.e;have h2:=h.t;unfold J8 J7;obtain ⟨v,hv,hl⟩:=forG (L:=Gb Dg s) (mk:=λi (v:List Ae)=>((i:Int),(v,0))) (N:=s.Ends.length) (I:=λi v=>v=(List.range i).filterMap (Pu s)) (E:=λv=>some (.brk ((s.Ends.length:Int),(v,0)))) (λn i v hi hI=>by
  subst hI;refine ⟨_,rfl,?_⟩;have hle:=Ce (g:=Pu s) (n:=i);have hg:s.Ends.getD i 0=s.Ends[i]:=by rw [C4,gE_ hi];rfl
  rw [Gb];dsimp only;rw [Ak,dt_ hi,ct_,Aj,gE_ hi,ob_,An om_,Jz];have hp:Pu s i=if s.Ends[i]=1\/s.Ends[i]=3 then some ⟨0,(i:Int),false⟩ else none:=by unfold Pu;rw [hg]
  rw [hp];by_cases a1:s.Ends[i]=1\/s.Ends[i]=3
  ·rw [show ((s.Ends[i] == 1) || (s.Ends[i] == 3))=true by simpa using a1,if_pos a1,ct_,Jq om_];rfl
  ·rw [show ((s.Ends[i] == 1) || (s.Ends[i] == 3))=false by simpa using a1,if_neg a1,cf_,cf_,D2]) (λn v _=>by
  rw [Gb];dsimp only;rw [Ak,df_ om_,cf_]) FF 0 [] om_ uF rfl
 subst hv;try dsimp only at hl
 rw [n0] at hl;rw [hl,ob_];have hle1:=Ce (g:=Pu s) (n:=s.Ends.length);obtain ⟨v,hv,hl⟩:=forG (L:=Ga Dg s) (mk:=λi (v:List Ae)=>((i:Int),(v,0))) (N:=s.Timers.length) (I:=λi v=>v=(List.range s.Ends.length).filterMap (Pu s) ++ (List.range i).filterMap (Wb s)) (E:=λv=>some (.brk ((s.Timers.length:Int),(v,0)))) (λn i v hi hI=>by
  subst hI;refine ⟨_,rfl,?_⟩;have hle:=Ce (g:=Wb s) (n:=i);have hg:s.Timers.getD i 0=s.Timers[i]:=by rw [C4,gE_ hi];rfl
  rw [Ga];dsimp only;rw [Ak,dt_ hi,ct_,Aj,gE_ hi,ob_,An om_,Jz];have hp:Wb s i=if s.Timers[i]=1 then some ⟨1,(i:Int),false⟩ else none:=by unfold Wb;rw [hg]
  rw [hp];by_cases a1:s.Timers[i]=1
  ·rw [show (s.Timers[i] == 1)=true by simpa using a1,if_pos a1,ct_,Jq (by rw [CO];omega),← DJ];rfl
  ·rw [show (s.Timers[i] == 1)=false by simpa using a1,if_neg a1,cf_,cf_,D2]) (λn v _=>by
  rw [Ga];dsimp only;rw [Ak,df_ om_,cf_]) FF 0 ((List.range s.Ends.length).filterMap (Pu s)) om_ uF smp_
 subst hv;try dsimp only at hl
 rw [n0] at hl;dsimp only;rw [hl];rfl
theorem A6 {c:Aa} {s:Ac} (hc:Rc c) (hf:Fit c s) (hq:Qt c s):m76 FF c s=some (0,Cf s):=by
 unfold m76 J6 J9;rw [Ui hc,(Uf hc.rt.bd).2 ⟨hf,hq⟩,ob_,zf_,cf_,ob_,Yq (hf.sm hc.rt.bd)];rfl
def nb (l:GW):List UInt8:=l.flatMap λn=>[UInt8.ofNat (48 + n.toNat),32]
def fb (l:GX):List UInt8:=l.map λv=>if v=true then 116 else 102
theorem Vl (a b:G0):(a ++ b).data.toList=a.data.toList ++ b.data.toList:=by
 rw [ByteArray.data_append,Array.toList_append]
theorem AE (a:G0) (b:UInt8):(a.push b).data.toList=a.data.toList ++ [b]:=by
 rw [ByteArray.data_push,Array.toList_push]
theorem Nl {n:Int} (h0:-9223372036854775808<=n) (h1:n<=9223372036854775807):m10060 FF n=some (⟨(Lib.itoa n).toArray⟩:G0):=by
 unfold m10060 m10100 m10141;rw [show ((10:Int) == 10)=true by rfl,dt_ h0,dt_ h1];rfl
theorem Tj {n:Int} (h0:0<=n) (h:n < 10):m10060 FF n=some (⟨#[UInt8.ofNat (48 + n.toNat)]⟩:G0):=by
 rw [Nl om_ om_];unfold Lib.itoa;rw [if_neg om_,Lib.decDigits,dif_pos om_]
theorem nb_len {l:GW}:(nb l).length=2 * l.length:=by
 induction l with
 | nil=>rfl
 | cons a l ih=>unfold nb at ih ⊢;rw [FQ,CO,ih];simp;omega
theorem Lt {l:GW} (hl:l.length<=1000) (h:∀ a∈l,0<=a/\a < 10):∃ r,m10058 FF l=some r/\r.data.toList=nb l:=by
 unfold m10058;obtain ⟨v,hv,hh⟩:=Pc (L:=Bh FF l) (mk:=λi (v:G0)=>((i:Int),v)) (N:=l.length) (I:=λi v=>v.data.toList=nb (l.take i)) (λn i v hi hI=>by
  have hb:=h l[i] (CS hi);have hsz:v.size=2 * i:=by rw [Au,hI,nb_len,D0];omega
  have hxs:(⟨#[UInt8.ofNat (48 + (l[i]).toNat)]⟩:G0).size=1:=rfl;rw [Bh];dsimp only;rw [Ak,dt_ hi,ct_,Aj,gE_ hi,ob_,Tj hb.1 hb.2,ob_];unfold m59 m61;rw [if_pos om_,ob_];have hs2:(v ++ (⟨#[UInt8.ofNat (48 + (l[i]).toNat)]⟩:G0)).size=2 * i + 1:=by
   rw [Au,Vl,CO,← Au,hsz];rfl
  rw [if_pos om_,ob_,An om_];refine ⟨_,?_,rfl⟩;rw [AE,Vl,hI,EX,gE_ hi];unfold nb;rw [List.flatMap_append];simp) (λn v _=>by
  rw [Bh];dsimp only;rw [Ak,df_ om_,cf_]) FF 0 ByteArray.empty om_ uF rfl
 try dsimp only at hh
 rw [n0] at hh;rw [hh];rw [DY om_] at hv;exact ⟨v,rfl,hv⟩
theorem Nm {l:GW} (hl:l.length<=1000) (h:∀ a∈l,-9223372036854775808<=a/\a<=9223372036854775807):∃ r,m10058 FF l=some r:=by
 unfold m10058;obtain ⟨v,hv,hh⟩:=Pc (L:=Bh FF l) (mk:=λi (v:G0)=>((i:Int),v)) (N:=l.length) (I:=λi v=>v.size<=22 * i) (λn i v hi hI=>by
  have hb:=h l[i] (CS hi);have hxs:(⟨(Lib.itoa l[i]).toArray⟩:G0).size<=21:=Lib.itoa_length_le _ hb.1 hb.2;rw [Bh];dsimp only;rw [Ak,dt_ hi,ct_,Aj,gE_ hi,ob_,Nl hb.1 hb.2,ob_];unfold m59 m61;rw [if_pos om_,ob_];have hs2:(v ++ (⟨(Lib.itoa l[i]).toArray⟩:G0)).size=v.size + (⟨(Lib.itoa l[i]).toArray⟩:G0).size:=by
   rw [Au,Vl,CO,← Au,← Au]
  rw [if_pos om_,ob_,An om_];refine ⟨_,?_,rfl⟩;rw [Au,AE,CO,← Au,hs2];show v.size + _ + 1<=_;omega) (λn v _=>by
  rw [Bh];dsimp only;rw [Ak,df_ om_,cf_]) FF 0 ByteArray.empty om_ uF (C5 _)
 try dsimp only at hh
 rw [n0] at hh;rw [hh];exact ⟨v,rfl⟩
theorem Em {l:GX} (hl:l.length<=1000):∃ r,m63 FF l=some r/\r.data.toList=fb l:=by
 unfold m63;obtain ⟨v,hv,hh⟩:=Pc (L:=Mu FF l) (mk:=λi (v:G0)=>((i:Int),v)) (N:=l.length) (I:=λi v=>v.data.toList=fb (l.take i)) (λn i v hi hI=>by
  have hsz:v.size=i:=by rw [Au,hI];unfold fb;rw [EA,D0];omega
  have key:∃ r:G0,((m64 FF l[i]).bind λx5=>ssl x5 0 (1:Int))=some r/\r.data.toList=[if l[i]=true then 116 else 102]:=by
   cases l[i]
   ·exact ⟨⟨#[102]⟩,by kernel_rfl,rfl⟩
   ·exact ⟨⟨#[116]⟩,by kernel_rfl,rfl⟩
  obtain ⟨r,hr,hr2⟩:=key;obtain ⟨x5,h5,h6⟩:=D6.1 hr;have hrs:r.size=1:=by rw [Au,hr2];rfl
  rw [Mu];dsimp only;rw [Ak,dt_ hi,ct_,Aj,gE_ hi,ob_,h5,ob_,h6,ob_];unfold m59;rw [if_pos om_,ob_,An om_];refine ⟨_,?_,rfl⟩;rw [Vl,hI,hr2,EX,gE_ hi];unfold fb;rw [List.map_append];simp) (λn v _=>by
  rw [Mu];dsimp only;rw [Ak,df_ om_,cf_]) FF 0 ByteArray.empty om_ uF rfl
 try dsimp only at hh
 rw [n0] at hh;rw [hh];rw [DY om_] at hv;exact ⟨v,rfl,hv⟩
theorem Wo:∀ {l l':GW},(∀ a∈l,0<=a/\a < 10)->(∀ a∈l',0<=a/\a < 10)->nb l=nb l'->l=l'
 | [],[],_,_,_=>rfl
 | [],b :: l',_,_,h=>by unfold nb at h;simp at h
 | a :: l,[],_,_,h=>by unfold nb at h;simp at h
 | a :: l,b :: l',h1,h2,h=>by
  unfold nb at h;rw [FQ,FQ] at h;have h:=List.cons.inj h;have ha:=h1 a smp_;have hb:=h2 b smp_;have he:a=b:=by
   have:=congrArg UInt8.toNat h.1;rw [UInt8.toNat_ofNat',UInt8.toNat_ofNat'] at this;omega
  have ht:=(List.cons.inj h.2).2;rw [he,Wo (λx hx=>h1 x (by simp [hx])) (λx hx=>h2 x (by simp [hx])) ht]
theorem Vg:∀ {l l':GX},fb l=fb l'->l=l'
 | [],[],_=>rfl
 | [],b :: l',h=>by unfold fb at h;simp at h
 | a :: l,[],h=>by unfold fb at h;simp at h
 | a :: l,b :: l',h=>by
  unfold fb at h;rw [CZ,CZ] at h;have h:=List.cons.inj h;have he:a=b:=by
   cases a <;> cases b <;> first | rfl | (have:=h.1; revert this; decide)
  rw [he,Vg h.2]
theorem Mc {a b:Key}:Dl a b=true↔a=b:=by
 obtain ⟨⟨⟨a1⟩⟩,⟨⟨a2⟩⟩,⟨⟨a3⟩⟩,⟨⟨a4⟩⟩,⟨⟨a5⟩⟩⟩:=a;obtain ⟨⟨⟨b1⟩⟩,⟨⟨b2⟩⟩,⟨⟨b3⟩⟩,⟨⟨b4⟩⟩,⟨⟨b5⟩⟩⟩:=b;simp [Dl]
theorem Lu {c:Aa} {s:Ac} (hb:Bd_ c) (h:Fit c s):∃ k,m10025 FF s=some k/\k.ends.data.toList=nb s.Ends/\k.valves.data.toList=fb s.Valves/\k.inputs.data.toList=fb s.Inputs/\k.values.data.toList=fb s.Values/\k.timers.data.toList=nb s.Timers:=by
 have hs:=h.sm hb;obtain ⟨k1,e1,d1⟩:=Lt hs.e (λa ha=>by have:=h.ee a ha;omega);obtain ⟨k2,e2,d2⟩:=Em hs.v;obtain ⟨k3,e3,d3⟩:=Em hs.i;obtain ⟨k4,e4,d4⟩:=Em hs.x;obtain ⟨k5,e5,d5⟩:=Lt hs.t (λa ha=>by have:=h.tt a ha;omega);unfold m10025;rw [e1,e2,e3,e4,e5];exact ⟨_,rfl,d1,d2,d3,d4,d5⟩
theorem key_inj {c:Aa} {s t:Ac} (hb:Bd_ c) (hs:Fit c s) (ht:Fit c t) {k:Key} (h1:m10025 FF s=some k) (h2:m10025 FF t=some k):s=t:=by
 obtain ⟨a,ha,a1,a2,a3,a4,a5⟩:=Lu hb hs;obtain ⟨b,hb',b1,b2,b3,b4,b5⟩:=Lu hb ht;rw [h1] at ha;rw [h2] at hb';obtain rfl:=Option.some.inj ha;obtain rfl:=Option.some.inj hb';have e1:=Wo (λa ha=>by have:=hs.ee a ha;omega) (λa ha=>by have:=ht.ee a ha;omega) (a1.symm.trans b1);have e5:=Wo (λa ha=>by have:=hs.tt a ha;omega) (λa ha=>by have:=ht.tt a ha;omega) (a5.symm.trans b5);have e2:=Vg (a2.symm.trans b2);have e3:=Vg (a3.symm.trans b3);have e4:=Vg (a4.symm.trans b4);cases s;cases t
 simp_all
theorem Vy {s:Ac} (hs:Smst s 200) (he:∀ a∈s.Ends,-9223372036854775808<=a/\a<=9223372036854775807) (ht:∀ a∈s.Timers,-9223372036854775808<=a/\a<=9223372036854775807):∃ k,m10025 FF s=some k:=by
 obtain ⟨s1,s2,s3,s4,s5⟩:=hs;obtain ⟨k1,e1⟩:=Nm (l:=s.Ends) om_ he;obtain ⟨k2,e2,_⟩:=Em (l:=s.Valves) om_;obtain ⟨k3,e3,_⟩:=Em (l:=s.Inputs) om_;obtain ⟨k4,e4,_⟩:=Em (l:=s.Values) om_;obtain ⟨k5,e5⟩:=Nm (l:=s.Timers) om_ ht;unfold m10025;rw [e1,e2,e3,e4,e5];exact ⟨_,rfl⟩
theorem A0 {κ ν:Type} [DecidableEq κ] {eqb:κ->κ->Bool} (he:∀ a b,eqb a b=true↔a=b) {m:List (κ×ν)} {k j:κ} {y:ν}:mat eqb (Jl eqb m k y) j=if eqb j k=true then some y else mat eqb m j:=by
 induction m with
 | nil=>
  show mat eqb [(k,y)] j=_;rw [Ba]
 | cons p m ih=>
  obtain ⟨k',z⟩:=p;rw [Kl,Ba];by_cases h:eqb k k'=true
  ·rw [if_pos h,Ba,← (he _ _).1 h];by_cases h2:eqb j k=true
   ·rw [if_pos h2,if_pos h2]
   ·rw [if_neg h2,if_neg h2,if_neg h2]
  ·rw [if_neg h,Ba,ih];by_cases h2:eqb j k'=true
   ·have h3:¬ eqb j k=true:=λe=>h (by rw [← (he _ _).1 e];exact h2);rw [if_pos h2,if_neg h3,if_pos h2]
   ·rw [if_neg h2,if_neg h2]
theorem CK {c:Aa} {s:Ac} {x:Ae} (hf:Fit c s) (h:(aft c s x).2=0):Fit c (aft c s x).1/\Qt c (aft c s x).1:=by
 unfold aft at h ⊢;by_cases hk:x.Kind < 0\/3<=x.Kind
 ·rw [if_pos hk] at h;cases h
 ·rw [if_neg hk] at h ⊢;cases ha:act s x with
  | none=>rw [ha] at h;cases h
  | some s'=>
   rw [ha] at h;dsimp only at h ⊢;cases ht:rst c 65 s' with
   | none=>rw [ht] at h;cases h
   | some t=>
    have:=Ua (Ps hf ha) ht;exact ⟨this.1,this.2.2⟩
theorem Wl {S:List Ac} {t:Ac} (h:¬ plc S t < 0):∃ j,j < S.length/\plc S t=(j:Int)/\S.findIdx? (λx=>sst t x)=some j:=by
 unfold plc at h ⊢;cases hf:S.findIdx? (λx=>sst t x) with
 | none=>rw [hf] at h;simp at h
 | some j=>exact ⟨j,(DC.1 hf).1,rfl,rfl⟩
theorem plc_neg {S:List Ac} {t:Ac} (h:plc S t < 0):S.findIdx? (λx=>sst t x)=none:=by
 unfold plc at h;cases hf:S.findIdx? (λx=>sst t x) with
 | none=>rfl
 | some j=>rw [hf] at h;simp at h;omega
structure Rwm (c:Aa) (S:List Ac) (s:Ac) (mv:GW):Prop where
 len:mv.length=(Cf s).length
 ev:∀ (j:Nat) x,(Cf s)[j]?=some x->(aft c s x).2=0/\∃ k:Nat,mv[j]?=some (k:Int)/\S[k]?=some (aft c s x).1
theorem Jw {c:Aa} {s:Ac} (hb:Bd_ c) (h:Fit c s):(Cf s).length<=22:=by
 have h1:=hb.a';have h3:=hb.s;have a:=Ce (g:=Pu s) (n:=s.Ends.length);have b:=Ce (g:=Wb s) (n:=s.Timers.length);have he:=h.e;have ht:=h.t;unfold Cf;rw [CO];omega
theorem Sy {m:List (Key×Bool)} {k j:Key} {y:Bool}:mat Dl (Jl Dl m k y) j=if Dl j k=true then some y else mat Dl m j:=by
 classical
 exact A0 (λa b=>Mc)
theorem B8 {α:Type} {l:List α} {q:α->Bool}:(∃ j,l.findIdx? q=some j/\l.any q=true)\/(l.findIdx? q=none/\l.any q=false):=by
 cases h:l.findIdx? q with
 | some j=>
  left;obtain ⟨h1,h2,_⟩:=DC.1 h;exact ⟨j,rfl,DA.2 ⟨_,CS h1,h2⟩⟩
 | none=>
  right;rw [DN] at h;exact ⟨rfl,D1.2 λx hx=>by simpa using h x hx⟩
theorem Zk {c:Aa} {s:Ac} (hb:Bd_ c):MN FF c s=some (Pw c s):=by
 have h1:=hb.a6;have h2:=hb.i;have h3:=hb.s;unfold MN Pw;rw [Ux];by_cases hl:(s.Ends.length:Int)≠c.Actuators\/(s.Valves.length:Int)≠c.Actuators\/s.Inputs.length≠c.Inputs.length\/s.Values.length≠c.Signals.length\/s.Timers.length≠c.Signals.length
 ·rw [if_pos hl,dt_ hl];rfl
 ·rw [if_neg hl,df_ hl,cf_];have hl:(s.Ends.length:Int)=c.Actuators/\(s.Valves.length:Int)=c.Actuators/\s.Inputs.length=c.Inputs.length/\s.Values.length=c.Signals.length/\s.Timers.length=c.Signals.length:=by omega
  have e1:=Tt (L:=Ou s) (xs:=s.Ends) (p:=λz x=>(bif decide (x < 0) then some true else (idx s.Ends z).bind λx4=>some (decide (x4>=(4:Int))))) (q:=λx=>decide (x < 0) || decide (x>=4)) (r:=λ_=>(1:Int)) (λ_ _=>rfl) om_ (λi x hx=>by
   rw [Aj,hx]; cases decide (x < 0) <;> rfl) FF 0 om_ (by unfold FF; omega)
  have e2:=Tt (L:=Oq s) (xs:=s.Timers) (p:=λz x=>(bif decide (x < 0) then some true else (idx s.Timers z).bind λx4=>some (decide (x4>=(3:Int))))) (q:=λx=>decide (x < 0) || decide (x>=3)) (r:=λ_=>(1:Int)) (λ_ _=>rfl) om_ (λi x hx=>by
   rw [Aj,hx]; cases decide (x < 0) <;> rfl) FF 0 om_ (by unfold FF; omega)
  rw [n0,C6] at e1 e2;rcases B8 (l:=s.Ends) (q:=λx=>decide (x < 0) || decide (x>=4)) with ⟨j,hj,ha⟩ | ⟨hj,ha⟩
  ·rw [hj] at e1;rw [e1,if_pos ha];rfl
  ·rw [hj] at e1;rw [e1,if_neg (by rw [ha];simp),ob_];dsimp only;rcases B8 (l:=s.Timers) (q:=λx=>decide (x < 0) || decide (x>=3)) with ⟨j,hj,ha⟩ | ⟨hj,ha⟩
   ·rw [hj] at e2;rw [e2,if_pos ha];rfl
   ·rw [hj] at e2;rw [e2,if_neg (by rw [ha];simp),ob_];dsimp only;have hs:=Sr (L:=Jf c s) (N:=c.Signals.length) (Q:=AP c s) (r:=λ_=>14) (λn i hi=>by
     have e1:c.Signals[i]?=some c.Signals[i]:=gE_ hi;have e2:s.Timers[i]?=some s.Timers[i]:=gE_ om_;have e3:s.Values[i]?=some s.Values[i]:=gE_ om_;rw [Jf];unfold AP;simp only [hl.2.2.2.2,Ak,dt_ hi,ct_,Aj,e1,e2,e3,ob_];rw [An om_];cases hk:(c.Signals[i].Kind == 2) with
     | true=>
      have hk':(c.Signals[i].Kind != 2)=false:=by show (!(c.Signals[i].Kind == 2))=false;rw [hk];rfl
      rw [hk'];cases (s.Values[i] != (s.Timers[i] == 2)) <;> rfl
     | false=>
      have hk':(c.Signals[i].Kind != 2)=true:=by show (!(c.Signals[i].Kind == 2))=true;rw [hk];rfl
      rw [hk'];cases (s.Timers[i] != 0) <;> rfl) (λn=>by
     rw [Jf,hl.2.2.2.2,Ak,df_ om_,cf_]) FF 0 om_ uF
    rw [n0] at hs;rcases hs with ⟨k,_,hk,hq,h⟩ | ⟨h,hn⟩
    ·rw [h,if_pos (DA.2 ⟨k,C3.2 hk,hq⟩)];rfl
    ·rw [h,if_neg ?_]
     ·rfl
     ·intro ha;obtain ⟨k,hk,h4⟩:=DA.1 ha;have:=hn k om_ (C3.1 hk);rw [this] at h4;cases h4
theorem zf:((0:Int) != 0)=false:=rfl
theorem A9 {c:Aa} {s:Ac} (hc:Rc c):m71 FF c s=some (Pw c s):=by
 unfold m71;rw [hc.ck',ob_,zf,cf_,Zk hc.rt.bd];rfl
theorem A8 {c:Aa} {s:Ac} (hc:Rc c) (hf:Fit c s):m72 FF c s=some (match stl c 65 s with | some t=>sst (rnd c t) s | none=>false):=by
 unfold m72;have h:=Rx hc.rt hf;cases e:stl c 65 s with
 | none=>rw [e] at h;obtain ⟨a,l,h⟩:=h;rw [h];rfl
 | some t=>
  rw [e] at h;obtain ⟨l,h,_⟩:=h;rw [h,ob_];dsimp only;rw [ct_,El (n:=1000) (hf.sm hc.rt.bd) uF om_,Jv];rfl
def OkA (c:Aa) (S:List Ac) (s:Ac) (mv:GW) (j:Nat):Prop:=∀ x,(Cf s)[j]?=some x->(aft c s x).2=0/\∃ k:Nat,mv[j]?=some (k:Int)/\S[k]?=some (aft c s x).1
theorem Jm {c:Aa} {sp:Ag} (hc:Rc c) {i:Nat} {s:Ac} {mv:GW} (h2:sp.Moves[i]?=some mv) (hin:∀ k∈mv,0<=k/\k < sp.States.length) (hf:Fit c s) (hq:Qt c s) :
  ∀ (n j:Nat),j<=(Cf s).length->j<=mv.length->(Cf s).length - j < n ->
   ((∃ z,Eo FF c s sp (i:Int) (0,Cf s) n ((j:Int),(j:Int))=some (.brk (z,((Cf s).length:Int))))/\(Cf s).length<=mv.length/\∀ j',j<=j'->OkA c sp.States s mv j')
   \/ ((∃ e z,e≠0/\Eo FF c s sp (i:Int) (0,Cf s) n ((j:Int),(j:Int))=some (.ret (e,z)))/\∃ j',¬ OkA c sp.States s mv j')
 | 0,j,_,_,h=>by omega
 | n + 1,j,hj1,hjm,hj2=>by
  have hb:=hc.rt.bd;have hpl:=Jw hb hf;unfold Eo;dsimp only;by_cases hj:j < (Cf s).length
  ·have hx:=gE_ hj;obtain ⟨q,e1⟩:=Up (x:=(Cf s)[j]) hc hf hq;rw [Ak,dt_ hj,ct_,Aj,hx,ob_,e1,ob_];dsimp only;by_cases a0:(aft c s (Cf s)[j]).2=0
   ·have hfa:=CK hf a0;rw [a0,zf_,cf_];unfold m66;rw [Aj,h2,ob_];by_cases hjl:j < mv.length
    ·have hy:=gE_ hjl;obtain ⟨y0,y1⟩:=hin _ (CS hjl);obtain ⟨k,hk⟩:∃ k:Nat,mv[j]=(k:Int):=⟨mv[j].toNat,by omega⟩;have hkl:k < sp.States.length:=by omega
     have ht:=gE_ hkl;rw [show ((j:Int) == (mv.length:Int))=false by rw [Br,beq_eq_false_iff_ne];omega,cf_,ob_,Aj,hy,ob_,hk,Aj,ht,ob_,Ep (n:=1000) (hfa.1.sm hb) uF om_,ob_,ob_];cases hs:sst (aft c s (Cf s)[j]).1 sp.States[k] with
     | true=>
      have hs':=Dr.1 hs;rw [nt_,cf_,ob_];dsimp only;rw [zf_,cf_,An om_];rcases Jm hc h2 hin hf hq n (j + 1) om_ om_ om_ with ⟨h3,h4,h5⟩ | h3
      ·refine .inl ⟨h3,h4,λj' hj'=>?_⟩;rcases D3 j j' with h | h
       ·exact h5 j' h
       ·obtain rfl:j'=j:=by omega
        intro x hx';rw [hx] at hx';obtain rfl:=Option.some.inj hx';exact ⟨a0,k,by rw [hy,hk],by rw [ht,hs']⟩
      ·exact .inr h3
     | false=>
      rw [nf_,ct_,ob_];dsimp only;rw [show ((15:Int) != 0)=true by rfl,ct_];refine .inr ⟨⟨15,_,by omega,rfl⟩,j,λh=>?_⟩;obtain ⟨_,k',e2,e3⟩:=h _ hx;rw [hy,hk] at e2;have e4:=Option.some.inj e2;obtain rfl:k=k':=by omega
      rw [ht] at e3;rw [Option.some.inj e3,Nw] at hs;cases hs
    ·obtain rfl:j=mv.length:=by omega
     rw [show ((mv.length:Int) == (mv.length:Int))=true by simp,ct_,ob_,ct_,ob_];dsimp only;rw [show ((15:Int) != 0)=true by rfl,ct_];refine .inr ⟨⟨15,_,by omega,rfl⟩,mv.length,λh=>?_⟩;obtain ⟨_,k',e2,_⟩:=h _ hx;rw [DO (C5 _)] at e2;cases e2
   ·rw [show ((aft c s (Cf s)[j]).2 != 0)=true by simpa using a0,ct_];exact .inr ⟨⟨_,_,a0,rfl⟩,j,λh=>a0 (h _ hx).1⟩
  ·rw [Ak,df_ hj,cf_];obtain rfl:j=(Cf s).length:=by omega
   refine .inl ⟨⟨_,rfl⟩,hjm,λj' hj' x hx=>?_⟩;have:=(CT.1 hx).1;omega
def Rw_ (c:Aa) (S:List Ac) (s:Ac) (mv:GW):Prop:=Fit c s/\Qt c s/\Rwm c S s mv
theorem m65_any {c:Aa} {s:Ac} (hc:Rc c):∃ b e,m65 FF c s=some (b,e)/\(((e != 0) || (!b))=false↔Fit c s/\Qt c s):=by
 have hb:=hc.rt.bd;unfold m65;rw [Ef hc,ob_];by_cases h0:Pw c s=0
 ·have hf:=(Bi hb).1 h0;rw [h0,zf,cf_];have h204:=Lq hc hf;cases hs:stl c 65 s with
  | none=>
   rw [hs] at h204;rw [h204];refine ⟨_,_,rfl,⟨λh=>(by cases h),λh=>?_⟩⟩;obtain ⟨_,t,ht,_⟩:=h;rw [hs] at ht;cases ht
  | some t=>
   rw [hs] at h204;obtain ⟨l,h204,_⟩:=h204;obtain ⟨hft,_,_⟩:=Gl hf hs;rw [h204,ob_];dsimp only;rw [show ((0:Int) == 0)=true by rfl,ct_,Ep (n:=1000) ((Kj hft).sm hb) uF om_];refine ⟨_,_,rfl,?_⟩;cases hq:sst (rnd c t) s with
   | true=>exact ⟨λ_=>⟨hf,t,hs,hq⟩,λ_=>rfl⟩
   | false=>
    refine ⟨λh=>(by cases h),λh=>?_⟩;obtain ⟨_,t',ht,hq'⟩:=h;rw [hs] at ht;obtain rfl:=Option.some.inj ht;rw [hq] at hq';cases hq'
 ·have h1:(Pw c s != 0)=true:=by simpa using h0
  rw [h1,ct_];refine ⟨_,_,rfl,⟨λh=>?_,λh=>absurd ((Bi hb).2 h.1) h0⟩⟩;rw [h1] at h;cases h
theorem m26_any {c:Aa} {sp:Ag} (hc:Rc c) {i:Nat} {s:Ac} {mv:GW} (h1:sp.States[i]?=some s) (h2:sp.Moves[i]?=some mv) (hin:∀ k∈mv,0<=k/\k < sp.States.length) :
  ∃ b,m26 FF c sp (i:Int)=some b/\(b=true↔Rw_ c sp.States s mv):=by
 have hb:=hc.rt.bd;obtain ⟨b,e,h3,h4⟩:=m65_any (s:=s) hc;unfold m26;rw [Aj,h1,ob_,h3,ob_];dsimp only;cases hbe:((e != 0) || (!b)) with
 | true=>
  rw [ct_];refine ⟨false,rfl,⟨λh=>(by cases h),λh=>?_⟩⟩;rw [h4.2 ⟨h.1,h.2.1⟩] at hbe;cases hbe
 | false=>
  obtain ⟨hf,hq⟩:=h4.1 hbe;have hpl:=Jw hb hf;rw [cf_,ob_];unfold BG;rw [A6 hc hf hq,ob_];dsimp only;rw [zf_,cf_];have h5:=Jm hc h2 hin hf hq FF 0 om_ om_ uF;rw [n0] at h5;rcases h5 with ⟨⟨z,h5⟩,h6,h7⟩ | ⟨⟨e',z,he,h5⟩,j,hj⟩
  ·rw [h5,ob_];dsimp only;rw [ob_];dsimp only;rw [show ((0:Int) == 0)=true by rfl,ct_,Aj,h2,ob_];refine ⟨_,rfl,?_⟩;rw [Br,beq_iff_eq];exact ⟨λh=>⟨hf,hq,h.symm,λj x hx=>h7 j om_ x hx⟩,λh=>h.2.2.len.symm⟩
  ·rw [h5,ob_];dsimp only;rw [ob_];dsimp only;rw [show (e' == 0)=false by simpa using he,cf_];exact ⟨false,rfl,⟨λh=>(by cases h),λh=>absurd (λx hx=>h.2.2.ev j x hx) hj⟩⟩
def Kx (c:Aa) (S:List Ac) (i:Nat) (m:List (Key×Bool)):Prop:=∀ s,Fit c s->∀ k,m10025 FF s=some k->((mat Dl m k).getD false=true↔∃ j,j < i/\S[j]?=some s)
def Pz_ (c:Aa) (sp:Ag) (i:Nat):Prop:=∀ s mv,sp.States[i]?=some s->sp.Moves[i]?=some mv->Rw_ c sp.States s mv/\∀ j,j < i->sp.States[j]?≠some s
theorem Hf {c:Aa} {sp:Ag} (hc:Rc c) (hml:sp.Moves.length=sp.States.length) (hin:∀ l∈sp.Moves,∀ k∈l,0<=k/\k < sp.States.length) (hle:sp.States.length<=1000) (hky:∀ s∈sp.States,∃ k,m10025 FF s=some k) :
  ∀ (n i:Nat) (m:List (Key×Bool)),i<=sp.States.length->sp.States.length - i < n->(∀ j,j < i->Pz_ c sp j)->Kx c sp.States i m ->
   ((∃ z,Cm FF c sp n ((i:Int),m)=some (.brk z))/\∀ j,j < sp.States.length->Pz_ c sp j)\/(Cm FF c sp n ((i:Int),m)=some (.ret 15)/\∃ j,j < sp.States.length/\¬ Pz_ c sp j)
 | 0,i,_,_,h,_,_=>by omega
 | n + 1,i,m,h1,h2,hP,hK=>by
  have hb:=hc.rt.bd;unfold Cm;dsimp only;by_cases hi:i < sp.States.length
  ·have g1:=gE_ hi;have g2:=gE_ (show i < sp.Moves.length by omega);have him:=CS (show i < sp.Moves.length by omega);obtain ⟨k,hk⟩:=hky _ (CS hi);rw [Ak,dt_ hi,ct_,Aj,g1,ob_,hk,ob_];obtain ⟨b,hb1,hb2⟩:=m26_any hc g1 g2 (hin _ him);cases hx:(mat Dl m k).getD false with
   | true=>
    rw [ct_,ob_,ct_];refine .inr ⟨rfl,i,hi,λh=>?_⟩;obtain ⟨h3,h4⟩:=h _ _ g1 g2;obtain ⟨j,hj,hj2⟩:=(hK _ h3.1 k hk).1 hx;exact h4 j hj hj2
   | false=>
    rw [cf_,hb1,ob_,ob_];cases hbb:b with
    | false=>
     rw [nf_,ct_];refine .inr ⟨rfl,i,hi,λh=>?_⟩;have:=hb2.2 (h _ _ g1 g2).1;rw [hbb] at this;cases this
    | true=>
     have hR:=hb2.1 hbb;rw [nt_,cf_,An om_];have hPi:Pz_ c sp i:=λs mv e1 e2=>by
      rw [g1] at e1;rw [g2] at e2;obtain rfl:=Option.some.inj e1;obtain rfl:=Option.some.inj e2;refine ⟨hR,λj hj hj2=>?_⟩;have:=(hK _ hR.1 k hk).2 ⟨j,hj,hj2⟩;rw [hx] at this;cases this
     refine Hf hc hml hin hle hky n (i + 1) _ om_ om_ (λj hj=>?_) ?_
     ·rcases D3 j i with h | h
      ·exact hP j h
      ·obtain rfl:j=i:=by omega
       exact hPi
     ·intro t ht k' hk';rw [Sy];split
      ·rename_i he;have:=Mc.1 he;subst this;have:=key_inj hb ht hR.1 hk' hk;subst this;exact ⟨λ_=>⟨i,by omega,g1⟩,λ_=>rfl⟩
      ·rename_i he;rw [hK t ht k' hk'];refine ⟨λ⟨j,hj,hj2⟩=>⟨j,by omega,hj2⟩,λ⟨j,hj,hj2⟩=>?_⟩;rcases D3 j i with h | h
       ·exact ⟨j,h,hj2⟩
       ·exfalso;obtain rfl:j=i:=by omega
        rw [g1] at hj2;obtain rfl:=Option.some.inj hj2;rw [hk] at hk';obtain rfl:=Option.some.inj hk';exact he (Mc.2 rfl)
  ·rw [Ak,df_ hi,cf_];exact .inl ⟨⟨_,rfl⟩,λj hj=>hP j om_⟩
theorem Nb {c:Aa} {sp:Ag} (hc:Rc c) {i:Nat} {s:Ac} {mv:GW} (h2:sp.Moves[i]?=some mv) (hin:∀ k∈mv,0<=k/\k < sp.States.length) (hf:Fit c s) (hlen:(Cf s).length=mv.length) :
  ∀ (n j:Nat),j<=(Cf s).length->(Cf s).length - j < n ->
   ((∃ z,Nc FF c sp (i:Int) s (Cf s) n (j:Int)=some (.brk z))/\∀ j',j<=j'->OkA c sp.States s mv j')
   \/ (Nc FF c sp (i:Int) s (Cf s) n (j:Int)=some (.ret false)/\∃ j',¬ OkA c sp.States s mv j')
 | 0,j,_,h=>by omega
 | n + 1,j,hj1,hj2=>by
  have hb:=hc.rt.bd;have hpl:=Jw hb hf;unfold Nc;by_cases hj:j < (Cf s).length
  ·have hx:=gE_ hj;obtain ⟨q,e1⟩:=Ul (x:=(Cf s)[j]) hc.rt hf;rw [Ak,dt_ hj,ct_,Aj,hx,ob_,e1,ob_];dsimp only;by_cases a0:(aft c s (Cf s)[j]).2=0
   ·have hfa:=CK hf a0;have hjl:j < mv.length:=by omega
    have hy:=gE_ hjl;obtain ⟨y0,y1⟩:=hin _ (CS hjl);obtain ⟨k,hk⟩:∃ k:Nat,mv[j]=(k:Int):=⟨mv[j].toNat,by omega⟩;have hkl:k < sp.States.length:=by omega
    have ht:=gE_ hkl;rw [a0,zf_,cf_,Aj,h2,ob_,Aj,hy,ob_,hk,Aj,ht,ob_,El (n:=1000) (hfa.1.sm hb) uF om_,ob_,ob_];cases hs:sst (aft c s (Cf s)[j]).1 sp.States[k] with
    | true=>
     have hs':=Dr.1 hs;rw [nt_,cf_,An om_];rcases Nb hc h2 hin hf hlen n (j + 1) om_ om_ with ⟨h3,h5⟩ | h3
     ·refine .inl ⟨h3,λj' hj'=>?_⟩;rcases D3 j j' with h | h
      ·exact h5 j' h
      ·obtain rfl:j'=j:=by omega
       intro x hx';rw [hx] at hx';obtain rfl:=Option.some.inj hx';exact ⟨a0,k,by rw [hy,hk],by rw [ht,hs']⟩
     ·exact .inr h3
    | false=>
     rw [nf_,ct_];refine .inr ⟨rfl,j,λh=>?_⟩;obtain ⟨_,k',e2,e3⟩:=h _ hx;rw [hy,hk] at e2;have e4:=Option.some.inj e2;obtain rfl:k=k':=by omega
     rw [ht] at e3;rw [Option.some.inj e3,Nw] at hs;cases hs
   ·rw [show ((aft c s (Cf s)[j]).2 != 0)=true by simpa using a0,ct_,ob_,ct_];exact .inr ⟨rfl,j,λh=>a0 (h _ hx).1⟩
  ·rw [Ak,df_ hj,cf_];refine .inl ⟨⟨_,rfl⟩,λj' hj' x hx=>?_⟩;have:=(CT.1 hx).1;omega
theorem Ue {c:Aa} {s:Ac}:(match stl c 65 s with | some t=>sst (rnd c t) s | none=>false)=true↔Qt c s:=by
 unfold Qt;cases stl c 65 s with
 | none=>exact ⟨λh=>(by cases h),λ⟨t,h,_⟩=>(by cases h)⟩
 | some t=>exact ⟨λh=>⟨t,rfl,h⟩,λ⟨t',h,h2⟩=>by obtain rfl:=Option.some.inj h;exact h2⟩
theorem Nd {c:Aa} {sp:Ag} (hc:Rc c) (hml:sp.Moves.length=sp.States.length) (hin:∀ l∈sp.Moves,∀ k∈l,0<=k/\k < sp.States.length) (hle:sp.States.length<=1000) (hsm:∀ s∈sp.States,Smst s 1000) {lv:GW} (hlv:lv.length=sp.States.length) :
  ∀ (n i:Nat),i<=sp.States.length->sp.States.length - i < n ->
   ((∃ z,Nf FF c sp lv n (i:Int)=some (.brk z))/\∀ j,i<=j->j < sp.States.length->Pz_ c sp j/\0<=at_ lv j)
   \/ (Nf FF c sp lv n (i:Int)=some (.ret false)/\∃ j,j < sp.States.length/\¬ (Pz_ c sp j/\0<=at_ lv j))
 | 0,i,_,h=>by omega
 | n + 1,i,h1,h2=>by
  have hb:=hc.rt.bd;unfold Nf;by_cases hi:i < sp.States.length
  ·have g1:=gE_ hi;have hil:i < sp.Moves.length:=by omega
   have g2:=gE_ hil;have him:=CS hil;have hsi:=hsm _ (CS hi);have bad:¬ (Pz_ c sp i/\0<=at_ lv i)->∃ j,j < sp.States.length/\¬ (Pz_ c sp j/\0<=at_ lv j):=λh=>⟨i,hi,h⟩;rw [Ak,dt_ hi,ct_,Aj,g1,ob_,A9 hc,ob_];by_cases h0:Pw c sp.States[i]=0
   ·have hf:=(Bi hb).1 h0;rw [h0,zf,cf_,A8 hc hf,ob_,ob_];cases hq:(match stl c 65 sp.States[i] with | some t=>sst (rnd c t) sp.States[i] | none=>false) with
    | false=>
     rw [nf_,ct_,ob_,ct_,ob_,ct_];refine .inr ⟨rfl,bad λh=>?_⟩;have:=Ue.2 (h.1 _ _ g1 g2).1.2.1;rw [hq] at this;cases this
    | true=>
     have hQ:=Ue.1 hq;rw [nt_,cf_];have hlsl:lsl sp.States 0 (i:Int)=some (sp.States.take i):=by
      unfold lsl;simp;omega
     rw [hlsl,ob_,A7 (n:=1000) (λx hx=>hsm x (FU hx)) uF om_ (by rw [D0];unfold FF;omega) (by rw [D0];omega),ob_,ob_];have hpl:plc (sp.States.take i) sp.States[i] < 0↔∀ j,j < i->sp.States[j]?≠some sp.States[i]:=by
      constructor
      ·intro h j hj hj2;have h3:=DN.1 (plc_neg h) sp.States[i] (CV (i:=j) (by rw [GR,if_pos hj];exact hj2));rw [Nw] at h3;cases h3
      ·intro h;rcases Int.lt_or_le (plc (sp.States.take i) sp.States[i]) 0 with h4 | h4
       ·exact h4
       ·exfalso;obtain ⟨j,hj,_,hj3⟩:=Wl (Int.not_lt.2 h4);obtain ⟨hj4,hj5,_⟩:=DC.1 hj3;rw [D0] at hj;refine h j om_ ?_;rw [List.getElem_take] at hj5;rw [gE_ om_,Dr.1 hj5]
     by_cases hp:plc (sp.States.take i) sp.States[i] < 0
     ·have hnd:=hpl.1 hp;rw [df_ om_,cf_];have hlv2:i < lv.length:=by omega
      have g3:=gE_ hlv2;have hat:at_ lv (i:Int)=lv[i]:=Nr (by rw [Aj];exact g3);rw [Aj,g3,ob_,ob_];by_cases hl0:lv[i] < 0
      ·rw [dt_ hl0,ct_];refine .inr ⟨rfl,bad λh=>?_⟩;have:=h.2;rw [hat] at this;omega
      ·rw [df_ hl0,cf_,Um hsi,ob_,Aj,g2,ob_];by_cases hln:(Cf sp.States[i]).length=sp.Moves[i].length
       ·rw [show (((Cf sp.States[i]).length:Int) != (sp.Moves[i].length:Int))=false by simp;omega,cf_];have hpf:=Jw hb hf;have h3:=Nb hc g2 (hin _ him) hf hln FF 0 om_ uF;rw [n0] at h3;rcases h3 with ⟨⟨z,h3⟩,h4⟩ | ⟨h3,j,hj⟩
        ·rw [h3,ob_];dsimp only;rw [An om_];rcases Nd hc hml hin hle hsm hlv n (i + 1) om_ om_ with ⟨h5,h6⟩ | h5
         ·refine .inl ⟨h5,λj hj hj2=>?_⟩;rcases D3 i j with h | h
          ·exact h6 j h hj2
          ·obtain rfl:j=i:=by omega
           refine ⟨λs mv e1 e2=>?_,by rw [hat];omega⟩;rw [g1] at e1;rw [g2] at e2;obtain rfl:=Option.some.inj e1;obtain rfl:=Option.some.inj e2;exact ⟨⟨hf,hQ,hln.symm,λj' x hx=>h4 j' om_ x hx⟩,hnd⟩
         ·exact .inr h5
        ·rw [h3,ob_];refine .inr ⟨rfl,bad λh=>?_⟩;exact hj λx hx=>(h.1 _ _ g1 g2).1.2.2.ev j x hx
       ·rw [show (((Cf sp.States[i]).length:Int) != (sp.Moves[i].length:Int))=true by simp;omega,ct_];exact .inr ⟨rfl,bad λh=>hln (h.1 _ _ g1 g2).1.2.2.len.symm⟩
     ·rw [dt_ om_,ct_,ob_,ct_];refine .inr ⟨rfl,bad λh=>hp (hpl.2 (h.1 _ _ g1 g2).2)⟩
   ·rw [show (Pw c sp.States[i] != 0)=true by simpa using h0,ct_,ob_,ct_,ob_,ct_,ob_,ct_];exact .inr ⟨rfl,bad λh=>h0 ((Bi hb).2 (h.1 _ _ g1 g2).1.1)⟩
  ·rw [Ak,df_ hi,cf_];exact .inl ⟨⟨_,rfl⟩,λj h3 h4=>by omega⟩
theorem vfy_eq {c:Aa} {held:GX} {sp:Ag} (hc:Rc c) (hm21:m20 FF c held=some (AB c held)) (hm22:m27 FF c held=some (AB c held)) (hs:sp.States.length<=40) (hm:sp.Moves.length<=200) (hr:∀ l∈sp.Moves,l.length<=40) (hsm:∀ s∈sp.States,Smst s 200) (hky:∀ s∈sp.States,∃ k,m10025 FF s=some k) :
  ∃ e,m10008 FF c held sp=some e/\m9 FF c held sp=some e:=by
 unfold m10008 m9;rw [hm21,hm22,ob_,ob_];by_cases h0:(AB c held).2=0
 ·rw [h0,zf,cf_,cf_,BM uF om_ (λl hl=>by have:=hr l hl;unfold FF;omega),BJ uF om_ (λl hl=>by have:=hr l hl;unfold FF;omega),ob_,ob_];by_cases hsh:shp sp=0
  ·obtain ⟨hp,hml,hg⟩:=Tw hsh;have hin:∀ l∈sp.Moves,∀ k∈l,0<=k/\k < sp.States.length:=λl hl k hk=>by have:=hg l hl k hk;omega
   have g0:=gE_ hp;have hL:=Zn hg (a:=0) (FX 0) om_;have hsm0:=hsm _ (CS hp);have gi:idx sp.States (0:Int)=some sp.States[0]:=by rw [← n0,Aj];exact g0
   unfold m29;rw [hsh,zf,cf_,cf_,gi,ob_,ob_,Ep (n:=200) hsm0 uF om_,El (n:=200) hsm0 uF om_,ob_,ob_];cases hs0:sst sp.States[0] (AB c held).1 with
   | false=>exact ⟨15,rfl,rfl⟩
   | true=>
    have hll:(lev sp.Moves 0).length=sp.States.length:=by rw [hL.len,hml]
    rw [nt_,cf_,cf_,BK hg om_ (λl hl=>by have:=hr l hl;omega) (FX 0) om_,BA hsh hs hr (FX 0) om_,ob_,ob_,BL om_ uF,ob_];have h2:=Nd hc hml hin om_ (λs hs=>by obtain ⟨a1,a2,a3,a4,a5⟩:=hsm s hs;exact ⟨by omega,by omega,by omega,by omega,by omega⟩) hll FF 0 om_ uF;rw [n0] at h2;by_cases hneg:(-1:Int)∈lev sp.Moves 0
    ·rw [dt_ hneg];rcases h2 with ⟨_,h3⟩ | ⟨h2,_⟩
     ·exfalso;obtain ⟨i,hi⟩:=FW hneg;have hil:=(CT.1 hi).1;have:=(h3 i om_ om_).2;rw [Nr (by rw [Aj];exact hi)] at this;omega
     ·rw [h2];exact ⟨15,rfl,rfl⟩
    ·rw [df_ hneg];have h1:=Hf hc hml hin om_ hky FF 0 [] om_ uF (λj hj=>by omega) (λs _ k _=>⟨λh=>(by cases h),λ⟨j,hj,_⟩=>om_⟩);rw [n0] at h1;have hlv:∀ j:Nat,j < sp.States.length->0<=at_ (lev sp.Moves 0) (j:Int):=λj hj=>by
      have h5:=hL.neg j;rcases Int.lt_or_le (at_ (lev sp.Moves 0) (j:Int)) 0 with h6 | h6
      ·exfalso;have h7:=gE_ (show j < (lev sp.Moves 0).length by omega);have h8:at_ (lev sp.Moves 0) (j:Int)=(lev sp.Moves 0)[j]:=Nr (by rw [Aj];exact h7);refine hneg ?_;rw [show (-1:Int)=(lev sp.Moves 0)[j] by omega];exact CS _
      ·exact h6
     rcases h1 with ⟨⟨z,h1⟩,h3⟩ | ⟨h1,j,hj,h3⟩
     ·rcases h2 with ⟨⟨z2,h2⟩,_⟩ | ⟨h2,j,hj,h4⟩
      ·rw [h1,h2];exact ⟨0,rfl,rfl⟩
      ·exact absurd ⟨h3 j hj,hlv j hj⟩ h4
     ·rcases h2 with ⟨_,h4⟩ | ⟨h2,_⟩
      ·exact absurd (h4 j om_ hj).1 h3
      ·rw [h1,h2];exact ⟨15,rfl,rfl⟩
  ·rw [show (shp sp != 0)=true by simpa using hsh,ct_,ct_];exact ⟨_,rfl,rfl⟩
 ·rw [show ((AB c held).2 != 0)=true by simpa using h0,ct_,ct_];exact ⟨_,rfl,rfl⟩
theorem Nv (c:Aa) (held:GX) (sp:Ag) (hky:∀ s∈sp.States,Smst s 200->∃ k,m10025 FF s=some k):m10003 FF c held sp=some true:=by
 unfold m10003;obtain ⟨b,hb,hbw⟩:=m4_spec c;rw [hb,ob_];have h28:m6 FF sp=some sp:=rfl;obtain ⟨b2,hb2,hbw2⟩:=Xa (f:=FF) uF sp;cases b with
 | false=>rw [show ((!false) || decide ((held.length:Int) > 200))=true by rfl,ct_,ob_,ct_,Oe];rfl
 | true=>
  obtain ⟨hw,hs16⟩:=hbw rfl;by_cases hl:(held.length:Int) > 200
  ·rw [show ((!true) || decide ((held.length:Int) > 200))=true by simpa using hl,ct_,ob_,ct_,Oe];rfl
  ·rw [show ((!true) || decide ((held.length:Int) > 200))=false by simpa using hl,cf_,h28,ob_,hb2,ob_,ob_];cases b2 with
   | false=>rw [nf_,ct_,Oe];rfl
   | true=>
    obtain ⟨q1,q2,q3⟩:=hbw2 rfl;have hsm:=m5_sm hb2 uF;have key:∃ e,m10008 FF c held sp=some e/\m9 FF c held sp=some e:=by
     rcases BW hw hs16 held with ⟨e,he,h3,h4,_⟩ | ⟨hc,_,h3,h4,_⟩
     ·refine ⟨e,?_,?_⟩
      ·unfold m10008;rw [h3,ob_];dsimp only;rw [show (e != 0)=true by simpa using he,ct_]
      ·unfold m9;rw [h4,ob_];dsimp only;rw [show (e != 0)=true by simpa using he,ct_]
     ·exact vfy_eq hc h3 h4 q1 q2 q3 hsm (λs hs=>hky s hs (hsm s hs))
    obtain ⟨e,h5,h6⟩:=key;rw [nt_,cf_,h5,ob_,ob_,h6,ob_,show (e == e)=true by simp,ct_,Oe];rfl
def I64a (a:Int):Prop:=-9223372036854775808<=a/\a<=9223372036854775807
theorem Sq (c:Aa) (held:GX) (sp:Ag) (hR:∀ s∈sp.States,(∀ a∈s.Ends,I64a a)/\(∀ a∈s.Timers,I64a a)):m10003 FF c held sp=some true:=
 Nv c held sp λs hs h=>Vy h (hR s hs).1 (hR s hs).2
end Go.Pn

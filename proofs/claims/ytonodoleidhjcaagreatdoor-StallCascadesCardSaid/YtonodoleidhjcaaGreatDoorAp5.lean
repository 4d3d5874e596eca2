import Derived.Test.YtonodoleidhjcaaGreatDoorAp4
set_option synthInstance.checkSynthOrder false
set_option synthInstance.maxSize 10000
set_option synthInstance.maxHeartbeats 400000
set_option maxRecDepth 100000
set_option maxHeartbeats 4000000
set_option linter.unusedVariables false
set_option linter.unusedSimpArgs false
set_option linter.defProp false
namespace Go.Pn
def Eg (g:List LG) (a b:Nat):Prop:=∃ l,g[a]?=some l/\(b:Int)∈l
inductive Wl (g:List LG):Nat->Nat->Nat->Prop
 | nil {a:Nat}:Wl g a a 0
 | cons {a b c n:Nat} (h:Eg g a b) (w:Wl g b c n):Wl g a c (n + 1)
theorem Wl.app {g:List LG} {a b c n m:Nat} (h:Wl g a b n) (h':Wl g b c m):Wl g a c (n + m):=by
 induction h with
 | nil=>simpa using h'
 | cons e w ih=>rw [LE];exact .cons e (ih h')
theorem Wl.snoc {g:List LG} {a b c n:Nat} (h:Wl g a b n) (e:Eg g b c):Wl g a c (n + 1):=h.app (.cons e .nil)
def Lg (g:List LG) (i d:Nat):Prop:=(∃ b,Wl g i b d)/\∀ b n,Wl g i b n->n<=d
def Cy_ (g:List LG) (i:Nat):Prop:=∃ x n m,Wl g i x n/\Wl g x x (m + 1)
theorem Wl.rep {g:List LG} {x m:Nat} (h:Wl g x x (m + 1)):∀ k,∃ n,k<=n/\Wl g x x n
 | 0=>⟨0,GB _,.nil⟩
 | k + 1=>by
  obtain ⟨n,h1,h2⟩:=Wl.rep h k;exact ⟨n + (m + 1),by omega,h2.app h⟩
theorem Lg.noCy {g:List LG} {i d:Nat} (h:Lg g i d):¬ Cy_ g i:=by
 rintro ⟨x,n,m,h1,h2⟩;obtain ⟨k,h3,h4⟩:=h2.rep (d + 1);have:=h.2 x _ (h1.app h4);omega
mutual
def Vs (g:List LG):Nat->LG->Nat->Option (Bool×LG)
 | 0,_,_=>none
 | f + 1,F,i=>if F.getD i 0=-1 then
   match lpF g f (g.getD i []) (F.set i (-2)) 0 with
   | none=>none
   | some (none,F')=>some (false,F')
   | some (some best,F')=>some (true,F'.set i best)
  else some (decide (0<=F.getD i 0),F)
 termination_by f=>(f,0)
def lpF (g:List LG):Nat->LG->LG->Int->Option (Option Int×LG)
 | _,[],F,best=>some (some best,F)
 | f,k :: l,F,best=>match Vs g f F k.toNat with
  | none=>none
  | some (false,F')=>some (none,F')
  | some (true,F')=>lpF g f l F' (max best (F'.getD k.toNat 0 + 1))
 termination_by f l=>(f,l.length + 1)
end
structure Fr_ (g:List LG) (F:LG):Prop where
 len:F.length=g.length
 ok:∀ i,i < F.length->F.getD i 0=-1\/F.getD i 0=-2\/∃ d:Nat,F.getD i 0=d/\Lg g i d
structure To_ (F F':LG):Prop where
 len:F'.length=F.length
 st:∀ j,F.getD j 0≠-1->F'.getD j 0=F.getD j 0
 gr:∀ j,F'.getD j 0=-2->F.getD j 0=-2
theorem To_.refl (F:LG):To_ F F:=⟨rfl,λ_ _=>rfl,λ_ h=>h⟩
theorem To_.trans {A B C:LG} (h:To_ A B) (h':To_ B C):To_ A C:=
 ⟨h'.len.trans h.len,λj hj=>by rw [h'.st j (by rw [h.st j hj];exact hj),h.st j hj],λj hj=>h.gr j (h'.gr j hj)⟩
def whites (F:LG):Nat:=F.countP (·=-1)
theorem Bk {F:LG} {i j:Nat} {v d:Int} (hi:i < F.length):(F.set i v).getD j d=if i=j then v else F.getD j d:=by
 simp only [FU,List.getElem?_set];split
 ·simp [hi]
 ·rfl
theorem Nl {F:LG} {i:Nat} {v:Int} (hi:i < F.length) (h:F.getD i 0=-1) (hv:v≠-1):whites (F.set i v) + 1=whites F:=by
 induction F generalizing i with
 | nil=>simp at hi
 | cons x F ih=>
  cases i with
  | zero=>
   have hx:x=-1:=by simpa using h
   subst hx;unfold whites;simp [hv]
  | succ i=>
   have:=ih (i:=i) (by simpa using hi) (by simpa using h);unfold whites at this ⊢;simp only [List.set_cons_succ,List.countP_cons];omega
theorem To_.whites {F F':LG} (h:To_ F F'):whites F'<=whites F:=by
 have hl:=h.len;have hs:=h.st;clear h
 induction F generalizing F' with
 | nil=>cases F' with | nil=>simp | cons _ _=>simp at hl
 | cons x F ih=>
  cases F' with
  | nil=>simp at hl
  | cons y F'=>
   have h1:=ih (F':=F') (by simpa using hl) (λj hj=>by simpa using hs (j + 1) (by simpa using hj));have h0:=hs 0;simp at h0;unfold Pn.whites at h1 ⊢;simp only [List.countP_cons];by_cases hx:x=-1
   ·subst hx; simp; split <;> omega
   ·rw [h0 hx];omega
theorem lg_of {g:List LG} {i:Nat} {l:LG} {d:Nat} (hl:g[i]?=some l) (h0:∀ k∈l,0<=k) (hs:∀ k∈l,∃ e:Nat,Lg g k.toNat e/\e + 1<=d) (he:d=0\/∃ k∈l,∃ e:Nat,Lg g k.toNat e/\e + 1=d):Lg g i d:=by
 constructor
 ·rcases he with rfl | ⟨k,hk,e,⟨⟨b,hb⟩,_⟩,rfl⟩
  ·exact ⟨i,.nil⟩
  ·exact ⟨b,.cons ⟨l,hl,by rw [J1 (h0 k hk)];exact hk⟩ hb⟩
 ·intro b n hw;cases hw with
  | nil=>omega
  | cons e w=>
   rename_i c m;obtain ⟨l',hl',hm⟩:=e;rw [hl] at hl';cases hl'
   obtain ⟨e,h1,h2⟩:=hs _ hm;rw [G6] at h1;have:=h1.2 _ _ w;omega
theorem Rf {g:List LG} {f i:Nat} (hL:∀ F k,Fr_ g F->k < g.length->whites F < f->(∀ j,F.getD j 0=-2->∃ n,Wl g j k (n + 1)) ->
   ∃ b F',Vs g f F k=some (b,F')/\(b=true->To_ F F'/\Fr_ g F'/\∃ d:Nat,F'.getD k 0=d/\Lg g k d)/\(b=false->Cy_ g k)) :
  ∀ (l:LG) (F:LG) (best:Int),Fr_ g F->(∀ k∈l,0<=k/\k < g.length/\Eg g i k.toNat)->whites F < f->(∀ j,F.getD j 0=-2->∃ n,Wl g j i n)->0<=best ->
   ∃ o F',lpF g f l F best=some (o,F')/\(∀ r,o=some r->To_ F F'/\Fr_ g F'/\best<=r/\(∀ k∈l,∃ e:Nat,Lg g k.toNat e/\(e:Int) + 1<=r)/\(r=best\/∃ k∈l,∃ e:Nat,Lg g k.toNat e/\(e:Int) + 1=r))/\(o=none->Cy_ g i)
 | [],F,best,hF,_,_,_,hb=>⟨some best,F,by rw [lpF],λr hr=>by cases hr;exact ⟨To_.refl F,hF,KH _,λk hk=>by simp at hk,.inl rfl⟩,λh=>by cases h⟩
 | k :: l,F,best,hF,hl,hw,hg,hb=>by
  obtain ⟨hk0,hk1,hk2⟩:=hl k (G4 ..);obtain ⟨b,F1,h1,h3,h4⟩:=hL F k.toNat hF om_ hw (λj hj=>let ⟨n,hn⟩:=hg j hj;⟨n,hn.snoc hk2⟩);rw [lpF,h1];cases b with
  | false=>
   obtain ⟨x,n,m,a1,a2⟩:=h4 rfl;exact ⟨none,F1,rfl,λr hr=>(by cases hr),λ_=>⟨x,n + 1,m,.cons hk2 a1,a2⟩⟩
  | true=>
   obtain ⟨h2,hF1,d,hd,hlg⟩:=h3 rfl;have hw1:=h2.whites;obtain ⟨o,F2,g1,g3,g4⟩:=Rf hL l F1 (max best (F1.getD k.toNat 0 + 1)) hF1 (λx hx=>hl x (GO _ hx)) om_ (λj hj=>hg j (h2.gr j hj)) om_;refine ⟨o,F2,g1,λr hr=>?_,g4⟩;obtain ⟨g2,a1,a2,a3,a4⟩:=g3 r hr;rw [hd] at a2 a4;refine ⟨h2.trans g2,a1,by omega,λx hx=>?_,?_⟩
   ·rcases GH.1 hx with rfl | hx
    ·exact ⟨d,hlg,by omega⟩
    ·exact a3 x hx
   ·rcases a4 with a4 | ⟨x,hx,e,b1,b2⟩
    ·rcases Int.le_total best ((d:Int) + 1) with h | h
     ·exact .inr ⟨k,G4 ..,d,hlg,by omega⟩
     ·exact .inl om_
    ·exact .inr ⟨x,GO _ hx,e,b1,b2⟩
theorem Ez {g:List LG} (hg:∀ l∈g,∀ k∈l,0<=k/\k < g.length):∀ (f:Nat) (F:LG) (i:Nat),Fr_ g F->i < g.length->whites F < f->(∀ j,F.getD j 0=-2->∃ n,Wl g j i (n + 1)) ->
   ∃ b F',Vs g f F i=some (b,F')/\(b=true->To_ F F'/\Fr_ g F'/\∃ d:Nat,F'.getD i 0=d/\Lg g i d)/\(b=false->Cy_ g i)
 | 0,F,i,_,_,h,_=>by omega
 | f + 1,F,i,hF,hi,hw,hgr=>by
  have hiF:i < F.length:=by rw [hF.len];exact hi
  rw [Vs];by_cases h1:F.getD i 0=-1
  ·rw [if_pos h1];have hw2:=Nl hiF h1 (v:=-2) (by decide);obtain ⟨l,hl⟩:∃ l,g[i]?=some l:=⟨_,gE_ hi⟩;have hlg:g.getD i []=l:=by simp [FU,hl]
   have hlm:l∈g:=GF hl;rw [hlg];obtain ⟨o,F1,g1,g3,g4⟩:=Rf (i:=i) (Ez hg f) l (F.set i (-2)) 0 ⟨by simp [hF.len],λj hj=>by
     rw [Bk hiF];split
     ·exact .inr (.inl rfl)
     ·exact hF.ok j (by simpa using hj)⟩ (λk hk=>⟨(hg l hlm k hk).1,(hg l hlm k hk).2,l,hl,by rw [J1 (hg l hlm k hk).1];exact hk⟩) om_ (λj hj=>by
     rw [Bk hiF] at hj;split at hj
     ·rename_i h;subst h;exact ⟨0,.nil⟩
     ·obtain ⟨n,hn⟩:=hgr j hj;exact ⟨n + 1,hn⟩) (KH _)
   rw [g1];cases o with
   | none=>exact ⟨false,F1,rfl,λh=>(by cases h),λ_=>g4 rfl⟩
   | some r=>
    obtain ⟨g2,a1,a2,a3,a4⟩:=g3 r rfl;have hi1:i < F1.length:=by rw [g2.len];simpa using hiF
    obtain ⟨d,rfl⟩:∃ d:Nat,r=d:=⟨r.toNat,by omega⟩;have hL:Lg g i d:=lg_of hl (λk hk=>(hg l hlm k hk).1) (λk hk=>let ⟨e,b1,b2⟩:=a3 k hk;⟨e,b1,by omega⟩) (by
     rcases a4 with a4 | ⟨k,hk,e,b1,b2⟩
     ·exact .inl om_
     ·exact .inr ⟨k,hk,e,b1,by omega⟩)
    refine ⟨true,F1.set i d,rfl,λ_=>⟨⟨by rw [HR,g2.len];simp,λj hj=>?_,λj hj=>?_⟩,⟨by rw [HR];exact a1.len,λj hj=>?_⟩,d,by rw [Bk hi1,if_pos rfl],hL⟩,λh=>by cases h⟩
    ·have hne:i≠j:=λh=>by subst h;exact hj h1
     rw [Bk hi1,if_neg hne,g2.st j (by rw [Bk hiF,if_neg hne];exact hj),Bk hiF,if_neg hne]
    ·rw [Bk hi1] at hj;split at hj
     ·omega
     ·rename_i hne;have:=g2.gr j hj;rw [Bk hiF,if_neg hne] at this;exact this
    ·rw [Bk hi1];split
     ·rename_i h;subst h;exact .inr (.inr ⟨d,rfl,hL⟩)
     ·exact a1.ok j (by simpa using hj)
  ·rw [if_neg h1];refine ⟨_,F,rfl,λh=>?_,λh=>?_⟩
   ·have h:=of_decide_eq_true h;refine ⟨To_.refl F,hF,?_⟩;rcases hF.ok i hiF with h2 | h2 | h2
    ·omega
    ·omega
    ·exact h2
   ·have h:=of_decide_eq_false h;rcases hF.ok i hiF with h2 | h2 | ⟨d,h2,_⟩
    ·exact absurd h2 h1
    ·obtain ⟨n,hn⟩:=hgr i h2;exact ⟨i,0,n,.nil,hn⟩
    ·omega
theorem EW:∀ (N:Nat) (p:Nat->Nat),(∀ i,i<=N->p i < N)->∃ i j,i < j/\j<=N/\p i=p j
 | 0,p,h=>by have:=h 0 (GB _);omega
 | N + 1,p,h=>by
  by_cases hx:∃ i,i<=N/\p i=p (N + 1)
  ·obtain ⟨i,h1,h2⟩:=hx;exact ⟨i,N + 1,by omega,GB _,h2⟩
  ·have hx:∀ i,i<=N->p i≠p (N + 1):=λi h1 h2=>hx ⟨i,h1,h2⟩;obtain ⟨i,j,h1,h2,h3⟩:=EW N (λi=>if p i=N then p (N + 1) else p i) (λi hi=>by
    have h1:=h i om_;have h2:=hx i hi;have h3:=h (N + 1) (GB _);show (if p i=N then p (N + 1) else p i) < N
    split <;> omega)
   refine ⟨i,j,h1,by omega,?_⟩;have a:=hx i om_;have b:=hx j om_;revert h3;show (if p i=N then p (N + 1) else p i)=(if p j=N then p (N + 1) else p j)->_
   split <;> split <;> intro h3 <;> omega
theorem Wl.fn {g:List LG} {a b n:Nat} (h:Wl g a b n):∃ p:Nat->Nat,p 0=a/\p n=b/\∀ i,i < n->Eg g (p i) (p (i + 1)):=by
 induction h with
 | nil=>rename_i a;exact ⟨λ_=>a,rfl,rfl,λi hi=>by omega⟩
 | cons e w ih=>
  rename_i a b c n;obtain ⟨p,h1,h2,h3⟩:=ih;refine ⟨λi=>if i=0 then a else p (i - 1),rfl,by simpa using h2,λi hi=>?_⟩
  cases i with
  | zero=>simpa [h1] using e
  | succ i=>simpa using h3 i om_
theorem Wl.of {g:List LG} {p:Nat->Nat} {n:Nat} (h:∀ i,i < n->Eg g (p i) (p (i + 1))):∀ d i,i + d<=n->Wl g (p i) (p (i + d)) d
 | 0,i,_=>.nil
 | d + 1,i,hi=>by
  have:=Wl.of h d (i + 1) om_;rw [show i + 1 + d=i + (d + 1) by omega] at this;exact .cons (h i om_) this
theorem Eg.lt {g:List LG} {a b:Nat} (h:Eg g a b):a < g.length:=by
 obtain ⟨l,h,_⟩:=h;exact (FT.1 h).1
theorem Wl.cyc {g:List LG} {a b n:Nat} (h:Wl g a b n) (hn:g.length < n):Cy_ g a:=by
 obtain ⟨p,h1,h2,h3⟩:=h.fn;obtain ⟨i,j,a1,a2,a3⟩:=EW g.length p (λi hi=>(h3 i om_).lt);have w1:=Wl.of h3 i 0 om_;have w2:=Wl.of h3 (j - i) i om_;rw [show i + (j - i)=j by omega,← a3] at w2;rw [HV,h1] at w1;refine ⟨p i,i,j - i - 1,w1,?_⟩
 rwa [show j - i - 1 + 1=j - i by omega]
end Go.Pn
namespace Go.Pn
open Go
theorem Ko {z:Zt}:(zS z).length=z.N.length:=by unfold zS;simp
theorem Kn {i:Nat} {s t:Ad} {x:Af} {z:Zt}:zS (Ck i s t x z)=if plc (zS z) t < 0 then zS z ++ [t] else zS z:=by
 unfold Ck;split
 ·unfold zS;simp
 ·rfl
theorem Eu {i:Nat} {s t:Ad} {x:Af} {z:Zt}:(Ck i s t x z).mv=z.mv ++ [if plc (zS z) t < 0 then (z.N.length:Int) else plc (zS z) t]:=by
 unfold Ck; split <;> rfl
theorem Un {i:Nat} {s t:Ad} {x:Af} {z:Zt}:(Ck i s t x z).B=z.B ++ frs s t:=by
 unfold Ck; split <;> rfl
theorem Za {c:Aa} {most i:Nat} {s:Ad}:∀ (l:List Af) (z:Zt),match Nj c most i s l z with
  | .inl e=>Yz c most s l (zS z) z.mv=.inl e
  | .inr r=>Yz c most s l (zS z) z.mv=.inr (zS r,r.mv)
 | [],z=>rfl
 | x :: l,z=>by
  unfold Nj Yz;by_cases h0:(aft c s x).2=0
  ·rw [if_pos h0,if_pos h0,Ko];by_cases hp:plc (zS z) (aft c s x).1 < 0
   ·rw [if_pos hp];by_cases hM:z.N.length=most
    ·rw [if_pos ⟨hp,hM⟩,if_pos hM]
    ·rw [if_neg (λh=>hM h.2),if_neg hM];have ih:=Za l (Ck i s (aft c s x).1 x z) (c:=c) (most:=most) (i:=i) (s:=s);rw [Kn,if_pos hp,Eu,if_pos hp] at ih;exact ih
   ·rw [if_neg (λh=>hp h.1),if_neg hp];have ih:=Za l (Ck i s (aft c s x).1 x z) (c:=c) (most:=most) (i:=i) (s:=s);rw [Kn,if_neg hp,Eu,if_neg hp] at ih;exact ih
  ·rw [if_neg h0,if_neg h0]
theorem EM {c:Aa} {most:Nat}:∀ (n i:Nat) (z:Zt) (M:List LG),match Uk c most false n i z M with
  | .inl e=>xall c most n i (zS z) M=.inl e
  | .inr r=>xall c most n i (zS z) M=.inr ⟨zS r.1,r.2⟩
 | 0,i,z,M=>rfl
 | n + 1,i,z,M=>by
  unfold Uk xall;rw [show (zS z)[i]?=(z.N[i]?).map (·.state) by unfold zS;rw [F9]];cases hy:z.N[i]? with
  | none=>rfl
  | some y=>
   dsimp only [Option.map_some];rw [Sh];have h:=Za (pend y.state) { z with mv:=[] } (c:=c) (most:=most) (i:=i) (s:=y.state);cases hx:Nj c most i y.state (pend y.state) { z with mv:=[] } with
   | inl e=>rw [hx] at h;dsimp only at h ⊢;rw [show Yz c most y.state (pend y.state) (zS z) []=.inl e from h]
   | inr r=>
    rw [hx] at h;dsimp only at h ⊢;rw [show Yz c most y.state (pend y.state) (zS z) []=.inr (zS r,r.mv) from h];exact EM n (i + 1) r _
theorem Up {c:Aa} {most i:Nat} {s:Ad}:∀ (l:List Af) (z:Zt) {e:Int},Nj c most i s l z=.inl e->e≠0
 | [],z,e,h=>by cases h
 | x :: l,z,e,h=>by
  unfold Nj at h;split at h
  ·split at h
   ·cases h;omega
   ·exact Up l _ h
  ·cases h;assumption
theorem Ze {c:Aa} {most:Nat} {p:Bool}:∀ (n i:Nat) (z:Zt) (M:List LG) {e:Int},Uk c most p n i z M=.inl e->e≠0
 | 0,i,z,M,e,h=>by cases h;omega
 | n + 1,i,z,M,e,h=>by
  unfold Uk at h;split at h
  ·cases h
  ·split at h
   ·rename_i hx;cases h;exact Up _ _ hx
   ·exact Ze n _ _ _ h
def bgr (c:Aa) (s:Ad) (l:List Af):List Ab:=l.flatMap λx=>frs s (aft c s x).1
def bgi (c:Aa) (p:Bool) (S:List Ad):List Ab:=S.flatMap λs=>bgr c s (tld p s)
def Clo (c:Aa) (p:Bool) (S:List Ad) (s:Ad) (l:List Af):Prop:=∀ x∈l,(aft c s x).2=0/\(aft c s x).1∈S
theorem Zb {c:Aa} {most i:Nat} {s:Ad} {p:Bool}:∀ (l:List Af) (z:Zt) {r:Zt},Nj c most i s l z=.inr r->r.B=z.B ++ bgr c s l/\Clo c p (zS r) s l/\∃ X,zS r=zS z ++ X
 | [],z,r,h=>by
  obtain rfl:=Sum.inr.inj h;exact ⟨by simp [bgr],λx hx=>by simp at hx,[],by simp⟩
 | x :: l,z,r,h=>by
  unfold Nj at h;split at h
  ·rename_i h0;split at h
   ·cases h
   ·obtain ⟨a1,a2,X,a3⟩:=Zb l _ h (p:=p);rw [Kn] at a3;have hin:(aft c s x).1∈zS r:=by
     rw [a3];by_cases hp:plc (zS z) (aft c s x).1 < 0
     ·rw [if_pos hp];simp
     ·obtain ⟨j,hj,_,hj2⟩:=Ku hp;obtain ⟨g1,g2,_⟩:=GP.1 hj2;rw [if_neg hp,GL];left;rw [Eb.1 g2];exact GA g1
    refine ⟨by rw [a1,Un];simp [bgr],λy hy=>?_,?_⟩
    ·rcases GH.1 hy with rfl | hy
     ·exact ⟨h0,hin⟩
     ·exact a2 y hy
    ·split at a3
     ·exact ⟨_,by rw [a3,GG]⟩
     ·exact ⟨_,a3⟩
  ·cases h
theorem Zg {c:Aa} {most:Nat} {p:Bool}:∀ (n i:Nat) (z:Zt) (M:List LG) {r:Zt×List LG},i<=z.N.length->z.B=bgi c p ((zS z).take i)->(∀ s∈(zS z).take i,Clo c p (zS z) s (tld p s))->Uk c most p n i z M=.inr r ->
  r.1.B=bgi c p (zS r.1)/\(∀ s∈zS r.1,Clo c p (zS r.1) s (tld p s))/\∃ X,zS r.1=zS z ++ X
 | 0,i,z,M,r,_,_,_,h=>by cases h
 | n + 1,i,z,M,r,hi,hB,hC,h=>by
  unfold Uk at h;split at h
  ·rename_i hy;obtain rfl:=Sum.inr.inj h;have h1:=List.getElem?_eq_none_iff.1 hy;have ht:(zS z).take i=zS z:=HZ (by rw [Ko];omega);rw [ht] at hB hC;exact ⟨hB,hC,[],by simp⟩
  ·rename_i y hy;split at h
   ·cases h
   ·rename_i r1 hx;obtain ⟨a1,a2,X,a3⟩:=Zb _ _ hx (p:=p);have hl:=(FT.1 hy).1;have hS:(zS z)[i]?=some y.state:=by unfold zS;rw [F9,hy];rfl
    have a3:zS r1=zS z ++ X:=a3;have ht:(zS r1).take (i + 1)=(zS z).take i ++ [y.state]:=by
     rw [a3,List.take_append_of_le_length (by rw [Ko];omega),JE,hS];rfl
    have hlen:z.N.length<=r1.N.length:=by
     have:=congrArg List.length a3;rw [FR,Ko,Ko] at this;omega
    obtain ⟨b1,b2,X2,b3⟩:=Zg n (i + 1) r1 _ om_ (by
     rw [ht,a1];show z.B ++ _=_;rw [hB];unfold bgi;simp) (λs hs=>by
     rw [ht] at hs;rcases GL.1 hs with hs | hs
     ·intro x hx2;have:=hC s hs x hx2;exact ⟨this.1,by rw [a3];exact GK _ this.2⟩
     ·obtain rfl:s=_:=by simpa using hs
      exact a2) h
    exact ⟨b1,b2,X ++ X2,by rw [b3,a3,GG]⟩
theorem Zd {c:Aa} {most:Nat} {p:Bool}:∀ (n i:Nat) (z:Zt) (M:List LG) {r:Zt×List LG},Zi c most z->Uk c most p n i z M=.inr r->Zi c most r.1
 | 0,i,z,M,r,_,h=>by cases h
 | n + 1,i,z,M,r,hZ,h=>by
  unfold Uk at h;split at h
  ·obtain rfl:=Sum.inr.inj h;exact hZ
  ·rename_i y hy;split at h
   ·cases h
   ·rename_i r1 hx;have hfit:Fit c y.state:=(hZ.al _ (GE.2 ⟨_,GF hy,rfl⟩)).1;exact Zd n (i + 1) r1 _ (Uo hfit _ { z with mv:=[] } ⟨hZ.al,hZ.le,hZ.fs,hZ.par⟩ ⟨y,hy,rfl⟩ hx).1 h
structure Sr (c:Aa) (s:Ad) (p:Bool) (most:Nat) (r:Zt×List LG):Prop where
 eq:srF c s p most=.inr r
 zi:Zi c most r.1
 bg:r.1.B=bgi c p (zS r.1)
 cl:∀ t∈zS r.1,Clo c p (zS r.1) t (tld p t)
 hd:(zS r.1)[0]?=some s
theorem Sr.of {c:Aa} {s:Ad} {p:Bool} {most:Nat} {r:Zt×List LG} (hf:Fit c s) (hq:Qt c s) (hm:1<=most) (h:srF c s p most=.inr r):Sr c s p most r:=by
 have hz:=EP hf hq hm;obtain ⟨h1,h2,X,h3⟩:=Zg FF 0 (z0t s) [] (by simp [z0t]) rfl smp_ h;exact ⟨h,Zd FF 0 _ _ hz h,h1,h2,by rw [h3];rfl⟩
def stF (F:List Aj):List Ad:=(F.filter λf=>Sd f.State).map (·.State)
theorem CY {F:List Aj} {i:Nat} (h:i < F.length):stF (F.take (i + 1))=stF (F.take i) ++ (if Sd F[i].State=true then [F[i].State] else []):=by
 unfold stF;rw [JE,gE_ h,JT,HD];congr 1;by_cases hs:Sd F[i].State=true
 ·rw [if_pos hs];simp [hs]
 ·rw [if_neg hs];simp [hs]
theorem Zo {F:List Aj}:(stF F).length<=F.length:=by unfold stF;rw [GC];exact J9 ..
theorem Hw {a b:Ab}:Jx a b=true↔a=b:=by
 cases a;cases b
 simp [Jx]
instance:DecidableEq Ab:=λ_ _=>decidable_of_iff _ Hw
def nv1 (B:List Ab) (a:Nat) (w:Bool):List Ab:=if (⟨(a:Int),w⟩:Ab)∈B then [] else [⟨(a:Int),w⟩]
def nvF (n:Nat) (B:List Ab):List Ab:=(List.range n).flatMap λa=>nv1 B a false ++ nv1 B a true
theorem Qm {n:Nat} {B:List Ab}:nvF (n + 1) B=nvF n B ++ (nv1 B n false ++ nv1 B n true):=by unfold nvF;rw [HK];simp
theorem Uu {B:List Ab} {a:Nat} {w:Bool}:(nv1 B a w).length<=1:=by unfold nv1; split <;> simp
theorem nvF_len {n:Nat} {B:List Ab}:(nvF n B).length<=2 * n:=by
 induction n with
 | zero=>simp [nvF]
 | succ n ih=>
  have h1:=Uu (B:=B) (a:=n) (w:=false);have h2:=Uu (B:=B) (a:=n) (w:=true);rw [Qm,FR,FR];omega
theorem frs_len {s t:Ad}:(frs s t).length<=s.Ends.length:=Du
end Go.Pn
namespace Go.Pn
open Go
theorem Xk {G:LG} {i:Nat} (h:i < G.length):idx G (i:Int)=some (G.getD i 0):=by
 rw [Am,FU,gE_ h];rfl
theorem M_ok {c:Aa} (hc:Rt c) {S:List Ad} {M:List LG} {s0:Ad} (hS:Sp_ c s0 ⟨S,M⟩):∀ l∈M,∀ k∈l,0<=k/\k < M.length:=λl hl k hk=>by
 have h1:=(hS.rows hc.bd l hl).2 k hk;have hml:M.length=S.length:=hS.fd.ml;dsimp only at h1;omega
end Go.Pn
namespace Go.Pn
open Go
def txt (s:Ad):List UInt8:=nb s.Ends ++ nb s.Timers ++ fb s.Valves ++ fb s.Inputs ++ fb s.Values
theorem La {l:LG} (hl:l.length<=1000) (h:∀ a∈l,0<=a/\a < 10) (b:LL) (hb:b.size<=100000):∃ q r,Hg FF l FF (0,b)=some (q,r)/\r.data.toList=b.data.toList ++ nb l:=by
 obtain ⟨v,hv,hh⟩:=Pi (L:=Hg FF l) (mk:=λi (v:LL)=>((i:Int),v)) (N:=l.length) (I:=λi v=>v.data.toList=b.data.toList ++ nb (l.take i)) (λn i v hi hI=>by
  have hb':=h l[i] (GA hi);have hsz:v.size=b.size + 2 * i:=by rw [Aw,hI,FR,Dw,HO,← Aw];omega
  have hxs:(⟨#[UInt8.ofNat (48 + (l[i]).toNat)]⟩:LL).size=1:=rfl;rw [Hg];dsimp only;rw [Ao,dt_ hi,ct_,Am,gE_ hi,ob_,DB hb'.1 hb'.2,ob_];unfold m96 m98;rw [if_pos om_,ob_];have hs2:(v ++ (⟨#[UInt8.ofNat (48 + (l[i]).toNat)]⟩:LL)).size=b.size + 2 * i + 1:=by
   rw [Aw,CF,FR,← Aw,hsz];rfl
  rw [if_pos om_,ob_,Aq om_];refine ⟨_,?_,rfl⟩;rw [ba_push,CF,hI,JE,gE_ hi];unfold nb;rw [JA];simp) (λn v _=>by
  rw [Hg];dsimp only;rw [Ao,df_ (JJ _),cf_]) FF 0 b om_ uF (by simp [nb])
 try dsimp only at hh
 rw [n0] at hh;rw [KY] at hv;exact ⟨_,v,hh,hv⟩
theorem Gb {l:LH} (hl:l.length<=1000) (b:LL) (hb:b.size<=100000):∃ q r,Fj FF l FF (0,b)=some (q,r)/\r.data.toList=b.data.toList ++ fb l:=by
 obtain ⟨v,hv,hh⟩:=Pi (L:=Fj FF l) (mk:=λi (v:LL)=>((i:Int),v)) (N:=l.length) (I:=λi v=>v.data.toList=b.data.toList ++ fb (l.take i)) (λn i v hi hI=>by
  have hsz:v.size=b.size + i:=by rw [Aw,hI,FR,← Aw];unfold fb;rw [GC,HO];omega
  have key:∃ r:LL,((m99 FF l[i]).bind λx5=>ssl x5 0 (1:Int))=some r/\r.data.toList=[if l[i]=true then 116 else 102]:=by
   cases l[i]
   ·exact ⟨⟨#[102]⟩,by kernel_rfl,rfl⟩
   ·exact ⟨⟨#[116]⟩,by kernel_rfl,rfl⟩
  obtain ⟨r,hr,hr2⟩:=key;obtain ⟨x5,h5,h6⟩:=HN.1 hr;have hrs:r.size=1:=by rw [Aw,hr2];rfl
  rw [Fj];dsimp only;rw [Ao,dt_ hi,ct_,Am,gE_ hi,ob_,h5,ob_,h6,ob_];unfold m96;rw [if_pos om_,ob_,Aq om_];refine ⟨_,?_,rfl⟩;rw [CF,hI,hr2,JE,gE_ hi];unfold fb;rw [HD];simp) (λn v _=>by
  rw [Fj];dsimp only;rw [Ao,df_ (JJ _),cf_]) FF 0 b om_ uF (by simp [fb])
 try dsimp only at hh
 rw [n0] at hh;rw [KY] at hv;exact ⟨_,v,hh,hv⟩
theorem Mq {l:LH}:(fb l).length=l.length:=by unfold fb;simp
theorem Ke {c:Aa} {s:Ad} (hb:Bd_ c) (h:Fit c s):∃ k,m65 FF s=some k/\k.data.toList=txt s:=by
 have hs:=h.sm hb;have l1:=hs.e;have l2:=hs.t;have l3:=hs.v;have l4:=hs.i;have l5:=hs.x;have z:ByteArray.empty.size=0:=rfl;have sz:∀ {r:LL} {l:List UInt8},r.data.toList=l->r.size=l.length:=λh=>by rw [Aw,h]
 obtain ⟨q1,r1,e1,d1⟩:=La l1 (λa ha=>by have:=h.ee a ha;omega) ByteArray.empty om_;have d1:r1.data.toList=nb s.Ends:=by rw [d1];rfl
 have s1:=sz d1;rw [Dw] at s1;obtain ⟨q2,r2,e2,d2⟩:=La l2 (λa ha=>by have:=h.tt a ha;omega) r1 om_;rw [d1] at d2;have s2:=sz d2;rw [FR,Dw,Dw] at s2;obtain ⟨q3,r3,e3,d3⟩:=Gb l3 r2 om_;rw [d2] at d3;have s3:=sz d3;rw [FR,FR,Dw,Dw,Mq] at s3;obtain ⟨q4,r4,e4,d4⟩:=Gb l4 r3 om_;rw [d3] at d4;have s4:=sz d4;rw [FR,FR,FR,Dw,Dw,Mq,Mq] at s4;obtain ⟨q5,r5,e5,d5⟩:=Gb l5 r4 om_;rw [d4] at d5;have w1:∀ n,Lb FF s (n + 3) (0,ByteArray.empty)=some (2,r2):=λn=>by
  show ((Hg FF s.Ends FF (0,ByteArray.empty)).bind λo6s=>Lb FF s (n + 2) (1,o6s.2))=_;rw [e1,ob_];show ((Hg FF s.Timers FF (0,r1)).bind λo6s=>Lb FF s (n + 1) (2,o6s.2))=_;rw [e2];rfl
 have w2:∀ n,Jt FF s (n + 4) (0,r2)=some (3,r5):=λn=>by
  show ((Fj FF s.Valves FF (0,r2)).bind λo6s=>Jt FF s (n + 3) (1,o6s.2))=_;rw [e3,ob_];show ((Fj FF s.Inputs FF (0,r3)).bind λo6s=>Jt FF s (n + 2) (2,o6s.2))=_;rw [e4,ob_];show ((Fj FF s.Values FF (0,r4)).bind λo6s=>Jt FF s (n + 1) (3,o6s.2))=_;rw [e5];rfl
 have w1:Lb FF s FF (0,ByteArray.empty)=some (2,r2):=w1 99997;have w2:Jt FF s FF (0,r2)=some (3,r5):=w2 99996;unfold m65;rw [w1,ob_,w2];exact ⟨r5,rfl,d5⟩
theorem txt_inj {c:Aa} {s t:Ad} (hs:Fit c s) (ht:Fit c t) (h:txt s=txt t):s=t:=by
 unfold txt at h;have n1:(nb s.Ends).length=(nb t.Ends).length:=by rw [Dw,Dw,hs.e,ht.e]
 have n2:(nb s.Timers).length=(nb t.Timers).length:=by rw [Dw,Dw,hs.t,ht.t]
 have n3:(fb s.Valves).length=(fb t.Valves).length:=by rw [Mq,Mq,hs.v,ht.v]
 have n4:(fb s.Inputs).length=(fb t.Inputs).length:=by rw [Mq,Mq,hs.i,ht.i]
 obtain ⟨h,e5⟩:=K3 h (by simp only [FR];omega);obtain ⟨h,e4⟩:=K3 h (by simp only [FR];omega);obtain ⟨h,e3⟩:=K3 h (by simp only [FR];omega);obtain ⟨e1,e2⟩:=K3 h om_;have e1:=AN (λa ha=>by have:=hs.ee a ha;omega) (λa ha=>by have:=ht.ee a ha;omega) e1;have e2:=AN (λa ha=>by have:=hs.tt a ha;omega) (λa ha=>by have:=ht.tt a ha;omega) e2;have e3:=Xu e3;have e4:=Xu e4;have e5:=Xu e5;cases s;cases t
 simp_all
def Kt (c:Aa) (S:List Ad) (m:List (LL×Int)):Prop:=∀ s,Fit c s->∀ k,m65 FF s=some k->mat Hz m k=(S.findIdx? λx=>sst s x).map λ(j:Nat)=>(j:Int)
theorem Kt.nil (c:Aa):Kt c [] []:=λs _ k _=>rfl
theorem Kt.put {c:Aa} {S:List Ad} {m:List (LL×Int)} {t:Ad} {k:LL} (hb:Bd_ c) (h:Kt c S m) (ht:Fit c t) (hk:m65 FF t=some k) (hn:S.findIdx? (λx=>sst t x)=none):Kt c (S ++ [t]) (Jp Hz m k (S.length:Int)):=by
 intro s hs j hj;rw [Wt,List.findIdx?_append];by_cases e:s=t
 ·subst e;rw [hk] at hj;obtain rfl:=Option.some.inj hj;rw [if_pos rfl,hn];simp [Da]
 ·have hne:j≠k:=λe2=>by
   subst e2;obtain ⟨a,ha,a1⟩:=Ke hb hs;obtain ⟨b,hb',b1⟩:=Ke hb ht;rw [hj] at ha;rw [hk] at hb';obtain rfl:=Option.some.inj ha;obtain rfl:=Option.some.inj hb';exact e (txt_inj hs ht (a1.symm.trans b1))
  have hst:sst s t=false:=by
   cases hx:sst s t with
   | false=>rfl
   | true=>exact absurd (Eb.1 hx) e
  rw [if_neg hne,h s hs j hj];cases S.findIdx? (λx=>sst s x) with
  | some q=>rfl
  | none=>simp [hst]
def Bg (m:List (Ab×Bool)) (B:List Ab):Prop:=∀ y,(mat Jx m y).getD false=decide (y∈B)
theorem Bg.put {m:List (Ab×Bool)} {B:List Ab} (h:Bg m B) (y:Ab):Bg (Jp Jx m y true) (B ++ [y]):=by
 classical
 intro k;rw [DA (λa b=>Hw)];by_cases e:k=y
 ·subst e;rw [if_pos (Hw.2 rfl)];simp
 ·rw [if_neg (λh=>e (Hw.1 h)),h k];simp [e]
theorem Uy (l:List Ab) (e:Int) (hl:l.length<=1000) {m:List (Ab×Bool)} {B:List Ab} (h:Bg m B):∃ q m',Dg (l,e) FF (0,m)=some (q,m')/\Bg m' (B ++ l):=by
 obtain ⟨v,hv,hh⟩:=Pi (L:=Dg (l,e)) (mk:=λi (v:List (Ab×Bool))=>((i:Int),v)) (N:=l.length) (I:=λi v=>Bg v (B ++ l.take i)) (λn i v hi hI=>by
  rw [Dg];simp only [Ao,dt_ hi,ct_,Am,gE_ hi,ob_];rw [Aq om_];refine ⟨_,?_,rfl⟩;rw [JE,gE_ hi,← GG];exact hI.put _) (λn v _=>by
  rw [Dg];simp only [Ao,df_ (JJ _),cf_]) FF 0 m om_ uF (by simpa using h)
 try dsimp only at hh
 rw [n0] at hh;rw [KY] at hv;exact ⟨_,v,hh,hv⟩
theorem BO {c:Aa} {s:Ad} (hc:Rc c) (hf:Fit c s) (hq:Qt c s) (p:Bool) (a b:Int) (N:List Node) (m:List (LL×Int)) (M:List LG) (g:List (Ab×Bool)) :
  To FF s c.Actuators p a b c.Inputs c.Signals c.Plus c.Minus N m M g=some (tld p s,0):=by
 have hb:=hc.rt.bd;have h1:=Wq (hf.sm hb);have h2:=(hf.sm hb).i;unfold To;rw [show (⟨c.Actuators,c.Inputs,c.Signals,c.Plus,c.Minus⟩:Aa)=c from rfl,Qx hc hf hq,ob_];dsimp only;rw [zf,HX];cases p with
 | false=>rw [Sh];rfl
 | true=>
  rw [H1,cf_];obtain ⟨v,hv,hl⟩:=Pi (L:=Bp s) (mk:=λi (v:List Af)=>((i:Int),v)) (N:=s.Inputs.length) (I:=λi v=>v=pend s ++ (List.range i).map (prs s)) (λn i v hi hI=>by
   subst hI;refine ⟨_,rfl,?_⟩;have hp:prs s i=⟨2,(i:Int),!s.Inputs[i]⟩:=by
    unfold prs;rw [FU,gE_ hi];rfl
   rw [Bp];dsimp only;rw [Ao,dt_ hi,ct_,Am,gE_ hi,ob_,← hp,Av so_,ob_,Aq om_,HK,HD,← GG];rfl) (λn v _=>by
   rw [Bp];dsimp only;rw [Ao,df_ (JJ _),cf_]) FF 0 (pend s) om_ uF smp_
  subst hv;try dsimp only at hl
  rw [n0] at hl;rw [hl];unfold tld;rw [if_pos rfl];rfl
theorem Ga {c:Aa} (hc:Rc c) {most:Nat} (hmo:most<=16384) {y:Node} (hf:Fit c y.state) (hq:Qt c y.state) (i0:Nat) (M:List LG) (l:List Af) (hl:l.length<=3000) (w:Int) :
  ∀ (k n j:Nat) (z:Zt) (m:List (LL×Int)) (g:List (Ab×Bool)),j + k=l.length->k < n->Zi c most z->z.N[i0]?=some y->z.mv.length<=j->Kt c (zS z) m->Bg g z.B ->
   match Nj c most i0 y.state (l.drop j) z with
   | .inl e=>∃ q,Dh FF (i0:Int) c.Actuators (most:Int) c.Inputs c.Signals c.Plus c.Minus M y (l,w) n ((j:Int),z.N,m,g,z.mv)=some (.ret (e,q))
   | .inr r=>∃ q m' g',Dh FF (i0:Int) c.Actuators (most:Int) c.Inputs c.Signals c.Plus c.Minus M y (l,w) n ((j:Int),z.N,m,g,z.mv)=some (.brk (q,r.N,m',g',r.mv))/\Kt c (zS r) m'/\Bg g' r.B
 | _,0,_,_,_,_,_,h,_,_,_,_,_=>by omega
 | 0,n + 1,j,z,m,g,h1,_,_,_,_,hK,hG=>by
  obtain rfl:j=l.length:=by omega
  rw [List.drop_length];unfold Nj Dh;dsimp only;rw [Ao,df_ (JJ _),cf_];exact ⟨_,m,g,rfl,hK,hG⟩
 | k + 1,n + 1,j,z,m,g,h1,h2,hZ,hy,hmv,hK,hG=>by
  have hb:=hc.rt.bd;have hj:j < l.length:=by omega
  have hle:=hZ.le;have hi0:=(FT.1 hy).1;have g5:=hb.a';have g4:=hf.e;rw [G0 hj];unfold Nj Dh;dsimp only;obtain ⟨q,e1⟩:=Ki (x:=l[j]) hc hf hq;rw [show (⟨c.Actuators,c.Inputs,c.Signals,c.Plus,c.Minus⟩:Aa)=c from rfl,Ao,dt_ hj,ct_,Am,gE_ hj,ob_,e1,ob_];dsimp only;by_cases h0:(aft c y.state l[j]).2=0
  ·have hfa:=FL hf h0;have b2:=frs_len (s:=y.state) (t:=(aft c y.state l[j]).1);obtain ⟨q2,g',e2,hG'⟩:=Uy (frs y.state (aft c y.state l[j]).1) 0 om_ hG;obtain ⟨t,et,_⟩:=Ke hb hfa.1;have hmt:=hK _ hfa.1 t et;rw [if_pos h0,h0,zf,cf_,BN hb hf hfa.1,ob_];dsimp only;rw [zf,cf_,e2,ob_,et,ob_,hmt];by_cases hp:plc (zS z) (aft c y.state l[j]).1 < 0
   ·have hn:=Us hp;rw [hn];simp only [JS,Option.isSome_none,JL,ct_,ob_,Av (show z.N.length + [(⟨(aft c y.state l[j]).1,(i0:Int),l[j]⟩:Node)].length<=1073741824 by simp;omega)];rw [Av so_,ob_];by_cases hM:z.N.length=most
    ·rw [if_pos ⟨hp,hM⟩,dt_ so_,ct_];exact ⟨_,rfl⟩
    ·have hm:¬ (plc (zS z) (aft c y.state l[j]).1 < 0/\z.N.length=most):=λh=>hM h.2;rw [if_neg hm,df_ so_,cf_,Aq om_];obtain ⟨h3,⟨X,hX⟩,_⟩:=hZ.step hf ⟨y,hy,rfl⟩ h0 hm;have hK':=hK.put hb hfa.1 et hn;have ih:=Ga hc hmo hf hq i0 M l hl w k n (j + 1) (Ck i0 y.state (aft c y.state l[j]).1 l[j] z) (Jp Hz m t ((zS z).length:Int)) g' om_ om_ h3 (by rw [hX,FY hi0];exact hy) (by rw [Eu];simp;omega) (by rw [Kn,if_pos hp];exact hK') (by rw [Un];exact hG');have eN:(Ck i0 y.state (aft c y.state l[j]).1 l[j] z).N=z.N ++ [⟨(aft c y.state l[j]).1,(i0:Int),l[j]⟩]:=by unfold Ck;rw [if_pos hp]
     rw [eN,Eu,if_pos hp,Ko] at ih;exact ih
   ·obtain ⟨k',hk1,hk2,hk3⟩:=Ku hp;have hm:¬ (plc (zS z) (aft c y.state l[j]).1 < 0/\z.N.length=most):=λh=>hp h.1;rw [hk3];simp only [GS,Option.isSome_some,H1,cf_,H3,ob_];rw [Av so_,ob_,if_neg hm,df_ om_,cf_,Aq om_];obtain ⟨h3,⟨X,hX⟩,_⟩:=hZ.step hf ⟨y,hy,rfl⟩ h0 hm;have ih:=Ga hc hmo hf hq i0 M l hl w k n (j + 1) (Ck i0 y.state (aft c y.state l[j]).1 l[j] z) m g' om_ om_ h3 (by rw [hX,FY hi0];exact hy) (by rw [Eu];simp;omega) (by rw [Kn,if_neg hp];exact hK) (by rw [Un];exact hG');have eN:(Ck i0 y.state (aft c y.state l[j]).1 l[j] z).N=z.N:=by unfold Ck;rw [if_neg hp]
    rw [eN,Eu,if_neg hp,hk2] at ih;exact ih
  ·rw [if_neg h0,show ((aft c y.state l[j]).2 != 0)=true by simpa using h0,ct_];exact ⟨_,rfl⟩
theorem DK {c:Aa} (hc:Rc c) {most:Nat} (hmo:most<=16384) (p:Bool) {i:Nat} {z:Zt} {y:Node} (hZ:Zi c most z) (hy:z.N[i]?=some y) {m:List (LL×Int)} {g:List (Ab×Bool)} (hK:Kt c (zS z) m) (hG:Bg g z.B) (M:List LG) (hM:M.length<=20000) (e:Int) :
  match Nj c most i y.state (tld p y.state) { z with mv:=[] } with
  | .inl e'=>∃ q,Yn FF (i:Int) c.Actuators p (most:Int) e c.Inputs c.Signals c.Plus c.Minus z.N m M g=some (e',q)
  | .inr r=>∃ m' g',Yn FF (i:Int) c.Actuators p (most:Int) e c.Inputs c.Signals c.Plus c.Minus z.N m M g=some (0,r.N,m',M ++ [r.mv],g')/\Kt c (zS r) m'/\Bg g' r.B:=by
 have hb:=hc.rt.bd;obtain ⟨hf,hq⟩:=hZ.al _ (GE.2 ⟨_,GF hy,rfl⟩);have htl:=tld_len (p:=p) (hf.sm hb);have h:=Ga hc hmo hf hq i M (tld p y.state) htl 0 _ FF 0 { z with mv:=[] } m g (HV _) uF ⟨hZ.al,hZ.le,hZ.fs,hZ.par⟩ hy smp_ hK hG;rw [n0,HG] at h;unfold Yn;rw [Am,hy,ob_,BO hc hf hq,ob_];dsimp only at h ⊢;rw [zf,cf_];cases hx:Nj c most i y.state (tld p y.state) { z with mv:=[] } with
 | inl e'=>
  rw [hx] at h;obtain ⟨q,h⟩:=h;dsimp only;rw [h];exact ⟨_,rfl⟩
 | inr r=>
  rw [hx] at h;obtain ⟨q,m',g',h,h1,h2⟩:=h;dsimp only;rw [h,ob_];dsimp only;rw [Av so_];exact ⟨m',g',rfl,h1,h2⟩
theorem Tp {c:Aa} (hc:Rc c) {most:Nat} (hmo:most<=16384) (p:Bool):∀ (n i:Nat) (z:Zt) (M:List LG) (m:List (LL×Int)) (g:List (Ab×Bool)),Zi c most z->i<=z.N.length->most < n + i->M.length=i->Kt c (zS z) m->Bg g z.B ->
  match Uk c most p n i z M with
  | .inl e=>∃ q w,Gl (Ju FF c p (most:Int)) (λs=>((s.1.2.1).length:Int)) (λs=>s.1.1) n ((i:Int),((0,z.N,m,M,g),0))=some (.brk (q,((e,w),0)))
  | .inr r=>∃ q m' g',Gl (Ju FF c p (most:Int)) (λs=>((s.1.2.1).length:Int)) (λs=>s.1.1) n ((i:Int),((0,z.N,m,M,g),0))=some (.brk (q,((0,r.1.N,m',r.2,g'),0)))/\Bg g' r.1.B
 | 0,i,z,M,m,g,hZ,h2,h3,_,_,_=>by have:=hZ.le;omega
 | n + 1,i,z,M,m,g,hZ,h2,h3,hM,hK,hG=>by
  have hle:=hZ.le;unfold Uk;rw [Gl];dsimp only;by_cases hi:i < z.N.length
  ·have hy:z.N[i]?=some z.N[i]:=gE_ hi;have hfit:Fit c z.N[i].state:=(hZ.al _ (GE.2 ⟨_,GA hi,rfl⟩)).1;have h:=DK hc hmo p hZ hy hK hG M om_ 0;rw [hy,Ao,dt_ hi,show ((0:Int) == 0)=true from rfl,JH,ct_,Ju];dsimp only;cases hx:Nj c most i z.N[i].state (tld p z.N[i].state) { z with mv:=[] } with
   | inl e=>
    have hne:=Up _ _ hx;rw [hx] at h;obtain ⟨q,h⟩:=h;obtain ⟨n,rfl⟩:∃ n',n=n' + 1:=⟨n - 1,by omega⟩;dsimp only;rw [h,ob_,ob_];dsimp only;rw [H1,cf_,Gl];dsimp only;rw [show (e == 0)=false by simpa using hne,JP,cf_];exact ⟨_,_,rfl⟩
   | inr r=>
    rw [hx] at h;obtain ⟨m',g',h,hK',hG'⟩:=h;dsimp only;obtain ⟨a1,X,a2⟩:=Uo hfit _ { z with mv:=[] } ⟨hZ.al,hZ.le,hZ.fs,hZ.par⟩ ⟨_,hy,rfl⟩ hx;rw [h,ob_,ob_];dsimp only;rw [H1,cf_,Aq om_];exact Tp hc hmo p n (i + 1) r _ m' g' a1 (by rw [a2];simp;omega) om_ (by simp [hM]) hK' hG'
  ·rw [GY om_,Ao,df_ hi,J7,cf_];exact ⟨_,m,g,rfl,hG⟩
theorem Qz {c:Aa} {s:Ad} (hc:Rc c) (hf:Fit c s) (hq:Qt c s) (p:Bool) {most:Int} (h1:1<=most) (h2:most<=16384):match srF c s p most.toNat with
  | .inl e=>∃ w,m30 FF c s p most=some (.inr (e,w))/\e≠0
  | .inr r=>∃ m' g',m30 FF c s p most=some (.inr (0,c.Actuators,p,most,0,c.Inputs,c.Signals,c.Plus,c.Minus,r.1.N,m',r.2,g'))/\Bg g' r.1.B:=by
 have hb:=hc.rt.bd;have hmn:((most.toNat:Nat):Int)=most:=by omega
 obtain ⟨t,et,_⟩:=Ke hb hf;have hK:Kt c (zS (z0t s)) (Jp Hz [] t 0):=(Kt.nil c).put hb hf et rfl;have h:=Tp hc (most:=most.toNat) om_ p FF 0 (z0t s) [] (Jp Hz [] t 0) [] (EP hf hq om_) (by simp [z0t]) uF rfl hK (λy=>by simp [z0t];rfl);rw [n0,hmn] at h;unfold srF m30;rw [Qx hc hf hq,ob_];dsimp only;rw [zf,cf_,df_ om_,df_ om_,JO,cf_,et,ob_];unfold m66 LP;rw [ob_];cases hx:Uk c most.toNat p FF 0 (z0t s) [] with
 | inl e=>
  rw [hx] at h;obtain ⟨q,w,h⟩:=h;dsimp only;rw [show ([(⟨s,(-1:Int),(⟨(0:Int),(0:Int),false⟩:Af)⟩:Node)]:List Node)=(z0t s).N from rfl,h];exact ⟨_,rfl,Ze _ _ _ _ hx⟩
 | inr r=>
  rw [hx] at h;obtain ⟨q,m',g',h,hG⟩:=h;dsimp only;rw [show ([(⟨s,(-1:Int),(⟨(0:Int),(0:Int),false⟩:Af)⟩:Node)]:List Node)=(z0t s).N from rfl,h];exact ⟨m',g',rfl,hG⟩
end Go.Pn
namespace Go.Pn
open Go
theorem Lg.le {g:List LG} {i d:Nat} (h:Lg g i d):d<=g.length:=by
 obtain ⟨b,hb⟩:=h.1;rcases G5 g.length d with h5 | h5
 ·exact absurd (hb.cyc h5) h.noCy
 ·exact h5
theorem Li {g:List LG} (hg:∀ l∈g,∀ k∈l,0<=k/\k < g.length) (hgl:g.length<=120) (a2:Int) (a3:Bool) (a4 a5:Int) (a6:List LL) (a7:List Ae) (a8 a9:LG) (a10:List Node) (a11:List (LL×Int)) (a13:List (Ab×Bool)) {f i:Nat} (hL:∀ (F:LG) (k:Nat),Fr_ g F->k < g.length->whites F + 200<=f->(∀ j,F.getD j 0=-2->∃ n,Wl g j k (n + 1)) ->
   ∃ b F',Vs g f F k=some (b,F')/\m34 f (k:Int) F a2 a3 a4 a5 a6 a7 a8 a9 a10 a11 g a13=some (b,F')) {l:LG} (hl:∀ k∈l,0<=k/\k < g.length/\Eg g i k.toNat) (hll:l.length<=100) :
  ∀ (k n j:Nat) (F:LG) (best:Int),j + k=l.length->k < n->Fr_ g F->whites F + 200<=f->(∀ j,F.getD j 0=-2->∃ n,Wl g j i n)->0<=best->best<=1000 ->
   ∃ o F',lpF g f (l.drop j) F best=some (o,F')/\∃ q,Oo (m34 f) a2 a3 a4 a5 a6 a7 a8 a9 a10 a11 g a13 l n (best,(j:Int),F)=some (match o with | some r=>.brk (r,q,F') | none=>.ret (false,F'))
 | _,0,_,_,_,_,h,_,_,_,_,_=>by omega
 | 0,n + 1,j,F,best,h1,_,_,_,_,_,_=>by
  obtain rfl:j=l.length:=by omega
  refine ⟨some best,F,by rw [List.drop_length,lpF],(l.length:Int),?_⟩;rw [Oo];dsimp only;rw [Ao,df_ (JJ _),cf_]
 | k + 1,n + 1,j,F,best,h1,h2,hF,hw,hgr,hb0,hb1=>by
  have hj:j < l.length:=by omega
  have hm:=GA hj;obtain ⟨k0,k1,k2⟩:=hl _ hm;have hgr':∀ x,F.getD x 0=-2->∃ n,Wl g x (l[j]).toNat (n + 1):=λx hx=>let ⟨n,hn⟩:=hgr x hx;⟨n,hn.snoc k2⟩
  obtain ⟨b,F1,e1,e2⟩:=hL F (l[j]).toNat hF om_ hw hgr';obtain ⟨b',F1',e1',f1,f2⟩:=Ez hg f F (l[j]).toNat hF om_ om_ hgr';rw [e1] at e1';obtain ⟨rfl,rfl⟩:b=b'/\F1=F1':=by simpa using e1'
  rw [J1 k0] at e2;rw [G0 hj,lpF,e1,Oo];dsimp only;rw [Ao,dt_ hj,ct_,Am,gE_ hj,ob_,e2,ob_];cases b with
  | false=>exact ⟨none,F1,rfl,0,rfl⟩
  | true=>
   obtain ⟨t1,t2,d,t3,t4⟩:=f1 rfl;have hd:=t4.le;have hi1:idx F1 l[j]=some (F1.getD (l[j]).toNat 0):=by
    have:=Xk (G:=F1) (i:=(l[j]).toNat) (by rw [t2.len];omega)
    rwa [J1 k0] at this
   have hmx:(if F1.getD (l[j]).toNat 0 + 1 > best then F1.getD (l[j]).toNat 0 + 1 else best)=max best (F1.getD (l[j]).toNat 0 + 1):=by split <;> omega
   dsimp only;rw [H1,cf_,hi1,ob_,Ar om_ om_,hmx,Aq om_];have hwt:=t1.whites;exact Li hg hgl a2 a3 a4 a5 a6 a7 a8 a9 a10 a11 a13 hL hl hll k n (j + 1) F1 _ om_ om_ t2 om_ (λx hx=>hgr x (t1.gr x hx)) om_ om_
theorem Xc {g:List LG} (hg:∀ l∈g,∀ k∈l,0<=k/\k < g.length) (hrow:∀ l∈g,l.length<=100) (hgl:g.length<=120) (a2:Int) (a3:Bool) (a4 a5:Int) (a6:List LL) (a7:List Ae) (a8 a9:LG) (a10:List Node) (a11:List (LL×Int)) (a13:List (Ab×Bool)):∀ (f:Nat) (F:LG) (i:Nat),Fr_ g F->i < g.length->whites F + 200<=f->(∀ j,F.getD j 0=-2->∃ n,Wl g j i (n + 1)) ->
   ∃ b F',Vs g f F i=some (b,F')/\m34 f (i:Int) F a2 a3 a4 a5 a6 a7 a8 a9 a10 a11 g a13=some (b,F')
 | 0,F,i,_,_,h,_=>by omega
 | f + 1,F,i,hF,hi,hw,hgr=>by
  have hiF:i < F.length:=by rw [hF.len];exact hi
  rw [Vs,m34,Xk hiF,ob_];by_cases h1:F.getD i 0=-1
  ·rw [if_pos h1,show (F.getD i 0 != -1)=false by simpa using h1,cf_,ob_];have hw2:=Nl hiF h1 (v:=-2) (by decide);obtain ⟨l,hl⟩:∃ l,g[i]?=some l:=⟨_,gE_ hi⟩;have hlg:g.getD i []=l:=by simp [FU,hl]
   have hlm:l∈g:=GF hl;have hlr:=hrow l hlm;have hFr:Fr_ g (F.set i (-2)):=⟨by simp [hF.len],λj hj=>by
     rw [Bk hiF];split
     ·exact .inr (.inl rfl)
     ·exact hF.ok j (by simpa using hj)⟩
   have hll:∀ k∈l,0<=k/\k < g.length/\Eg g i k.toNat:=λk hk=>⟨(hg l hlm k hk).1,(hg l hlm k hk).2,l,hl,by rw [J1 (hg l hlm k hk).1];exact hk⟩;have hgr2:∀ j,(F.set i (-2)).getD j 0=-2->∃ n,Wl g j i n:=λj hj=>by
     rw [Bk hiF] at hj;split at hj
     ·rename_i h;subst h;exact ⟨0,.nil⟩
     ·obtain ⟨n,hn⟩:=hgr j hj;exact ⟨n + 1,hn⟩
   obtain ⟨o,F1,e1,q,e2⟩:=Li hg hgl a2 a3 a4 a5 a6 a7 a8 a9 a10 a11 a13 (Xc hg hrow hgl a2 a3 a4 a5 a6 a7 a8 a9 a10 a11 a13 f) hll hlr l.length f 0 (F.set i (-2)) 0 om_ om_ hFr om_ hgr2 (KH _) om_;obtain ⟨o',F1',e1',f1,_⟩:=Rf (i:=i) (Ez hg f) l (F.set i (-2)) 0 hFr hll om_ hgr2 (KH _);rw [HG] at e1;rw [e1] at e1';obtain ⟨rfl,rfl⟩:o=o'/\F1=F1':=by simpa using e1'
   rw [n0] at e2;rw [hlg,e1,Am,hl,ob_,G6,e2,ob_];cases o with
   | none=>exact ⟨false,F1,rfl,rfl⟩
   | some r=>
    have hlen:=(f1 r rfl).2.1.len;refine ⟨true,F1.set i r,rfl,?_⟩;dsimp only;rw [Xk om_];rfl
  ·rw [if_neg h1,show (F.getD i 0 != -1)=true by simpa using h1,ct_,ob_];exact ⟨_,F,rfl,rfl⟩
theorem fr_rep {g:List LG}:Fr_ g (List.replicate g.length (-1))/\whites (List.replicate g.length (-1:Int))=g.length/\∀ j,(List.replicate g.length (-1:Int)).getD j 0≠-2:=by
 have hw:∀ n:Nat,(List.replicate n (-1:Int)).countP (·=-1)=n:=λn=>by
  induction n with
  | zero=>rfl
  | succ n ih=>rw [List.replicate_succ,List.countP_cons,ih];simp
 refine ⟨⟨by simp,λi hi=>?_⟩,hw _,λj=>?_⟩
 ·left;have hi':i < g.length:=by simpa using hi
  simp only [FU,JG,if_pos hi'];rfl
 ·simp only [FU,JG];split <;> simp
theorem Vr {B:List Ab} {g:List (Ab×Bool)} (hg:Bg g B) (e a:Int) (p:Bool) (b d:Int) (q1:List LL) (q2:List Ae) (q3 q4:LG) (N:List Node) (m:List (LL×Int)) (M:List LG) (i:Nat) (o:List Ab) (ho:o.length<=1000) :
  ∃ k,Eq (e,a,p,b,d,q1,q2,q3,q4,N,m,M,g) ((i:Int),o) FF (0,o)=some (k,o ++ (nv1 B i false ++ nv1 B i true)):=by
 have step:∀ (n:Nat) (j:Nat) (w:Bool) (v:List Ab),j < 2->[false,true][j]?=some w->v.length<=2000 ->
   Eq (e,a,p,b,d,q1,q2,q3,q4,N,m,M,g) ((i:Int),o) (n + 1) ((j:Int),v)=Eq (e,a,p,b,d,q1,q2,q3,q4,N,m,M,g) ((i:Int),o) n (((j + 1:Nat):Int),v ++ nv1 B i w):=λn j w v hi hw hv=>by
  rw [Eq];simp only [show ([false,true]:LH).length=2 from rfl,Ao,dt_ hi,ct_,Am,hw,ob_,hg ⟨(i:Int),w⟩];rw [Aq om_];unfold nv1;by_cases hm:(⟨(i:Int),w⟩:Ab)∈B
  ·rw [dt_ hm,if_pos hm,G2];rfl
  ·rw [df_ hm,if_neg hm,JL,ct_,Av so_];rfl
 have l1:=Uu (B:=B) (a:=i) (w:=false);show ∃ k,Eq _ ((i:Int),o) (99999 + 1) (((0:Nat):Int),o)=_;rw [step _ 0 false o om_ rfl om_];show ∃ k,Eq _ ((i:Int),o) (99998 + 1) (((1:Nat):Int),o ++ nv1 B i false)=_;rw [step _ 1 true _ om_ rfl (by rw [FR];omega)];show ∃ k,Eq _ ((i:Int),o) (99997 + 1) (((2:Nat):Int),o ++ nv1 B i false ++ nv1 B i true)=_;rw [Eq];simp only [show ([false,true]:LH).length=2 from rfl,Ao,df_ (JJ 2),cf_,GG];exact ⟨_,rfl⟩
end Go.Pn
namespace Go.Pn
open Go
def lnx (n:Nat):Expr:=⟨1,(n:Int),[]⟩
def Ec (op:Int):LJ->Expr
 | [n]=>lnx n
 | l=>⟨op,0,l.map lnx⟩
theorem Pu {d n:Nat} {ls:LH}:ev (d + 1) ls (lnx n)=ls.getD n false:=by
 unfold ev lnx;rw [if_neg (by show ¬ (1:Int)=0;omega),if_pos rfl];show (idx ls (n:Int)).getD false=_;rw [Am,FU]
theorem Mt {d:Nat} {ls:LH} {l:LJ}:ev (d + 2) ls (Ec 3 l)=l.all λn=>ls.getD n false:=by
 have key:ev (d + 2) ls ⟨3,0,l.map lnx⟩=l.all λn=>ls.getD n false:=by
  unfold ev;rw [if_neg (by show ¬ (3:Int)=0;omega),if_neg (by show ¬ (3:Int)=1;omega),if_neg (by show ¬ (3:Int)=2;omega),if_pos rfl];show (l.map lnx).all (ev (d + 1) ls)=_;rw [List.all_map];refine List.all_congr rfl λn=>?_;exact Pu
 match l,key with
 | [],key=>exact key
 | [n],_=>show ev (d + 2) ls (lnx n)=_;rw [Pu];simp
 | _ :: _ :: _,key=>exact key
theorem ev_or {d:Nat} {ls:LH} {l:LJ}:ev (d + 2) ls (Ec 4 l)=l.any λn=>ls.getD n false:=by
 have key:ev (d + 2) ls ⟨4,0,l.map lnx⟩=l.any λn=>ls.getD n false:=by
  unfold ev;rw [if_neg (by show ¬ (4:Int)=0;omega),if_neg (by show ¬ (4:Int)=1;omega),if_neg (by show ¬ (4:Int)=2;omega),if_neg (by show ¬ (4:Int)=3;omega)];show (l.map lnx).any (ev (d + 1) ls)=_;rw [List.any_map];refine List.any_congr rfl λn=>?_;exact Pu
 match l,key with
 | [],key=>exact key
 | [n],_=>show ev (d + 2) ls (lnx n)=_;rw [Pu];simp
 | _ :: _ :: _,key=>exact key
theorem B7 {d n:Nat} {ls:LH}:ev (d + 2) ls ⟨2,0,[lnx n]⟩=!(ls.getD n false):=by
 unfold ev;rw [if_neg (by show ¬ (2:Int)=0;omega),if_neg (by show ¬ (2:Int)=1;omega),if_pos rfl];show (!([lnx n].any (ev (d + 1) ls)))=_;simp [Pu]
def lv (s:Ad) (n:Nat):Bool:=(vals s).getD n false
theorem Rr {s:Ad}:(Yx s).length=2 * s.Ends.length:=Pr
theorem lv_sw {c:Aa} {s:Ad} (h:Fit c s) {a:Nat} (ha:a < cA c) (o:Bool):lv s (2 * a + o.toNat)=(s.Ends.getD a 0 == (if o=true then 2 else 0)):=by
 have he:=h.e;have hel:=Rr (s:=s);have hb:o.toNat<=1:=by cases o <;> decide
 unfold lv vals pre;rw [FU,GG,FY om_];unfold Yx;rw [B3];have h1:(2 * a + o.toNat) / 2=a:=by omega
 have h2:(2 * a + o.toNat) % 2=o.toNat:=by omega
 rw [h1,h2,gE_ om_,FU,gE_ om_];cases o <;> simp
theorem lv_in {c:Aa} {s:Ad} (h:Fit c s) {i:Nat} (hi:i < c.Inputs.length):lv s (2 * cA c + i)=s.Inputs.getD i false:=by
 have he:=h.e;have hn:=h.i;have hel:=Rr (s:=s);unfold lv vals pre;rw [FU,GG,F5 om_,FY om_,FU];congr 2;omega
theorem AB {c:Aa} {s:Ad} (h:Fit c s):(pre s).length=cS c:=by
 have he:=h.e;have hn:=h.i;unfold pre cS;rw [FR,Rr,he,hn]
theorem lv_sg {c:Aa} {s:Ad} (h:Fit c s) (i:Nat):lv s (cS c + i)=s.Values.getD i false:=by
 have:=AB h;unfold lv vals;rw [FU,F5 om_,FU];congr 2;omega
theorem Rj {c:Aa} {s:Ad} {i:Nat}:∀ {j:Nat},i<=j->∀ k,k < i->(Cu c s j)[k]?=(Cu c s i)[k]?
 | 0,h,k,hk=>by omega
 | j + 1,h,k,hk=>by
  rcases GV h with h | h
  ·subst h;rfl
  ·have ih:=Rj (c:=c) (s:=s) (show i<=j by omega) k hk;rw [← ih];show (Gn c (pre s) j (Cu c s j))[k]?=_;unfold Gn;split
   ·split
    ·rw [H5 om_]
    ·rfl
   ·rfl
theorem Kj {c:Aa} {s:Ad} {k:Nat} {y:Ae} (hy:c.Signals[k]?=some y) (hk:y.Kind≠0):∀ (j:Nat),(Cu c s j)[k]?=s.Values[k]?
 | 0=>rfl
 | j + 1=>by
  have ih:=Kj (s:=s) hy hk j;rw [← ih];show (Gn c (pre s) j (Cu c s j))[k]?=_;unfold Gn;split
  ·rename_i x hx;split
   ·rename_i h0;by_cases e:j=k
    ·subst e;rw [hy] at hx;obtain rfl:=Option.some.inj hx;exact absurd h0 hk
    ·rw [H5 e]
   ·rfl
  ·rfl
def Rdy (c:Aa) (i n:Nat):Prop:=n < cS c\/∃ k,n=cS c + k/\(k < i\/∃ y,c.Signals[k]?=some y/\y.Kind≠0)
theorem Jh {c:Aa} {s:Ad} (hf:Fit c s) {i:Nat} {x:Ae} (hx:c.Signals[i]?=some x) (hk:x.Kind=0)
  (hd:∀ u v:LH,(∀ n,Rdy c i n->u.getD n false=v.getD n false)->ev 16 u x.On=ev 16 v x.On) :
  (gates c s).Values.getD i false=ev 16 (vals (gates c s)) x.On:=by
 have him:=(FT.1 hx).1;have hv:=hf.x;have hp:=AB hf;show (Cu c s c.Signals.length).getD i false=ev 16 (pre s ++ Cu c s c.Signals.length) x.On;rw [FU,Rj (show i + 1<=c.Signals.length by omega) i om_];show ((Gn c (pre s) i (Cu c s i))[i]?).getD false=_;unfold Gn;rw [hx];dsimp only;rw [if_pos hk,H0 (by rw [Ci];omega),H3];refine hd _ _ λn hn=>?_;rw [FU,FU];rcases hn with h | ⟨k,rfl,h⟩
 ·rw [FY om_,FY om_]
 ·rw [F5 om_,F5 om_,hp,show cS c + k - cS c=k by omega];rcases h with h | ⟨y,hy,hk⟩
  ·rw [Rj (show i<=c.Signals.length by omega) k h]
  ·rw [Kj hy hk,Kj hy hk]
theorem BY {c:Aa} {s:Ad} (hf:Fit c s) {i:Nat} {x:Ae} (hx:c.Signals[i]?=some x) (hk:x.Kind=0) {l:LJ} (ho:x.On=Ec 3 l) (hl:∀ n∈l,Rdy c i n) :
  (gates c s).Values.getD i false=l.all (lv (gates c s)):=by
 have h:=Jh hf hx hk λu v h=>by
  rw [ho,Mt,Mt];rw [GU,F4,F4];exact ⟨λk n hn=>by rw [← h n (hl n hn)];exact k n hn,λk n hn=>by rw [h n (hl n hn)];exact k n hn⟩
 rw [h,ho,Mt];rfl
theorem D5 {c:Aa} {s:Ad} (hf:Fit c s) {i:Nat} {x:Ae} (hx:c.Signals[i]?=some x) (hk:x.Kind=0) {l:LJ} (ho:x.On=Ec 4 l) (hl:∀ n∈l,Rdy c i n) :
  (gates c s).Values.getD i false=l.any (lv (gates c s)):=by
 have h:=Jh hf hx hk λu v h=>by
  rw [ho,ev_or,ev_or];rw [GU,F8,F8];exact ⟨λ⟨n,hn,k⟩=>⟨n,hn,by rw [← h n (hl n hn)];exact k⟩,λ⟨n,hn,k⟩=>⟨n,hn,by rw [h n (hl n hn)];exact k⟩⟩
 rw [h,ho,ev_or];rfl
theorem BX {c:Aa} {s:Ad} (hf:Fit c s) {i:Nat} {x:Ae} (hx:c.Signals[i]?=some x) (hk:x.Kind=0) {n:Nat} (ho:x.On=⟨2,0,[lnx n]⟩) (hl:Rdy c i n) :
  (gates c s).Values.getD i false=!(lv (gates c s) n):=by
 have h:=Jh hf hx hk λu v h=>by
  rw [ho,B7,B7,h n hl]
 rw [h,ho,B7];rfl
theorem Tv {c:Aa} {s:Ad} {k:Nat} {y:Ae} (hy:c.Signals[k]?=some y) (hk:y.Kind≠0):(gates c s).Values.getD k false=s.Values.getD k false:=by
 show (Cu c s c.Signals.length).getD k false=_;rw [FU,Kj hy hk,FU]
theorem Gp {α:Type} {f:Nat->α} {n i:Nat} {d:α} (h:i < n):((List.range n).map f).getD i d=f i:=by
 rw [FU,F9,GN h];rfl
theorem Qk {c:Aa} {s:Ad} (hf:Fit c s) {i:Nat} {x:Ae} (hx:c.Signals[i]?=some x):(once c s).Values.getD i false=(chg (vals (gates c s)) x ((gates c s).Values.getD i false) (s.Timers.getD i 0)).1:=by
 have him:=(FT.1 hx).1;have hv:(gates c s).Values.length=c.Signals.length:=Ci.trans hf.x;show ((List.range (gates c s).Values.length).map λi=>(Kl c (gates c s) i).1).getD i false=_;rw [Gp om_];unfold Kl;rw [hx];rfl
theorem C6 {c:Aa} {s:Ad} (hf:Fit c s) {i:Nat} {x:Ae} (hx:c.Signals[i]?=some x):(once c s).Timers.getD i 0=(chg (vals (gates c s)) x ((gates c s).Values.getD i false) (s.Timers.getD i 0)).2:=by
 have him:=(FT.1 hx).1;have hv:=hf.t;show ((List.range s.Timers.length).map λi=>(Kl c (gates c s) i).2).getD i 0=_;rw [Gp om_];unfold Kl;rw [hx];rfl
theorem Dv {α:Type} {a b:List α} {d:α} (hl:a.length=b.length) (h:∀ i,i < a.length->a.getD i d=b.getD i d):a=b:=by
 refine List.ext_getElem hl λi h1 h2=>?_;have:=h i h1;rw [FU,FU,gE_ h1,gE_ h2] at this;exact this
theorem EQ {s t:Ad} (h1:s.Ends=t.Ends) (h2:s.Valves=t.Valves) (h3:s.Inputs=t.Inputs) (h4:s.Values=t.Values) (h5:s.Timers=t.Timers):s=t:=by
 cases s;cases t;simp_all
theorem Zn {c:Aa} {k:Nat} {t:Ad} (h:once c t=t):stl c (k + 1) t=some t:=by
 unfold stl;rw [h,Da,if_pos rfl]
theorem Wg {c:Aa} {k:Nat} {s:Ad}:stl c (k + 2) s=stl c (k + 1) (once c s):=by
 show (if sst s (once c s)=true then some s else stl c (k + 1) (once c s))=_
 split
 ·rename_i h;have h:=Eb.1 h;rw [← h,Zn h.symm]
 ·rfl
theorem Zv {c:Aa} {k:Nat} {s t:Ad} (h:stl c 65 s=some t) (h2:rnd c t=s):rst c (k + 1) s=some s:=by
 unfold rst;rw [h];dsimp only;rw [h2,Da,if_pos rfl]
theorem Wk {c:Aa} {k:Nat} {s t:Ad} (h:stl c 65 s=some t):rst c (k + 2) s=rst c (k + 1) (rnd c t):=by
 show (match stl c 65 s with
  | none=>none
  | some t=>if sst (rnd c t) s=true then some s else rst c (k + 1) (rnd c t))=_
 rw [h];dsimp only;split
 ·rename_i h2;have h2:=Eb.1 h2;rw [h2,Zv h h2]
 ·rfl
theorem onP_no {c:Aa} {s:Ad} (h:∀ (i:Nat) (x:Ae),c.Signals[i]?=some x->x.Kind=1->(ev 16 (vals (gates c s)) x.On && ev 16 (vals (gates c s)) x.Off)=false) (y:Int):¬ onP c s y:=by
 rintro ⟨j,x,hj,hx,rfl,he⟩;unfold ofb at he;cases hk:x.Kind == 1 with
 | false=>rw [hk] at he;simp at he
 | true=>
  have:=h j x hx (by simpa using hk);rw [hk,HT] at he;rw [this] at he;cases he
end Go.Pn
namespace Go.Pn
open Go
inductive Sg where
 | gl (j:Nat)
 | tm (k:Nat)
 | sg (k:Nat)
 | pl (a:Nat) (o:Bool)
structure CasD where
 A:Nat
 n:Nat
 G:Nat
 S:Nat->List (Nat×Bool)
 W:Nat->Bool
 g:Nat->Nat
 la:Nat->Nat
 no:Sg->Nat
namespace CasD
def ok (q:CasD):Sg->Prop
 | .gl j=>j < q.G
 | .tm k=>k < q.n/\q.W k=true
 | .sg k=>k < q.n
 | .pl a _=>a < q.A
def L (q:CasD) (x:Sg):Nat:=2 * q.A + 1 + q.no x
def sw (x:Nat×Bool):Nat:=2 * x.1 + x.2.toNat
def en (q:CasD) (k:Nat):LJ:=if q.W k=true then [q.L (.tm k)] else (q.S k).map sw
def nx (q:CasD) (j:Nat):Nat:=if j + 1 < q.G then j + 1 else 0
def pv (q:CasD) (j:Nat):Nat:=if j=0 then q.G - 1 else j - 1
def bg (q:CasD) (k:Nat):LJ:=if k=0 then [2 * q.A] else if q.g (k - 1)=q.g k then q.en (k - 1) else []
def at_ (q:CasD) (a:Nat) (o:Bool):LJ:=(List.range q.n).filter λk=>decide ((a,o)∈q.S k)
end CasD
structure CasP (c:Aa) (q:CasD):Prop where
 a:cA c=q.A
 i:c.Inputs.length=1
 g2:2<=q.G
 gn:∀ k,k < q.n->q.g k < q.G
 ln:∀ j,j < q.G->q.la j < q.n
 Sa:∀ k,k < q.n->∀ x∈q.S k,x.1 < q.A
 sur:∀ i,i < c.Signals.length->∃ x,q.ok x/\q.no x=i
 tmS:∀ k,k < q.n->q.W k=true->∃ x,c.Signals[q.no (.tm k)]?=some x/\x.Kind=2/\x.On=Ec 3 (q.L (.gl (q.g k)) :: (q.S k).map CasD.sw)
 sgS:∀ k,k < q.n->∃ x,c.Signals[q.no (.sg k)]?=some x/\x.Kind=0/\x.On=Ec 3 (q.L (.gl (q.g k)) :: q.bg k)
 plS:∀ a o,a < q.A->∃ x,c.Signals[q.no (.pl a o)]?=some x/\x.Kind=0/\x.On=Ec 4 ((q.at_ a o).map λk=>q.L (.sg k))
 glS:q.G≠2->∀ j,j < q.G->∃ x,c.Signals[q.no (.gl j)]?=some x/\x.Kind=1/\x.On=Ec 3 (q.L (.gl (q.pv j)) :: q.en (q.la (q.pv j)))/\x.Off=lnx (q.L (.gl (q.nx j)))
 glT:q.G=2->∃ x,c.Signals[q.no (.gl 1)]?=some x/\x.Kind=1/\x.On=Ec 3 (q.en (q.la 0))/\x.Off=Ec 3 (q.en (q.la 1))
 glU:q.G=2->∃ x,c.Signals[q.no (.gl 0)]?=some x/\x.Kind=0/\x.On=⟨2,0,[lnx (q.L (.gl 1))]⟩
 ogs:q.G=2->∀ k,k < q.n->q.no (.gl 0) < q.no (.sg k)
 osp:∀ k a o,k < q.n->a < q.A->q.no (.sg k) < q.no (.pl a o)
 pls:∀ a,a < q.A->c.Plus.getD a 0=((q.L (.pl a true):Nat):Int)
 mns:∀ a,a < q.A->c.Minus.getD a 0=((q.L (.pl a false):Nat):Int)
structure Bs (c:Aa) (q:CasD) (s:Ad) (E:Nat->Int) (V:Nat->Bool) (M:Nat->Bool) (T:Nat->Int) (st:Bool):Prop where
 fit:Fit c s
 e:∀ a,a < q.A->s.Ends.getD a 0=E a
 v:∀ a,a < q.A->s.Valves.getD a false=V a
 i:s.Inputs.getD 0 false=st
 m:∀ j,j < q.G->(q.G=2->j=1)->s.Values.getD (q.no (.gl j)) false=M j
 m0:q.G=2->M 0=!M 1
 t:∀ k,k < q.n->q.W k=true->s.Timers.getD (q.no (.tm k)) 0=T k/\s.Values.getD (q.no (.tm k)) false=(T k == 2)
def Wc (o:Bool):Int:=if o=true then 2 else 0
def CasD.cm (q:CasD) (E:Nat->Int) (k:Nat):Bool:=(q.S k).all λx=>E x.1 == Wc x.2
def CasD.EN (q:CasD) (E:Nat->Int) (T:Nat->Int) (k:Nat):Bool:=if q.W k=true then T k == 2 else q.cm E k
def CasD.SG (q:CasD) (E:Nat->Int) (M:Nat->Bool) (T:Nat->Int) (st:Bool) (k:Nat):Bool:=M (q.g k) && (if k=0 then st else if q.g (k - 1)=q.g k then q.EN E T (k - 1) else true)
def CasD.PL (q:CasD) (E:Nat->Int) (M:Nat->Bool) (T:Nat->Int) (st:Bool) (a:Nat) (o:Bool):Bool:=(q.at_ a o).any λk=>q.SG E M T st k
variable {c:Aa} {q:CasD} {s:Ad} {E:Nat->Int} {V M:Nat->Bool} {T:Nat->Int} {st:Bool}
theorem CasP.cs (hc:CasP c q):cS c=2 * q.A + 1:=by unfold cS;rw [hc.a,hc.i]
theorem CasP.lvL (hc:CasP c q) {s:Ad} (h:Fit c s) (x:Sg):lv s (q.L x)=s.Values.getD (q.no x) false:=by
 rw [← lv_sg h];unfold CasD.L;rw [hc.cs]
theorem CasP.rdyN (hc:CasP c q) {i:Nat} {x:Sg} (h:q.no x < i\/∃ y,c.Signals[q.no x]?=some y/\y.Kind≠0):Rdy c i (q.L x):=.inr ⟨q.no x,by unfold CasD.L;rw [hc.cs],h⟩
theorem CasP.rdyS (hc:CasP c q) {i k:Nat} (hk:k < q.n):∀ n∈(q.S k).map CasD.sw,Rdy c i n:=by
 intro n hn;obtain ⟨x,hx,rfl⟩:=GE.1 hn;have:=hc.Sa k hk x hx;have hb:x.2.toNat<=1:=by cases x.2 <;> decide
 refine .inl ?_;rw [hc.cs];unfold CasD.sw;omega
theorem CasP.rdyE (hc:CasP c q) {i k:Nat} (hk:k < q.n):∀ n∈q.en k,Rdy c i n:=by
 intro n hn;unfold CasD.en at hn;split at hn
 ·rename_i hw;obtain rfl:=HQ.1 hn;obtain ⟨x,h1,h2,_⟩:=hc.tmS k hk hw;exact hc.rdyN (.inr ⟨x,h1,by omega⟩)
 ·exact hc.rdyS hk n hn
theorem CasP.rdyG (hc:CasP c q) {i j:Nat} (hj:j < q.G) (hi:q.G=2->q.no (.gl 0) < i):Rdy c i (q.L (.gl j)):=by
 by_cases h:q.G=2
 ·obtain ⟨x,h1,h2,_⟩:=hc.glT h;by_cases e:j=1
  ·subst e;exact hc.rdyN (.inr ⟨x,h1,by omega⟩)
  ·obtain rfl:j=0:=by omega
   exact hc.rdyN (.inl (hi h))
 ·obtain ⟨x,h1,h2,_⟩:=hc.glS h j hj;exact hc.rdyN (.inr ⟨x,h1,by omega⟩)
theorem CasP.rdyB (hc:CasP c q) {i k:Nat} (hk:k < q.n):∀ n∈q.bg k,Rdy c i n:=by
 intro n hn;unfold CasD.bg at hn;split at hn
 ·obtain rfl:=HQ.1 hn;exact .inl (by rw [hc.cs];omega)
 ·split at hn
  ·exact hc.rdyE om_ n hn
  ·cases hn
theorem Bs.sw (hc:CasP c q) (h:Bs c q s E V M T st) {x:Nat×Bool} (hx:x.1 < q.A):lv s (CasD.sw x)=(E x.1 == Wc x.2):=by
 unfold CasD.sw;rw [lv_sw h.fit (by rw [hc.a];exact hx),h.e _ hx];rfl
theorem Bs.cmv (hc:CasP c q) (h:Bs c q s E V M T st) {k:Nat} (hk:k < q.n):((q.S k).map CasD.sw).all (lv s)=q.cm E k:=by
 unfold CasD.cm;rw [List.all_map];rw [GU,F4,F4];exact ⟨λg x hx=>by rw [← h.sw hc (hc.Sa k hk x hx)];exact g x hx,λg x hx=>by show lv s (CasD.sw x)=true;rw [h.sw hc (hc.Sa k hk x hx)];exact g x hx⟩
theorem Bs.env (hc:CasP c q) (h:Bs c q s E V M T st) {k:Nat} (hk:k < q.n):(q.en k).all (lv s)=q.EN E T k:=by
 unfold CasD.en CasD.EN;split
 ·rename_i hw;rw [KE,List.all_nil,JH,hc.lvL h.fit,(h.t k hk hw).2]
 ·exact h.cmv hc hk
structure Gk (c:Aa) (q:CasD) (s:Ad) (E:Nat->Int) (M:Nat->Bool) (T:Nat->Int) (st:Bool):Prop where
 gl:∀ j,j < q.G->s.Values.getD (q.no (.gl j)) false=M j
 sg:∀ k,k < q.n->s.Values.getD (q.no (.sg k)) false=q.SG E M T st k
 pl:∀ a o,a < q.A->s.Values.getD (q.no (.pl a o)) false=q.PL E M T st a o
theorem Bs.gates (hc:CasP c q) (h:Bs c q s E V M T st):Bs c q (gates c s) E V M T st:=by
 refine ⟨Hq h.fit,h.e,h.v,h.i,λj hj hg=>?_,h.m0,λk hk hw=>⟨(h.t k hk hw).1,?_⟩⟩
 ·have:∃ x,c.Signals[q.no (.gl j)]?=some x/\x.Kind=1:=by
   by_cases h2:q.G=2
   ·obtain rfl:=hg h2;obtain ⟨x,h1,h3,_⟩:=hc.glT h2;exact ⟨x,h1,h3⟩
   ·obtain ⟨x,h1,h3,_⟩:=hc.glS h2 j hj;exact ⟨x,h1,h3⟩
  obtain ⟨x,h1,h2⟩:=this;rw [Tv h1 om_];exact h.m j hj hg
 ·obtain ⟨x,h1,h2,_⟩:=hc.tmS k hk hw;rw [Tv h1 om_];exact (h.t k hk hw).2
theorem Bs.gk (hc:CasP c q) (h:Bs c q s E V M T st):Gk c q (Pn.gates c s) E M T st:=by
 have hg:=h.gates hc;have hf:=h.fit;have gl:∀ j,j < q.G->(Pn.gates c s).Values.getD (q.no (.gl j)) false=M j:=by
  intro j hj;by_cases h2:q.G=2
  ·by_cases e:j=1
   ·exact hg.m j hj λ_=>e
   ·obtain rfl:j=0:=by omega
    obtain ⟨x,h1,h3,h4⟩:=hc.glU h2;obtain ⟨y,g1,g3,_⟩:=hc.glT h2;rw [BX hf h1 h3 h4 (hc.rdyN (.inr ⟨y,g1,by omega⟩)),hc.lvL hg.fit,hg.m 1 om_ λ_=>rfl,h.m0 h2]
  ·exact hg.m j hj λe=>absurd e h2
 have sg:∀ k,k < q.n->(Pn.gates c s).Values.getD (q.no (.sg k)) false=q.SG E M T st k:=by
  intro k hk;obtain ⟨x,h1,h2,h3⟩:=hc.sgS k hk;rw [BY hf h1 h2 h3 (λn hn=>by
   rcases GH.1 hn with rfl | hn
   ·exact hc.rdyG (hc.gn k hk) λe=>hc.ogs e k hk
   ·exact hc.rdyB hk n hn),KE,hc.lvL hg.fit,gl _ (hc.gn k hk)]
  unfold CasD.SG CasD.bg;congr 1;by_cases e:k=0
  ·rw [if_pos e,if_pos e,KE,List.all_nil,JH];have:=lv_in hg.fit (i:=0) (by rw [hc.i];omega);rw [hc.a] at this;rw [show 2 * q.A=2 * q.A + 0 from rfl,this];exact hg.i
  ·rw [if_neg e,if_neg e];split
   ·exact hg.env hc om_
   ·rfl
 refine ⟨gl,sg,λa o ha=>?_⟩;obtain ⟨x,h1,h2,h3⟩:=hc.plS a o ha;have hmem:∀ k∈q.at_ a o,k < q.n:=λk hk=>F6.1 (HC.1 hk).1;rw [D5 hf h1 h2 h3 (λn hn=>by
  obtain ⟨k,hk,rfl⟩:=GE.1 hn;exact hc.rdyN (.inl (hc.osp k a o (hmem k hk) ha))),List.any_map]
 unfold CasD.PL;rw [GU,F8,F8];exact ⟨λ⟨k,hk,g⟩=>⟨k,hk,by rw [← sg k (hmem k hk),← hc.lvL hg.fit];exact g⟩,λ⟨k,hk,g⟩=>⟨k,hk,by show lv _ (q.L (.sg k))=true;rw [hc.lvL hg.fit,sg k (hmem k hk)];exact g⟩⟩
end Go.Pn
namespace Go.Pn
open Go
variable {c:Aa} {q:CasD} {s:Ad} {E:Nat->Int} {V M:Nat->Bool} {T:Nat->Int} {st:Bool}
theorem Bs.eq (hc:CasP c q) {t:Ad} (hs:Bs c q s E V M T st) (ht:Bs c q t E V M T st) (gs:Gk c q s E M T st) (gt:Gk c q t E M T st):s=t:=by
 have f:=hs.fit;have f':=ht.fit;have ha:=hc.a;have hi:=hc.i;refine EQ ?_ ?_ ?_ ?_ ?_
 ·exact Dv (d:=0) (f.e.trans f'.e.symm) λi h=>by rw [hs.e i (by have:=f.e;omega),ht.e i (by have:=f.e;omega)]
 ·exact Dv (d:=false) (f.v.trans f'.v.symm) λi h=>by rw [hs.v i (by have:=f.v;omega),ht.v i (by have:=f.v;omega)]
 ·refine Dv (d:=false) (f.i.trans f'.i.symm) λi h=>?_;obtain rfl:i=0:=by have:=f.i;omega
  rw [hs.i,ht.i]
 ·refine Dv (d:=false) (f.x.trans f'.x.symm) λi h=>?_;obtain ⟨x,hx,rfl⟩:=hc.sur i (by have:=f.x;omega);cases x with
  | gl j=>rw [gs.gl j hx,gt.gl j hx]
  | tm k=>rw [(hs.t k hx.1 hx.2).2,(ht.t k hx.1 hx.2).2]
  | sg k=>rw [gs.sg k hx,gt.sg k hx]
  | pl a o=>rw [gs.pl a o hx,gt.pl a o hx]
 ·refine Dv (d:=0) (f.t.trans f'.t.symm) λi h=>?_;have hlt:i < c.Signals.length:=by have:=f.t;omega
  have hz:∀ u:Ad,Fit c u->c.Signals[i].Kind≠2->u.Timers.getD i 0=0:=λu fu hk=>by
   have h1:i < u.Timers.length:=by rw [fu.t];exact hlt
   have h2:i < u.Values.length:=by rw [fu.x];exact hlt
   have:=(fu.k i _ _ _ (gE_ hlt) (gE_ h1) (gE_ h2)).1 hk;rw [FU,gE_ h1];exact this
  by_cases hk:c.Signals[i].Kind=2
  ·obtain ⟨x,hx,rfl⟩:=hc.sur i hlt;have hg:=gE_ hlt;cases x with
   | gl j=>
    exfalso;by_cases h2:q.G=2
    ·by_cases e:j=1
     ·subst e;obtain ⟨y,h1,h3,_⟩:=hc.glT h2;rw [hg] at h1;rw [Option.some.inj h1] at hk;omega
     ·obtain rfl:j=0:=by have:j < q.G:=hx;omega
      obtain ⟨y,h1,h3,_⟩:=hc.glU h2;rw [hg] at h1;rw [Option.some.inj h1] at hk;omega
    ·obtain ⟨y,h1,h3,_⟩:=hc.glS h2 j hx;rw [hg] at h1;rw [Option.some.inj h1] at hk;omega
   | tm k=>rw [(hs.t k hx.1 hx.2).1,(ht.t k hx.1 hx.2).1]
   | sg k=>exfalso;obtain ⟨y,h1,h3,_⟩:=hc.sgS k hx;rw [hg] at h1;rw [Option.some.inj h1] at hk;omega
   | pl a o=>exfalso;obtain ⟨y,h1,h3,_⟩:=hc.plS a o hx;rw [hg] at h1;rw [Option.some.inj h1] at hk;omega
  ·rw [hz s f hk,hz t f' hk]
theorem Bs.gg (hc:CasP c q) (h:Bs c q s E V M T st):Pn.gates c (Pn.gates c s)=Pn.gates c s:=
 Bs.eq hc ((h.gates hc).gates hc) (h.gates hc) ((h.gates hc).gk hc) (h.gk hc)
def CasD.on (q:CasD) (E:Nat->Int) (M:Nat->Bool) (T:Nat->Int) (j:Nat):Bool:=if q.G=2 then q.EN E T (q.la 0) else M (q.pv j) && q.EN E T (q.la (q.pv j))
def CasD.off (q:CasD) (E:Nat->Int) (M:Nat->Bool) (T:Nat->Int) (j:Nat):Bool:=if q.G=2 then q.EN E T (q.la 1) else M (q.nx j)
def CasD.md (q:CasD) (E:Nat->Int) (M:Nat->Bool) (T:Nat->Int) (j:Nat):Bool:=if q.on E M T j=q.off E M T j then M j else q.on E M T j
def CasD.M1 (q:CasD) (E:Nat->Int) (M:Nat->Bool) (T:Nat->Int) (j:Nat):Bool:=if q.G=2/\j=0 then !(q.md E M T 1) else q.md E M T j
def CasD.T1 (q:CasD) (E:Nat->Int) (M:Nat->Bool) (T:Nat->Int) (k:Nat):Int:=if (M (q.g k) && q.cm E k)=false then 0 else if T k=0 then 1 else T k
theorem CasD.pvl {q:CasD} (h:2<=q.G) {j:Nat} (hj:j < q.G):q.pv j < q.G:=by unfold CasD.pv; split <;> omega
theorem CasD.nxl {q:CasD} (h:2<=q.G) {j:Nat}:q.nx j < q.G:=by unfold CasD.nx; split <;> omega
theorem CasP.mem (hc:CasP c q) (h:Bs c q s E V M T st) {j:Nat} (hj:j < q.G) (hg:q.G=2->j=1):∃ x,c.Signals[q.no (.gl j)]?=some x/\x.Kind=1/\ev 16 (vals (gates c s)) x.On=q.on E M T j/\ev 16 (vals (gates c s)) x.Off=q.off E M T j:=by
 have gb:=h.gates hc;have gk:=h.gk hc;have h2:=hc.g2;by_cases e:q.G=2
 ·obtain rfl:=hg e;obtain ⟨x,a1,a2,a3,a4⟩:=hc.glT e;refine ⟨x,a1,a2,?_,?_⟩
  ·rw [a3,Mt];unfold CasD.on;rw [if_pos e];exact gb.env hc (hc.ln 0 om_)
  ·rw [a4,Mt];unfold CasD.off;rw [if_pos e];exact gb.env hc (hc.ln 1 om_)
 ·obtain ⟨x,a1,a2,a3,a4⟩:=hc.glS e j hj;have p1:=CasD.pvl h2 hj;refine ⟨x,a1,a2,?_,?_⟩
  ·rw [a3,Mt];unfold CasD.on;rw [if_neg e];have h3:=gb.env hc (hc.ln _ p1);have h4:lv (gates c s) (q.L (.gl (q.pv j)))=M (q.pv j):=by rw [hc.lvL gb.fit,gk.gl _ p1]
   show ((q.L (.gl (q.pv j)) :: q.en (q.la (q.pv j))).all (lv (gates c s)))=_;rw [KE,h3,h4]
  ·rw [a4];unfold CasD.off;rw [if_neg e];rw [show (16:Nat)=15 + 1 from rfl,Pu];show lv (gates c s) (q.L (.gl (q.nx j)))=_;rw [hc.lvL gb.fit,gk.gl _ (CasD.nxl h2)]
theorem CasP.tim (hc:CasP c q) (h:Bs c q s E V M T st) {k:Nat} (hk:k < q.n) (hw:q.W k=true):∃ x,c.Signals[q.no (.tm k)]?=some x/\x.Kind=2/\ev 16 (vals (gates c s)) x.On=(M (q.g k) && q.cm E k):=by
 have gb:=h.gates hc;have gk:=h.gk hc;obtain ⟨x,a1,a2,a3⟩:=hc.tmS k hk hw;refine ⟨x,a1,a2,?_⟩;rw [a3,Mt];have h3:=gb.cmv hc hk;have h4:lv (gates c s) (q.L (.gl (q.g k)))=M (q.g k):=by rw [hc.lvL gb.fit,gk.gl _ (hc.gn k hk)]
 show ((q.L (.gl (q.g k)) :: (q.S k).map CasD.sw).all (lv (gates c s)))=_;rw [KE,h3,h4]
theorem Bs.once (hc:CasP c q) (h:Bs c q s E V M T st):Bs c q (Pn.once c s) E V (q.M1 E M T) (q.T1 E M T) st:=by
 have gb:=h.gates hc;have gk:=h.gk hc;refine ⟨Ql h.fit,h.e,h.v,h.i,λj hj hg=>?_,λe=>?_,λk hk hw=>?_⟩
 ·obtain ⟨x,a1,a2,a3,a4⟩:=hc.mem h hj hg;rw [Qk h.fit a1];unfold chg;rw [if_pos a2];unfold ofb;rw [a3,a4,a2,gb.m j hj hg,show ((1:Int) == 1)=true from rfl,HT];have hM1:q.M1 E M T j=q.md E M T j:=by
   unfold CasD.M1;exact if_neg (λe=>by have:=hg e.1;omega)
  rw [hM1];unfold CasD.md;by_cases h7:q.on E M T j=q.off E M T j
  ·rw [if_pos h7,if_pos h7]
  ·rw [if_neg h7,if_neg h7]
 ·unfold CasD.M1;rw [if_pos ⟨e,rfl⟩,if_neg om_]
 ·obtain ⟨x,a1,a2,a3⟩:=hc.tim h hk hw;have h1:=gb.t k hk hw;have h2:=h.t k hk hw;rw [Qk h.fit a1,C6 h.fit a1,h2.1,h1.2];unfold chg CasD.T1;rw [if_neg om_,if_pos a2,a3];by_cases h5:(M (q.g k) && q.cm E k)=false
  ·rw [if_pos h5,if_pos h5];exact ⟨rfl,rfl⟩
  ·rw [if_neg h5,if_neg h5];by_cases h6:T k=0
   ·rw [if_pos h6,if_pos h6];rw [h6];exact ⟨rfl,rfl⟩
   ·rw [if_neg h6,if_neg h6];exact ⟨rfl,rfl⟩
theorem Bs.once_gk (hc:CasP c q) (h:Bs c q s E V M T st) (hM:∀ j,j < q.G->q.M1 E M T j=M j):Gk c q (Pn.once c s) E M T st:=by
 have gk:=h.gk hc;have key:∀ i x,c.Signals[i]?=some x->x.Kind=0->(Pn.once c s).Values.getD i false=(Pn.gates c s).Values.getD i false:=λi x hx hk=>by
  rw [Qk h.fit hx];unfold chg;rw [if_neg om_,if_neg om_]
 refine ⟨λj hj=>?_,λk hk=>?_,λa o ha=>?_⟩
 ·by_cases e:q.G=2/\j=0
  ·obtain ⟨e1,rfl⟩:=e;obtain ⟨x,a1,a2,_⟩:=hc.glU e1;rw [key _ _ a1 a2,gk.gl 0 hj]
  ·rw [(h.once hc).m j hj (λe1=>by omega),hM j hj]
 ·obtain ⟨x,a1,a2,_⟩:=hc.sgS k hk;rw [key _ _ a1 a2,gk.sg k hk]
 ·obtain ⟨x,a1,a2,_⟩:=hc.plS a o ha;rw [key _ _ a1 a2,gk.pl a o ha]
theorem Bs.cong (h:Bs c q s E V M T st) (hq:2<=q.G) {E':Nat->Int} {V' M':Nat->Bool} {T':Nat->Int} (hE:∀ a,a < q.A->E a=E' a) (hV:∀ a,a < q.A->V a=V' a) (hM:∀ j,j < q.G->M j=M' j) (hT:∀ k,k < q.n->q.W k=true->T k=T' k):Bs c q s E' V' M' T' st:=
 ⟨h.fit,λa ha=>by rw [h.e a ha,hE a ha],λa ha=>by rw [h.v a ha,hV a ha],h.i,λj hj hg=>by rw [h.m j hj hg,hM j hj],λe=>by rw [← hM 0 om_,← hM 1 om_];exact h.m0 e,λk hk hw=>by rw [← hT k hk hw];exact h.t k hk hw⟩
theorem Bs.stl (hc:CasP c q) (h:Bs c q s E V M T st) (hM:∀ j,j < q.G->q.M1 E M T j=M j) (hT:∀ k,k < q.n->q.W k=true->q.T1 E M T k=T k) (k:Nat):Pn.stl c (k + 2) s=some (Pn.gates c s):=by
 have key:∀ u,Bs c q u E V M T st->Pn.once c u=Pn.gates c u:=λu hu=>by
  have h1:=hu.once hc;exact Bs.eq hc (h1.cong hc.g2 (λ_ _=>rfl) (λ_ _=>rfl) hM hT) (hu.gates hc) (hu.once_gk hc hM) (hu.gk hc)
 rw [Wg,key s h];exact Zn ((key _ (h.gates hc)).trans (h.gg hc))
theorem Bs.noc (hc:CasP c q) (h:Bs c q s E V M T st) (hn:∀ j,j < q.G->(q.G=2->j=1)->(q.on E M T j && q.off E M T j)=false) (y:Int):¬ onP c s y:=by
 refine onP_no (λi x hx hk=>?_) y;have hlt:=(FT.1 hx).1;obtain ⟨z,hz,rfl⟩:=hc.sur i hlt;cases z with
 | gl j=>
  have hj:j < q.G:=hz;have hg:q.G=2->j=1:=λe=>by
   by_cases e1:j=1
   ·exact e1
   ·obtain rfl:j=0:=by omega
    obtain ⟨y,h1,h3,_⟩:=hc.glU e;rw [hx] at h1;rw [Option.some.inj h1] at hk;omega
  obtain ⟨y,a1,a2,a3,a4⟩:=hc.mem h hj hg;rw [hx] at a1;obtain rfl:=Option.some.inj a1;rw [a3,a4];exact hn j hj hg
 | tm k=>obtain ⟨y,h1,h3,_⟩:=hc.tmS k hz.1 hz.2;rw [hx] at h1;rw [Option.some.inj h1] at hk;omega
 | sg k=>obtain ⟨y,h1,h3,_⟩:=hc.sgS k hz;rw [hx] at h1;rw [Option.some.inj h1] at hk;omega
 | pl a o=>obtain ⟨y,h1,h3,_⟩:=hc.plS a o hz;rw [hx] at h1;rw [Option.some.inj h1] at hk;omega
end Go.Pn
namespace Go.Pn
open Go
variable {c:Aa} {q:CasD} {s:Ad} {E:Nat->Int} {V M:Nat->Bool} {T:Nat->Int} {st:Bool}
def CasD.V1 (q:CasD) (E:Nat->Int) (V M:Nat->Bool) (T:Nat->Int) (st:Bool) (a:Nat):Bool:=if q.PL E M T st a true=q.PL E M T st a false then V a else q.PL E M T st a true
def CasD.E1 (q:CasD) (E:Nat->Int) (V M:Nat->Bool) (T:Nat->Int) (st:Bool) (a:Nat):Int:=Nh (q.V1 E V M T st a) (E a)
theorem Bs.lin (hc:CasP c q) (h:Bs c q s E V M T st) (g:Gk c q s E M T st) {a:Nat} (ha:a < q.A) (o:Bool):Pn.lin s (if o=true then c.Plus.getD a 0 else c.Minus.getD a 0)=q.PL E M T st a o:=by
 have key:Pn.lin s ((q.L (.pl a o):Nat):Int)=q.PL E M T st a o:=by
  unfold Pn.lin;rw [G6];show lv s (q.L (.pl a o))=_;rw [hc.lvL h.fit,g.pl a o ha]
 cases o with
 | true=>rw [if_pos rfl,hc.pls a ha];exact key
 | false=>rw [if_neg (by decide),hc.mns a ha];exact key
theorem Bs.vlv (hc:CasP c q) (h:Bs c q s E V M T st) (g:Gk c q s E M T st) {a:Nat} (ha:a < q.A):Pn.vlv c s a=q.V1 E V M T st a:=by
 have h1:=h.lin hc g ha true;have h2:=h.lin hc g ha false;rw [if_pos rfl] at h1;rw [if_neg (by decide)] at h2;unfold Pn.vlv CasD.V1;rw [h1,h2,h.v a ha]
theorem Bs.rnd (hc:CasP c q) (h:Bs c q s E V M T st) (g:Gk c q s E M T st):Bs c q (Pn.rnd c s) (q.E1 E V M T st) (q.V1 E V M T st) M T st:=by
 have ha:=hc.a;refine ⟨Qi h.fit,λa h1=>?_,λa h1=>?_,h.i,h.m,h.m0,h.t⟩
 ·show ((List.range s.Ends.length).map λi=>Nh (Pn.vlv c s i) (s.Ends.getD i 0)).getD a 0=_;rw [Gp (by rw [h.fit.e];omega),h.vlv hc g h1,h.e a h1];rfl
 ·show ((List.range s.Valves.length).map (Pn.vlv c s)).getD a false=_;rw [Gp (by rw [h.fit.v];omega),h.vlv hc g h1]
theorem Bs.rnd_same (hc:CasP c q) (h:Bs c q s E V M T st) (g:Gk c q s E M T st) (hE:∀ a,a < q.A->q.E1 E V M T st a=E a) (hV:∀ a,a < q.A->q.V1 E V M T st a=V a):Pn.rnd c s=s:=by
 have hr:=h.rnd hc g;have ha:=hc.a;refine EQ ?_ ?_ rfl rfl rfl
 ·exact Dv (d:=0) (hr.fit.e.trans h.fit.e.symm) λi hi=>by
   have:=hr.fit.e;rw [hr.e i om_,h.e i om_,hE i om_]
 ·exact Dv (d:=false) (hr.fit.v.trans h.fit.v.symm) λi hi=>by
   have:=hr.fit.v;rw [hr.v i om_,h.v i om_,hV i om_]
theorem Bs.nop (hc:CasP c q) (h:Bs c q s E V M T st) (g:Gk c q s E M T st) (hn:∀ a,a < q.A->(q.PL E M T st a true && q.PL E M T st a false)=false) (y:Int):¬ rnP c s y:=by
 rintro ⟨a,ha,_,hy⟩;have ha':a < q.A:=by rw [← hc.a];exact ha
 have h1:=h.lin hc g ha' true;have h2:=h.lin hc g ha' false;rw [if_pos rfl] at h1;rw [if_neg (by decide)] at h2;rw [h1,h2,hn a ha'] at hy;cases hy
def CasD.nc (q:CasD) (E:Nat->Int) (M:Nat->Bool) (T:Nat->Int):Prop:=∀ j,j < q.G->(q.G=2->j=1)->(q.on E M T j && q.off E M T j)=false
inductive Setl (q:CasD) (E:Nat->Int):Nat->(Nat->Bool)->(Nat->Int)->(Nat->Bool)->(Nat->Int)->Prop
 | fix {M:Nat->Bool} {T:Nat->Int} (hM:∀ j,j < q.G->q.M1 E M T j=M j) (hT:∀ k,k < q.n->q.W k=true->q.T1 E M T k=T k) (hn:q.nc E M T):Setl q E 0 M T M T
 | step {r:Nat} {M M' Ms:Nat->Bool} {T T' Ts:Nat->Int} (hM:∀ j,j < q.G->q.M1 E M T j=M' j) (hT:∀ k,k < q.n->q.W k=true->q.T1 E M T k=T' k) (hn:q.nc E M T) (h:Setl q E r M' T' Ms Ts):Setl q E (r + 1) M T Ms Ts
theorem Setl.run (hc:CasP c q) {r:Nat} {Ms:Nat->Bool} {Ts:Nat->Int} (h:Setl q E r M T Ms Ts):∀ {s:Ad} {k:Nat},Bs c q s E V M T st->r + 2<=k ->
  ∃ t,stl c k s=some t/\Bs c q t E V Ms Ts st/\Gk c q t E Ms Ts st/\gates c t=t/\∀ y,¬ CW c k s y:=by
 induction h with
 | fix hM hT hn=>
  intro s k hb hk;obtain ⟨k,rfl⟩:∃ k',k=k' + 2:=⟨k - 2,by omega⟩;have g:=hb.gates hc;refine ⟨gates c s,hb.stl hc hM hT k,g,hb.gk hc,hb.gg hc,λy hy=>?_⟩;have h1:=g.stl hc hM hT 0;rw [hb.gg hc] at h1;have key:∀ u,Bs c q u E V _ _ st->once c u=gates c u:=λu hu=>by
   have h1:=hu.once hc;exact Bs.eq hc (h1.cong hc.g2 (λ_ _=>rfl) (λ_ _=>rfl) hM hT) (hu.gates hc) (hu.once_gk hc hM) (hu.gk hc)
  rcases hy with hy | ⟨_,hy⟩
  ·exact hb.noc hc hn y hy
  ·rw [key s hb] at hy;rcases hy with hy | ⟨hy,_⟩
   ·exact g.noc hc hn y hy
   ·rw [key _ g,hb.gg hc,Da] at hy;cases hy
 | step hM hT hn h ih=>
  intro s k hb hk;obtain ⟨k,rfl⟩:∃ k',k=k' + 2:=⟨k - 2,by omega⟩;have h1:=(hb.once hc).cong hc.g2 (λ_ _=>rfl) (λ_ _=>rfl) hM hT;obtain ⟨t,h2,h3,h4,h5,h6⟩:=ih (k:=k + 1) h1 om_;refine ⟨t,by rw [Wg,h2],h3,h4,h5,λy hy=>?_⟩;rcases hy with hy | ⟨_,hy⟩
  ·exact hb.noc hc hn y hy
  ·exact h6 y hy
structure Rst (q:CasD) (E:Nat->Int) (V M:Nat->Bool) (T:Nat->Int) (st:Bool):Prop where
 fM:∀ j,j < q.G->q.M1 E M T j=M j
 fT:∀ k,k < q.n->q.W k=true->q.T1 E M T k=T k
 fE:∀ a,a < q.A->q.E1 E V M T st a=E a
 fV:∀ a,a < q.A->q.V1 E V M T st a=V a
 fn:q.nc E M T
 fp:∀ a,a < q.A->(q.PL E M T st a true && q.PL E M T st a false)=false
structure At_ (c:Aa) (q:CasD) (s:Ad) (E:Nat->Int) (V M:Nat->Bool) (T:Nat->Int) (st:Bool):Prop where
 b:Bs c q s E V M T st
 g:Gk c q s E M T st
 r:Rst q E V M T st
theorem At_.gates (hc:CasP c q) (h:At_ c q s E V M T st):Pn.gates c s=s:=Bs.eq hc (h.b.gates hc) h.b (h.b.gk hc) h.g
theorem At_.stl (hc:CasP c q) (h:At_ c q s E V M T st):Pn.stl c 65 s=some s:=by
 have:=h.b.stl hc h.r.fM h.r.fT 63;rw [h.gates hc] at this;exact this
theorem At_.rnd (hc:CasP c q) (h:At_ c q s E V M T st):Pn.rnd c s=s:=h.b.rnd_same hc h.g h.r.fE h.r.fV
theorem At_.rst (hc:CasP c q) (h:At_ c q s E V M T st) (k:Nat):Pn.rst c (k + 1) s=some s:=Zv (h.stl hc) (h.rnd hc)
theorem At_.qt (hc:CasP c q) (h:At_ c q s E V M T st):Qt c s:=⟨s,h.stl hc,by rw [h.rnd hc,Da]⟩
theorem At_.rstP (hc:CasP c q) (h:At_ c q s E V M T st) (k:Nat) (y:Int):¬ Pn.rstP c (k + 1) s y:=by
 intro hy;unfold Pn.rstP at hy;obtain ⟨t,h1,h2,h3,h4,h5⟩:=(Setl.fix h.r.fM h.r.fT h.r.fn).run hc h.b (k:=65) om_;rw [h.stl hc] at h1 hy;obtain rfl:=Option.some.inj h1;rcases hy with (hy | hy) | ⟨hy,_⟩
 ·exact h5 y hy
 ·exact h.b.nop hc h.g h.r.fp y hy
 ·rw [h.rnd hc,Da] at hy;cases hy
theorem Bs.rest (hc:CasP c q) {r:Nat} {Ms:Nat->Bool} {Ts:Nat->Int} {E':Nat->Int} {V':Nat->Bool} (hb:Bs c q s E V M T st) (h:Setl q E r M T Ms Ts) (hr:r<=60)
  (hp:∀ a,a < q.A->(q.PL E Ms Ts st a true && q.PL E Ms Ts st a false)=false)
  (hE:∀ a,a < q.A->q.E1 E V Ms Ts st a=E' a) (hV:∀ a,a < q.A->q.V1 E V Ms Ts st a=V' a) (hR:Rst q E' V' Ms Ts st) :
  ∃ u,Pn.rst c 65 s=some u/\At_ c q u E' V' Ms Ts st/\∀ y,¬ Pn.rstP c 65 s y:=by
 obtain ⟨t,h1,h2,h3,h4,h5⟩:=h.run hc hb (k:=65) om_;have b2:=(h2.rnd hc h3).cong hc.g2 hE hV (λ_ _=>rfl) (λ_ _ _=>rfl);obtain ⟨u,g1,g2,g3,g4,g5⟩:=(Setl.fix hR.fM hR.fT hR.fn).run hc b2 (k:=65) om_;have hu:At_ c q u E' V' Ms Ts st:=⟨g2,g3,hR⟩;refine ⟨u,?_,hu,λy hy=>?_⟩
 ·rw [Wk h1,Wk g1,hu.rnd hc,hu.rst hc]
 ·unfold Pn.rstP at hy;rw [h1] at hy;dsimp only at hy;rcases hy with (hy | hy) | ⟨_,hy⟩
  ·exact h5 y hy
  ·exact h2.nop hc h3 hp y hy
  ·unfold Pn.rstP at hy;rw [g1] at hy;dsimp only at hy;rcases hy with (hy | hy) | ⟨_,hy⟩
   ·exact g5 y hy
   ·exact g2.nop hc g3 hR.fp y hy
   ·rw [hu.rnd hc] at hy;exact hu.rstP hc _ y hy
end Go.Pn
namespace Go.Pn
open Go
def CasD.pos (q:CasD):Nat->Nat->Bool
  | 0,_=>false
  | k + 1,a=>if (a,true)∈q.S k then true else if (a,false)∈q.S k then false else q.pos k a
structure SqP (q:CasD):Prop where
  n0:0 < q.n
  ne:∀ k,k < q.n->q.S k≠[]
  fits:∀ k,k < q.n->∀ a o,(a,o)∈q.S k->q.pos k a=!o
  back:∀ a,q.pos q.n a=false
  g0:q.g 0=0
  gs:∀ k,k + 1 < q.n->q.g (k + 1)=q.g k\/q.g (k + 1)=q.g k + 1
  gl:q.g (q.n - 1) + 1=q.G
  gu:∀ i k,i < k->k < q.n->q.g i=q.g k->∀ a o o',(a,o)∈q.S i->(a,o')∈q.S k->False
  la:∀ j,j < q.G->q.g (q.la j)=j/\(q.la j + 1 < q.n->q.g (q.la j + 1)=j + 1)
variable {q:CasD}
theorem SqP.pos_in (h:SqP q) {k a:Nat} {o:Bool} (hk:k < q.n) (ha:(a,o)∈q.S k):q.pos (k + 1) a=o:=by
  have h1:=h.fits k hk a o ha;unfold CasD.pos;cases o with
  | true=>rw [if_pos ha]
  | false=>
    rw [if_neg (λe=>by have:=h.fits k hk a true e;rw [h1] at this;cases this),if_pos ha]
theorem De {k a:Nat} (ha:∀ o,(a,o) ∉ q.S k):q.pos (k + 1) a=q.pos k a:=by
  show (if (a,true)∈q.S k then true else if (a,false)∈q.S k then false else q.pos k a)=_
  rw [if_neg (ha true),if_neg (ha false)]
theorem SqP.mono (h:SqP q) {i:Nat}:∀ {k:Nat},i<=k->k < q.n->q.g i<=q.g k
  | 0,h1,_=>by obtain rfl:i=0:=(by omega);exact GB _
  | k + 1,h1,h2=>by
    rcases GV h1 with e | e
    · subst e;exact GB _
    · have:=h.mono (i:=i) (k:=k) om_ om_
      rcases h.gs k h2 with e | e <;> omega
theorem SqP.btw (h:SqP q) {i m k:Nat} (h1:i<=m) (h2:m<=k) (h3:k < q.n) (hg:q.g i=q.g k):q.g m=q.g k:=by
  have a:=h.mono h1 om_;have b:=h.mono h2 h3;omega
theorem SqP.posK (h:SqP q) {i a:Nat} {o:Bool} (ha:(a,o)∈q.S i):∀ {k:Nat},i<=k->k < q.n->q.g i=q.g k->q.pos (k + 1) a=o
  | 0,h1,h2,_=>by
    obtain rfl:i=0:=by omega
    exact h.pos_in h2 ha
  | k + 1,h1,h2,hg=>by
    rcases GV h1 with e | e
    · subst e;exact h.pos_in h2 ha
    · have hb:=h.btw (show i<=k by omega) (show k<=k + 1 by omega) h2 hg
      rw [De (λo' ho=>h.gu i (k + 1) e h2 hg a o o' ha ho)];exact h.posK ha om_ om_ om_
theorem SqP.posB (h:SqP q) {f k a:Nat} {o:Bool} (hk:k < q.n) (ha:(a,o)∈q.S k) (hf:f<=k) (hg:q.g f=q.g k):q.pos f a=!o:=by
  have key:∀ d,d<=k - f->q.pos (k - d) a=!o:=by
    intro d
    induction d with
    | zero=>intro _;exact h.fits k hk a o ha
    | succ d ih=>
      intro hd;have h1:=ih om_;have hm:=h.btw (show f<=k - (d + 1) by omega) (show k - (d + 1)<=k by omega) hk hg;rw [show k - d=k - (d + 1) + 1 by omega,De (λo' ho=>h.gu (k - (d + 1)) k om_ hk hm a o' o ho ha)] at h1;exact h1
  have:=key (k - f) (GB _);rw [show k - (k - f)=f by omega] at this;exact this
def CasD.Ek (q:CasD) (k:Nat) (mv:Nat->Bool) (a:Nat):Int:=if mv a=true then (if q.pos (k + 1) a=true then 1 else 3) else Wc (q.pos (k + 1) a)
def CasD.Ep (q:CasD) (f:Nat) (a:Nat):Int:=Wc (q.pos f a)
theorem Ru {a b:Bool}:(Wc a == Wc b)=(a == b):=by cases a <;> cases b <;> decide
def CasD.mvs (q:CasD) (k:Nat) (mv:Nat->Bool):Prop:=∀ a,mv a=true->∃ o,(a,o)∈q.S k
theorem SqP.cm_lo (h:SqP q) {k i:Nat} {mv:Nat->Bool} (hm:q.mvs k mv) (hi:i < k) (hk:k < q.n) (hg:q.g i=q.g k):q.cm (q.Ek k mv) i=true:=by
  unfold CasD.cm;rw [F4];rintro ⟨a,o⟩ hx;have hma:mv a=false:=by
    cases e:mv a with
    | false=>rfl
    | true=>obtain ⟨o',ho⟩:=hm a e;exact (h.gu i k hi hk hg a o o' hx ho).elim
  show (q.Ek k mv a == Wc o)=true;unfold CasD.Ek;rw [if_neg (by rw [hma];decide),h.posK hx om_ hk hg,Ru];simp
theorem SqP.cm_at (h:SqP q) {k:Nat} {mv:Nat->Bool} (hk:k < q.n):q.cm (q.Ek k mv) k=(q.S k).all λx=>!(mv x.1):=by
  unfold CasD.cm;rw [GU,F4,F4];have key:∀ x∈q.S k,(q.Ek k mv x.1 == Wc x.2)=!(mv x.1):=by
    rintro ⟨a,o⟩ hx;unfold CasD.Ek;rw [h.pos_in hk hx];dsimp only;cases mv a with
    | true=>rw [if_pos rfl]; cases o <;> decide
    | false=>rw [if_neg (by decide),Ru];simp
  exact ⟨λg x hx=>by rw [← key x hx];exact g x hx,λg x hx=>by rw [key x hx];exact g x hx⟩
theorem SqP.cm_B (h:SqP q) {E:Nat->Int} {f k:Nat} (hk:k < q.n) (hf:f<=k) (hg:q.g f=q.g k) (hE:∀ a o,(a,o)∈q.S k->E a=q.Ep f a):q.cm E k=false:=by
  obtain ⟨⟨a,o⟩,hx⟩:=KW _ (h.ne k hk);cases hc:q.cm E k with
  | false=>rfl
  | true=>
    unfold CasD.cm at hc;have:=F4.1 hc _ hx;dsimp only at this;rw [hE a o hx] at this;unfold CasD.Ep at this;rw [h.posB hk hx hf hg,Ru] at this;cases o <;> cases this
theorem SqP.cm_hi (h:SqP q) {k i:Nat} {mv:Nat->Bool} (hm:q.mvs k mv) (hi:k < i) (hn:i < q.n) (hg:q.g k=q.g i):q.cm (q.Ek k mv) i=false:=by
  have hb:=h.btw (show k<=k + 1 by omega) (show k + 1<=i by omega) hn hg;refine h.cm_B hn (show k + 1<=i by omega) hb λa o hx=>?_;have hma:mv a=false:=by
    cases e:mv a with
    | false=>rfl
    | true=>obtain ⟨o',ho⟩:=hm a e;exact (h.gu k i hi hn hg a o' o ho hx).elim
  unfold CasD.Ek CasD.Ep;rw [if_neg (by rw [hma];decide)]
def CasD.Mj (j:Nat) (i:Nat):Bool:=i == j
def CasD.Tk (q:CasD) (k:Nat) (t:Int) (i:Nat):Int:=if i=k then t else if i < k/\q.g i=q.g k then 2 else 0
theorem SqP.la_le (h:SqP q) {k:Nat} (hk:k < q.n) (hj:q.g k < q.G):k<=q.la (q.g k):=by
  obtain ⟨h1,h2⟩:=h.la _ hj;rcases G5 (q.la (q.g k)) k with h3 | h3
  · have h4:=h2 om_
    have:=h.mono (show q.la (q.g k) + 1<=k by omega) hk;omega
  · exact h3
def CasD.run (q:CasD) (k:Nat) (mv:Nat->Bool) (t:Int):Prop:=((∃ a o,(a,o)∈q.S k/\mv a=true)/\t=0)\/((∀ a o,(a,o)∈q.S k->mv a=false)/\q.W k=true/\t=1)
theorem SqP.cm_run (h:SqP q) {k:Nat} {mv:Nat->Bool} (hk:k < q.n):q.cm (q.Ek k mv) k=true↔∀ a o,(a,o)∈q.S k->mv a=false:=by
  rw [h.cm_at hk,F4];exact ⟨λg a o hx=>by have:=g _ hx;simpa using this,λg x hx=>by have:=g x.1 x.2 hx;simpa using this⟩
theorem SqP.EN_run (h:SqP q) {k:Nat} {mv:Nat->Bool} {t:Int} (hk:k < q.n) (hr:q.run k mv t):q.EN (q.Ek k mv) (q.Tk k t) k=false:=by
  unfold CasD.EN CasD.Tk;rw [if_pos rfl];rcases hr with ⟨⟨a,o,hx,hm⟩,rfl⟩ | ⟨_,hw,rfl⟩
  · split
    · rfl
    · cases hc:q.cm (q.Ek k mv) k with
      | false=>rfl
      | true=>have:=(h.cm_run hk).1 hc a o hx;rw [hm] at this;cases this
  · rw [if_pos hw];rfl
theorem SqP.EN_hi (h:SqP q) {k i:Nat} {mv:Nat->Bool} {t:Int} (hm:q.mvs k mv) (hi:k < i) (hn:i < q.n) (hg:q.g k=q.g i):q.EN (q.Ek k mv) (q.Tk k t) i=false:=by
  unfold CasD.EN CasD.Tk;split
  · rw [if_neg om_,if_neg om_];rfl
  · exact h.cm_hi hm hi hn hg
theorem SqP.EN_la (h:SqP q) {k:Nat} {mv:Nat->Bool} {t:Int} (hm:q.mvs k mv) (hk:k < q.n) (hj:q.g k < q.G) (hl:∀ j,j < q.G->q.la j < q.n) (he:q.la (q.g k)=k->q.EN (q.Ek k mv) (q.Tk k t) k=false):q.EN (q.Ek k mv) (q.Tk k t) (q.la (q.g k))=false:=by
  have h1:=h.la_le hk hj;obtain ⟨h2,_⟩:=h.la _ hj;rcases GV h1 with e | e
  · rw [← e];exact he e.symm
  · exact h.EN_hi hm e (hl _ hj) h2.symm
end Go.Pn
namespace Go.Pn
open Go
variable {c:Aa} {q:CasD} {E:Nat->Int} {V M:Nat->Bool} {T:Nat->Int} {st:Bool}
theorem CasD.nx_ne (h2:2<=q.G) {j:Nat} (hj:j < q.G):q.nx j≠j:=by unfold CasD.nx; split <;> omega
theorem CasD.pv_nx (h2:2<=q.G) {j:Nat} (hj:j < q.G):q.pv (q.nx j)=j:=by
 unfold CasD.nx CasD.pv;split
 ·rw [if_neg om_];omega
 ·rw [if_pos rfl];omega
theorem CasD.pv_eq (h2:2<=q.G) {i j:Nat} (hi:i < q.G) (hj:j < q.G) (h:q.pv i=j):i=q.nx j:=by
 unfold CasD.pv at h;unfold CasD.nx;split at h
 ·rw [if_neg om_];assumption
 ·rw [if_pos om_];omega
theorem CasD.nx_inj (h2:2<=q.G) {i j:Nat} (hi:i < q.G) (hj:j < q.G) (h:q.nx i=q.nx j):i=j:=by
 rw [← CasD.pv_nx h2 hi,← CasD.pv_nx h2 hj,h]
theorem Qc {j i:Nat}:CasD.Mj j i=true↔i=j:=by unfold CasD.Mj;simp
theorem FO {j i:Nat} (h:i≠j):CasD.Mj j i=false:=by unfold CasD.Mj;simpa using h
theorem CN {j:Nat}:CasD.Mj j j=true:=by unfold CasD.Mj;simp
theorem Nq (h2:2<=q.G) {j:Nat} (hj:j < q.G) (he:q.EN E T (q.la j)=false):(∀ i,i < q.G->q.M1 E (CasD.Mj j) T i=CasD.Mj j i)/\q.nc E (CasD.Mj j) T:=by
 by_cases e:q.G=2
 ·have hmd:q.md E (CasD.Mj j) T 1=CasD.Mj j 1:=by
   unfold CasD.md CasD.on CasD.off;rw [if_pos e,if_pos e];rcases (show j=0\/j=1 by omega) with rfl | rfl
   ·rw [he,FO om_]; split <;> rfl
   ·rw [he,CN];cases q.EN E T (q.la 0) <;> rfl
  refine ⟨λi hi=>?_,λi hi hg=>?_⟩
  ·unfold CasD.M1;by_cases h0:i=0
   ·subst h0;rw [if_pos ⟨e,rfl⟩,hmd];rcases (show j=0\/j=1 by omega) with rfl | rfl <;> rfl
   ·obtain rfl:i=1:=by omega
    rw [if_neg (λh=>by have:=h.2;omega),hmd]
  ·unfold CasD.on CasD.off;rw [if_pos e,if_pos e];rcases (show j=0\/j=1 by omega) with rfl | rfl
   ·rw [he];rfl
   ·rw [he,JP]
 ·have hon:∀ i,i < q.G->q.on E (CasD.Mj j) T i=false:=λi hi=>by
   unfold CasD.on;rw [if_neg e];by_cases h:q.pv i=j
   ·rw [h,he,JP]
   ·rw [FO h];rfl
  refine ⟨λi hi=>?_,λi hi hg=>by rw [hon i hi];rfl⟩;unfold CasD.M1 CasD.md;rw [if_neg (λh=>e h.1),hon i hi];unfold CasD.off;rw [if_neg e];by_cases h:q.nx i=j
  ·rw [h,CN,if_neg (by decide),FO (λe=>by subst e;exact CasD.nx_ne h2 hi h)]
  ·rw [FO h,if_pos rfl]
theorem nextM2 (e:q.G=2) {j:Nat} (hj:j < q.G) (he:q.EN E T (q.la j)=true) (he':q.EN E T (q.la (q.nx j))=false):(∀ i,i < q.G->q.M1 E (CasD.Mj j) T i=CasD.Mj (q.nx j) i)/\q.nc E (CasD.Mj j) T:=by
 have hx:q.nx j=1 - j:=by unfold CasD.nx; split <;> omega
 rw [hx] at he' ⊢;have hmd:q.md E (CasD.Mj j) T 1=CasD.Mj (1 - j) 1:=by
  unfold CasD.md CasD.on CasD.off;rw [if_pos e,if_pos e];rcases (show j=0\/j=1 by omega) with rfl | rfl
  ·rw [he,he'];rfl
  ·rw [he,he'];rfl
 refine ⟨λi hi=>?_,λi hi hg=>?_⟩
 ·unfold CasD.M1;by_cases h0:i=0
  ·subst h0;rw [if_pos ⟨e,rfl⟩,hmd];rcases (show j=0\/j=1 by omega) with rfl | rfl <;> rfl
  ·obtain rfl:i=1:=by omega
   rw [if_neg (λh=>by have:=h.2;omega),hmd]
 ·unfold CasD.on CasD.off;rw [if_pos e,if_pos e];rcases (show j=0\/j=1 by omega) with rfl | rfl
  ·rw [he,he'];rfl
  ·rw [he,he'];rfl
def CasD.Mk (q:CasD) (j i:Nat):Bool:=i == j || i == q.nx j
theorem nextM3 (h2:2<=q.G) (e:q.G≠2) {j:Nat} (hj:j < q.G) (he:q.EN E T (q.la j)=true):(∀ i,i < q.G->q.M1 E (CasD.Mj j) T i=q.Mk j i)/\q.nc E (CasD.Mj j) T:=by
 have hon:∀ i,i < q.G->q.on E (CasD.Mj j) T i=(i == q.nx j):=λi hi=>by
  unfold CasD.on;rw [if_neg e];by_cases h:i=q.nx j
  ·subst h;rw [CasD.pv_nx h2 hj,CN,he];simp
  ·rw [FO (λh'=>h (CasD.pv_eq h2 hi hj h'))];simp [h]
 have hof:∀ i,i < q.G->q.off E (CasD.Mj j) T i=(q.nx i == j):=λi hi=>by
  unfold CasD.off;rw [if_neg e];rfl
 have h3:q.nx (q.nx j)≠j:=by unfold CasD.nx; split <;> split <;> omega
 refine ⟨λi hi=>?_,λi hi hg=>?_⟩
 ·unfold CasD.M1 CasD.md CasD.Mk;rw [if_neg (λh=>e h.1),hon i hi,hof i hi];by_cases h:i=q.nx j
  ·subst h;rw [show (q.nx j == q.nx j)=true from beq_self_eq_true _,show (q.nx (q.nx j) == j)=false by simpa using h3,if_neg (by decide)];simp
  ·rw [show (i == q.nx j)=false by simpa using h,JO];by_cases h4:q.nx i=j
   ·rw [show (q.nx i == j)=true by simpa using h4,if_neg (by decide)];have:i≠j:=λe=>by subst e;exact CasD.nx_ne h2 hi h4
    simp [this]
   ·rw [show (q.nx i == j)=false by simpa using h4,if_pos rfl];rfl
 ·rw [hon i hi,hof i hi];by_cases h:i=q.nx j
  ·subst h;rw [show (q.nx (q.nx j) == j)=false by simpa using h3,JP]
  ·rw [show (i == q.nx j)=false by simpa using h];rfl
theorem nextM4 (h2:2<=q.G) (e:q.G≠2) {j:Nat} (hj:j < q.G) (he:q.EN E T (q.la j)=true) (he':q.EN E T (q.la (q.nx j))=false):(∀ i,i < q.G->q.M1 E (q.Mk j) T i=CasD.Mj (q.nx j) i)/\q.nc E (q.Mk j) T:=by
 have hn:=CasD.nxl h2 (j:=j);have h3:q.nx (q.nx j)≠j:=by unfold CasD.nx; split <;> split <;> omega
 have h5:=CasD.nx_ne h2 hj;have h6:=CasD.nx_ne h2 hn;have hon:∀ i,i < q.G->q.on E (q.Mk j) T i=(i == q.nx j):=λi hi=>by
  unfold CasD.on;rw [if_neg e];by_cases h:i=q.nx j
  ·subst h;rw [CasD.pv_nx h2 hj,he];unfold CasD.Mk;simp
  ·by_cases h7:q.pv i=q.nx j
   ·rw [h7,he',JP];simp [h]
   ·have h8:q.pv i≠j:=λh'=>h (CasD.pv_eq h2 hi hj h');have h10:q.Mk j (q.pv i)=false:=by unfold CasD.Mk;simp [h7,h8]
    rw [h10,show (i == q.nx j)=false by simpa using h];rfl
 have hof:∀ i,i < q.G->q.off E (q.Mk j) T i=(q.nx i == j || i == j):=λi hi=>by
  unfold CasD.off CasD.Mk;rw [if_neg e];have h8:(q.nx i == q.nx j)=(i == j):=by
   rw [GU,beq_iff_eq,beq_iff_eq];exact ⟨CasD.nx_inj h2 hi hj,λe=>by rw [e]⟩
  rw [h8]
 refine ⟨λi hi=>?_,λi hi hg=>?_⟩
 ·unfold CasD.M1 CasD.md;rw [if_neg (λh=>e h.1),hon i hi,hof i hi];by_cases h:i=q.nx j
  ·subst h;rw [CN,show (q.nx j == q.nx j)=true from beq_self_eq_true _,show (q.nx (q.nx j) == j || q.nx j == j)=false by simp [h3,h5],if_neg (by decide)]
  ·rw [FO h,show (i == q.nx j)=false by simpa using h];cases h9:(q.nx i == j || i == j) with
   | true=>rw [if_neg (by decide)]
   | false=>
    rw [if_pos rfl];unfold CasD.Mk;simp only [H6] at h9;rw [h9.2];simpa using h
 ·rw [hon i hi,hof i hi];by_cases h:i=q.nx j
  ·subst h;rw [show (q.nx (q.nx j) == j || q.nx j == j)=false by simp [h3,h5],JP]
  ·rw [show (i == q.nx j)=false by simpa using h];rfl
theorem CL {k i:Nat} {t:Int} (h:i < k) (hg:q.g i=q.g k):q.Tk k t i=2:=by unfold CasD.Tk;rw [if_neg om_,if_pos ⟨h,hg⟩]
theorem Mz {k:Nat} {t:Int}:q.Tk k t k=t:=by unfold CasD.Tk;rw [if_pos rfl]
theorem EK {k i:Nat} {t:Int} (h:k < i):q.Tk k t i=0:=by unfold CasD.Tk;rw [if_neg om_,if_neg om_]
theorem Tk_o {k i:Nat} {t:Int} (hg:q.g i≠q.g k):q.Tk k t i=0:=by unfold CasD.Tk;rw [if_neg (λe=>hg (by rw [e])),if_neg (λe=>hg e.2)]
theorem timC (hs:SqP q) {k:Nat} (hk:k < q.n) {M:Nat->Bool} (hM:M (q.g k)=true) (hM':∀ i,i < q.n->M (q.g i)=true->q.g i≠q.g k->q.cm (q.Ep (k + 1)) i=false):∀ i,i < q.n->q.W i=true->q.T1 (q.Ep (k + 1)) M (q.Tk k 2) i=q.Tk k 2 i:=by
 intro i hi _;have hE:q.Ep (k + 1)=q.Ek k λ_=>false:=by funext a;unfold CasD.Ek CasD.Ep;rw [if_neg smp_]
 have hm:q.mvs k λ_=>false:=λa h=>by cases h
 unfold CasD.T1;by_cases hg:q.g i=q.g k
 ·rw [hg,hM,HT];rcases JN i k with h | h | h
  ·rw [hE,hs.cm_lo hm h hk hg,if_neg (by decide),CL h hg];rfl
  ·subst h;rw [hE,(hs.cm_run hi).2 (λ_ _ _=>rfl),if_neg (by decide),Mz];rfl
  ·rw [hE,hs.cm_hi hm h hi hg.symm,if_pos rfl,EK h]
 ·have hT:q.Tk k 2 i=0:=Tk_o hg;rw [hT];cases h:M (q.g i) with
  | false=>rfl
  | true=>rw [hM' i hi h hg];rfl
theorem timZ {j:Nat} (h:∀ i,i < q.n->q.g i=j->q.cm E i=false):∀ i,i < q.n->q.W i=true->q.T1 E (CasD.Mj j) T i=0:=by
 intro i hi _;unfold CasD.T1;by_cases hg:q.g i=j
 ·rw [h i hi hg,JP,if_pos rfl]
 ·rw [FO hg];rfl
theorem Qb {a:Nat} {o:Bool}:q.PL E M T st a o=true↔∃ k,k < q.n/\(a,o)∈q.S k/\q.SG E M T st k=true:=by
 unfold CasD.PL CasD.at_;rw [F8];constructor
 ·rintro ⟨k,hk,h⟩;rw [HC,F6] at hk;exact ⟨k,hk.1,by simpa using hk.2,h⟩
 ·rintro ⟨k,hk,ha,h⟩;exact ⟨k,by rw [HC,F6];exact ⟨hk,by simpa using ha⟩,h⟩
theorem plP (hs:SqP q) {m:Nat} (hm:m < q.n) (hS:∀ i,i < q.n->q.SG E M T st i=true->q.g i=q.g m/\i<=m):(∀ a,(q.PL E M T st a true && q.PL E M T st a false)=false)/\∀ a o,q.PL E M T st a o=true->q.pos (m + 1) a=o:=by
 have key:∀ a o,q.PL E M T st a o=true->q.pos (m + 1) a=o:=λa o h=>by
  obtain ⟨i,hi,ha,h⟩:=Qb.1 h;obtain ⟨h1,h2⟩:=hS i hi h;exact hs.posK ha h2 hm h1
 refine ⟨λa=>?_,key⟩;cases h1:q.PL E M T st a true with
 | false=>rfl
 | true=>
  cases h2:q.PL E M T st a false with
  | false=>rfl
  | true=>have:=(key a _ h1).symm.trans (key a _ h2);cases this
theorem v1P (hs:SqP q) {m:Nat} (hm:m < q.n) (hS:∀ i,i < q.n->q.SG E M T st i=true->q.g i=q.g m/\i<=m) (hV:∀ a,(∀ o,q.PL E M T st a o=false)->V a=q.pos (m + 1) a) (a:Nat):q.V1 E V M T st a=q.pos (m + 1) a:=by
 obtain ⟨h1,h2⟩:=plP hs hm hS;have h3:=h1 a;unfold CasD.V1;cases ht:q.PL E M T st a true with
 | true=>
  rw [ht,HT] at h3;rw [h3,if_neg (by decide),h2 a true ht]
 | false=>
  cases hf:q.PL E M T st a false with
  | true=>rw [if_neg (by decide),h2 a false hf]
  | false=>rw [if_pos rfl]; exact hV a λo=>by cases o <;> assumption
end Go.Pn
namespace Go.Pn
open Go
variable {c:Aa} {q:CasD} {s:Ad} {E:Nat->Int} {V M:Nat->Bool} {T:Nat->Int} {st:Bool}
theorem CP {k:Nat}:q.Ep (k + 1)=q.Ek k λ_=>false:=by funext a;unfold CasD.Ek CasD.Ep;rw [if_neg smp_]
theorem Uj {i:Nat}:q.SG E M T st i=true↔M (q.g i)=true/\(i=0->st=true)/\(i≠0->q.g (i - 1)=q.g i->q.EN E T (i - 1)=true):=by
 unfold CasD.SG;rw [F0];refine and_congr_right λ_=>?_;by_cases h:i=0
 ·rw [if_pos h];exact ⟨λg=>⟨λ_=>g,λh'=>absurd h h'⟩,λg=>g.1 h⟩
 ·rw [if_neg h];by_cases h2:q.g (i - 1)=q.g i
  ·rw [if_pos h2];exact ⟨λg=>⟨λh'=>absurd h' h,λ_ _=>g⟩,λg=>g.2 h h2⟩
  ·rw [if_neg h2];exact ⟨λ_=>⟨λh'=>absurd h' h,λ_ h'=>absurd h' h2⟩,λ_=>rfl⟩
theorem SG_run (hs:SqP q) {k:Nat} {mv:Nat->Bool} {t:Int} (hk:k < q.n) (hm:q.mvs k mv) (hr:q.run k mv t) {i:Nat} (hi:i < q.n) (h:q.SG (q.Ek k mv) (CasD.Mj (q.g k)) (q.Tk k t) st i=true):q.g i=q.g k/\i<=k:=by
 obtain ⟨h1,_,h3⟩:=Uj.1 h;have h1:=Qc.1 h1;refine ⟨h1,?_⟩;rcases G5 k i with h4 | h4
 ·exfalso;have h5:=hs.btw (show k<=i - 1 by omega) (show i - 1<=i by omega) hi h1.symm;have h6:=h3 om_ h5;rcases GV (show k<=i - 1 by omega) with e | e
  ·rw [← e,hs.EN_run hk hr] at h6;cases h6
  ·rw [hs.EN_hi hm e om_ om_] at h6;cases h6
 ·exact h4
theorem Mv {p:Bool}:Nh p (Wc p)=Wc p:=by cases p <;> decide
theorem E1_run {k:Nat} {mv:Nat->Bool} {a:Nat}:Nh (q.pos (k + 1) a) (q.Ek k mv a)=q.Ek k mv a:=by
 unfold CasD.Ek;cases mv a <;> cases q.pos (k + 1) a <;> rfl
theorem Ja (hc:CasP c q) (hs:SqP q) {k:Nat} {mv:Nat->Bool} {t:Int} (hk:k < q.n) (hm:q.mvs k mv) (hr:q.run k mv t):Rst q (q.Ek k mv) (q.pos (k + 1)) (CasD.Mj (q.g k)) (q.Tk k t) st:=by
 have hS:=λi hi h=>SG_run (st:=st) hs hk hm hr (i:=i) hi h;have hV:=v1P (V:=q.pos (k + 1)) hs hk hS λ_ _=>rfl;obtain ⟨q1,q2⟩:=Nq hc.g2 (hc.gn k hk) (hs.EN_la (t:=t) hm hk (hc.gn k hk) hc.ln λ_=>hs.EN_run hk hr);refine ⟨q1,λi hi hw=>?_,λa _=>?_,λa _=>hV a,q2,λa _=>(plP hs hk hS).1 a⟩
 ·unfold CasD.T1;by_cases hg:q.g i=q.g k
  ·rw [hg,CN,HT];rcases JN i k with h | h | h
   ·rw [hs.cm_lo hm h hk hg,if_neg (by decide),CL h hg];rfl
   ·subst h;rw [Mz];rcases hr with ⟨⟨a,o,hx,hma⟩,rfl⟩ | ⟨h1,_,rfl⟩
    ·have:q.cm (q.Ek i mv) i=false:=by
      cases hc:q.cm (q.Ek i mv) i with
      | false=>rfl
      | true=>have:=(hs.cm_run hi).1 hc a o hx;rw [hma] at this;cases this
     rw [this,if_pos rfl]
    ·rw [(hs.cm_run hi).2 h1,if_neg (by decide)];rfl
   ·rw [hs.cm_hi hm h hi hg.symm,if_pos rfl,EK h]
  ·rw [FO hg,Tk_o hg];rfl
 ·unfold CasD.E1;rw [hV a];exact E1_run
def CasD.fst (q:CasD) (f:Nat):Prop:=∀ i,i < q.n->q.g i=q.g f->f<=i
def CasD.ms (q:CasD) (k:Nat) (a:Nat):Bool:=decide ((a,true)∈q.S k) || decide ((a,false)∈q.S k)
theorem Kv {k a:Nat}:q.ms k a=true↔∃ o,(a,o)∈q.S k:=by
 unfold CasD.ms;rw [HY,decide_eq_true_iff,decide_eq_true_iff];exact ⟨λh=>h.elim (λh=>⟨_,h⟩) λh=>⟨_,h⟩,λ⟨o,h⟩=>by cases o;exact .inr h;exact .inl h⟩
theorem Ta {k:Nat}:q.mvs k (q.ms k):=λ_ h=>Kv.1 h
theorem Sz (hs:SqP q) {k:Nat} (hk:k < q.n):q.run k (q.ms k) 0:=by
 obtain ⟨⟨a,o⟩,hx⟩:=KW _ (hs.ne k hk);exact .inl ⟨⟨a,o,hx,Kv.2 ⟨o,hx⟩⟩,rfl⟩
theorem Pz {f i:Nat} (hf:q.fst f) (hi:i < q.n):q.Tk f 0 i=0:=by
 unfold CasD.Tk;split
 ·rfl
 ·rw [if_neg];rintro ⟨h1,h2⟩;have:=hf i hi h2;omega
theorem Uf (hs:SqP q) {f i:Nat} (hf:q.fst f) (hi:i < q.n) (hg:q.g i=q.g f):q.cm (q.Ep f) i=false:=hs.cm_B hi (hf i hi hg) hg.symm λ_ _ _=>rfl
theorem CQ (hs:SqP q) {f i:Nat} (hf:q.fst f) (hi:i < q.n) (hg:q.g i=q.g f):q.EN (q.Ep f) (q.Tk f 0) i=false:=by
 unfold CasD.EN;rw [Pz hf hi,Uf hs hf hi hg]; split <;> rfl
theorem FN (hs:SqP q) {f i:Nat} (hf:q.fst f) (hi:i < q.n) (h:q.SG (q.Ep f) (CasD.Mj (q.g f)) (q.Tk f 0) st i=true):i=f/\(f=0->st=true):=by
 obtain ⟨h1,h2,h3⟩:=Uj.1 h;have h1:=Qc.1 h1;have h4:=hf i hi h1;rcases GV h4 with e | e
 ·subst e;exact ⟨rfl,h2⟩
 ·exfalso;have h5:=hs.btw (show f<=i - 1 by omega) (show i - 1<=i by omega) hi h1.symm;have h6:=h3 om_ h5;rw [CQ hs hf om_ om_] at h6;cases h6
theorem Sx (hc:CasP c q) (hs:SqP q) {f:Nat} (hf:q.fst f) (hn:f < q.n):(∀ i,i < q.G->q.M1 (q.Ep f) (CasD.Mj (q.g f)) (q.Tk f 0) i=CasD.Mj (q.g f) i)/\q.nc (q.Ep f) (CasD.Mj (q.g f)) (q.Tk f 0):=by
 have hj:=hc.gn f hn;exact Nq hc.g2 hj (CQ hs hf (hc.ln _ hj) (hs.la _ hj).1)
theorem FJ (hc:CasP c q) (hs:SqP q) {f r:Nat} (hf:q.fst f) (hn:f < q.n) (hb:Bs c q s (q.Ep f) (q.pos f) M T st) (h:Setl q (q.Ep f) r M T (CasD.Mj (q.g f)) (q.Tk f 0)) (hr:r<=60) (hst:f=0->st=true) :
  ∃ u,Pn.rst c 65 s=some u/\At_ c q u (q.Ek f (q.ms f)) (q.pos (f + 1)) (CasD.Mj (q.g f)) (q.Tk f 0) st/\∀ y,¬ Pn.rstP c 65 s y:=by
 have hS:∀ i,i < q.n->q.SG (q.Ep f) (CasD.Mj (q.g f)) (q.Tk f 0) st i=true->q.g i=q.g f/\i<=f:=λi hi h=>by
  obtain ⟨e,_⟩:=FN hs hf hi h;subst e;exact ⟨rfl,GB _⟩
 have hSf:q.SG (q.Ep f) (CasD.Mj (q.g f)) (q.Tk f 0) st f=true:=Uj.2 ⟨CN,hst,λh1 h2=>by
  have:=hf (f - 1) om_ h2;omega⟩
 have hV:=v1P (V:=q.pos f) hs hn hS λa ha=>by
  refine (De λo ho=>?_).symm;have:=Qb.2 ⟨f,hn,ho,hSf⟩;rw [ha o] at this;cases this
 refine hb.rest hc h hr (λa _=>(plP hs hn hS).1 a) (λa _=>?_) (λa _=>hV a) (Ja hc hs hn Ta (Sz hs hn));unfold CasD.E1;rw [hV a];unfold CasD.Ek CasD.Ep;cases hm:q.ms f a with
 | true=>
  obtain ⟨o,ho⟩:=Kv.1 hm;rw [hs.pos_in hn ho,hs.fits f hn a o ho];cases o <;> rfl
 | false=>
  rw [De (λo ho=>by rw [Kv.2 ⟨o,ho⟩] at hm;cases hm),if_neg (by decide)];exact Mv
theorem Wm (hc:CasP c q) (hs:SqP q):Rst q (q.Ep 0) (q.pos 0) (CasD.Mj 0) (q.Tk 0 0) false:=by
 have hf:q.fst 0:=λi _ _=>G3 _;have hg:=hs.g0;have hP:∀ a o,q.PL (q.Ep 0) (CasD.Mj 0) (q.Tk 0 0) false a o=false:=λa o=>by
  cases h:q.PL (q.Ep 0) (CasD.Mj 0) (q.Tk 0 0) false a o with
  | false=>rfl
  | true=>
   obtain ⟨i,hi,_,h⟩:=Qb.1 h;have h:q.SG (q.Ep 0) (CasD.Mj (q.g 0)) (q.Tk 0 0) false i=true:=by rw [hg];exact h
   have:=(FN hs hf hi h).2 rfl;cases this
 have hq:=Sx hc hs hf hs.n0;rw [hg] at hq;have hV:∀ a,q.V1 (q.Ep 0) (q.pos 0) (CasD.Mj 0) (q.Tk 0 0) false a=q.pos 0 a:=λa=>by unfold CasD.V1;rw [hP,hP,if_pos rfl]
 refine ⟨hq.1,λi hi hw=>?_,λa _=>?_,λa _=>hV a,hq.2,λa _=>by rw [hP];rfl⟩
 ·rw [timZ (λi hi hgi=>Uf hs hf hi om_) i hi hw,Pz hf hi]
 ·unfold CasD.E1;rw [hV a];exact Mv
theorem idle_ (hc:CasP c q) (hs:SqP q) {r:Nat} (hb:Bs c q s (q.Ep 0) (q.pos 0) M T false) (h:Setl q (q.Ep 0) r M T (CasD.Mj 0) (q.Tk 0 0)) (hr:r<=60) :
  ∃ u,Pn.rst c 65 s=some u/\At_ c q u (q.Ep 0) (q.pos 0) (CasD.Mj 0) (q.Tk 0 0) false/\∀ y,¬ Pn.rstP c 65 s y:=by
 have hR:=Wm hc hs;exact hb.rest hc h hr hR.fp hR.fE hR.fV hR
theorem CR (hs:SqP q) {k:Nat} (hk:k < q.n):q.EN (q.Ep (k + 1)) (q.Tk k 2) k=true:=by
 unfold CasD.EN;rw [Mz,CP,(hs.cm_run hk).2 λ_ _ _=>rfl]; split <;> rfl
theorem cont_ (hc:CasP c q) (hs:SqP q) {k:Nat} (hk:k + 1 < q.n) (hg:q.g (k + 1)=q.g k) (hb:Bs c q s (q.Ep (k + 1)) (q.pos (k + 1)) (CasD.Mj (q.g k)) (q.Tk k 2) st) :
  ∃ u,Pn.rst c 65 s=some u/\At_ c q u (q.Ek (k + 1) (q.ms (k + 1))) (q.pos (k + 2)) (CasD.Mj (q.g (k + 1))) (q.Tk (k + 1) 0) st/\∀ y,¬ Pn.rstP c 65 s y:=by
 have hk':k < q.n:=by omega
 have hm:q.mvs k λ_=>false:=λa h=>by cases h
 have hj:=hc.gn k hk';have hla:k < q.la (q.g k):=by
  have h1:=hs.la_le hk (by rw [hg];exact hj);rw [hg] at h1;omega
 have hEN:q.EN (q.Ep (k + 1)) (q.Tk k 2) (q.la (q.g k))=false:=by
  rw [CP];exact hs.EN_hi hm hla (hc.ln _ hj) (hs.la _ hj).1.symm
 obtain ⟨q1,q2⟩:=Nq hc.g2 hj hEN;have hT:=timC (M:=CasD.Mj (q.g k)) hs hk' CN (λi _ h1 h2=>absurd (Qc.1 h1) h2);have hT2:∀ i,i < q.n->q.W i=true->q.Tk k 2 i=q.Tk (k + 1) 0 i:=λi hi _=>by
  by_cases hgi:q.g i=q.g k
  ·rcases JN i k with h | h | h
   ·rw [CL h hgi,CL om_ om_]
   ·subst h;rw [Mz,CL om_ om_]
   ·rw [EK h];rcases GV (show k + 1<=i by omega) with e | e
    ·rw [← e,Mz]
    ·rw [EK e]
  ·rw [Tk_o hgi,Tk_o om_]
 have hS:∀ i,i < q.n->q.SG (q.Ep (k + 1)) (CasD.Mj (q.g k)) (q.Tk k 2) st i=true->q.g i=q.g (k + 1)/\i<=k + 1:=λi hi h=>by
  obtain ⟨h1,_,h3⟩:=Uj.1 h;have h1:=Qc.1 h1;refine ⟨by omega,?_⟩;rcases G5 (k + 1) i with h4 | h4
  ·exfalso;have h5:=hs.btw (show k<=i - 1 by omega) (show i - 1<=i by omega) hi h1.symm;have h6:=h3 om_ h5;rw [CP,hs.EN_hi hm om_ om_ om_] at h6;cases h6
  ·exact h4
 have hSf:q.SG (q.Ep (k + 1)) (CasD.Mj (q.g k)) (q.Tk k 2) st (k + 1)=true:=Uj.2 ⟨by rw [hg];exact CN,λh=>by omega,λ_ _=>CR hs hk'⟩;have hV:=v1P (V:=q.pos (k + 1)) hs hk hS λa ha=>by
  refine (De λo ho=>?_).symm;have:=Qb.2 ⟨k + 1,hk,ho,hSf⟩;rw [ha o] at this;cases this
 have hE:∀ a,q.E1 (q.Ep (k + 1)) (q.pos (k + 1)) (CasD.Mj (q.g k)) (q.Tk k 2) st a=q.Ek (k + 1) (q.ms (k + 1)) a:=λa=>by
  unfold CasD.E1;rw [hV a];unfold CasD.Ek CasD.Ep;cases hm:q.ms (k + 1) a with
  | true=>
   obtain ⟨o,ho⟩:=Kv.1 hm;rw [hs.pos_in hk ho,hs.fits (k + 1) hk a o ho];cases o <;> rfl
  | false=>
   rw [De (λo ho=>by rw [Kv.2 ⟨o,ho⟩] at hm;cases hm),if_neg (by decide)];exact Mv
 -- the timers are told in the words of the next step
 have hR:=Ja (st:=st) hc hs hk Ta (Sz hs hk);have hset:Setl q (q.Ep (k + 1)) 0 (CasD.Mj (q.g k)) (q.Tk k 2) (CasD.Mj (q.g k)) (q.Tk k 2):=.fix q1 hT q2;have hENi:∀ E i,i < q.n->q.EN E (q.Tk k 2) i=q.EN E (q.Tk (k + 1) 0) i:=λE i hi=>by
  unfold CasD.EN;by_cases hw:q.W i=true
  ·rw [if_pos hw,if_pos hw,hT2 i hi hw]
  ·rw [if_neg hw,if_neg hw]
 have hon:∀ E M i,i < q.G->q.on E M (q.Tk k 2) i=q.on E M (q.Tk (k + 1) 0) i:=λE M i hi=>by
  unfold CasD.on;have h2:=hc.g2;rw [hENi E _ (hc.ln 0 om_),hENi E _ (hc.ln _ (CasD.pvl hc.g2 hi))]
 have hof:∀ E M i,i < q.G->q.off E M (q.Tk k 2) i=q.off E M (q.Tk (k + 1) 0) i:=λE M i hi=>by
  unfold CasD.off;have h2:=hc.g2;rw [hENi E _ (hc.ln 1 om_)]
 have hmd:∀ E M i,i < q.G->q.md E M (q.Tk k 2) i=q.md E M (q.Tk (k + 1) 0) i:=λE M i hi=>by
  unfold CasD.md;rw [hon E M i hi,hof E M i hi]
 have hM1:∀ E M i,i < q.G->q.M1 E M (q.Tk k 2) i=q.M1 E M (q.Tk (k + 1) 0) i:=λE M i hi=>by
  have h2:=hc.g2;unfold CasD.M1;rw [hmd E M i hi,hmd E M 1 om_]
 have hSG:∀ E M i,i < q.n->q.SG E M (q.Tk k 2) st i=q.SG E M (q.Tk (k + 1) 0) st i:=λE M i hi=>by
  unfold CasD.SG;rw [hENi E (i - 1) om_]
 have hPL:∀ E M a o,q.PL E M (q.Tk k 2) st a o=q.PL E M (q.Tk (k + 1) 0) st a o:=λE M a o=>by
  rw [GU,Qb,Qb];exact ⟨λ⟨i,h1,h2,h3⟩=>⟨i,h1,h2,by rw [← hSG E M i h1];exact h3⟩,λ⟨i,h1,h2,h3⟩=>⟨i,h1,h2,by rw [hSG E M i h1];exact h3⟩⟩
 have hV1:∀ E V M a,q.V1 E V M (q.Tk k 2) st a=q.V1 E V M (q.Tk (k + 1) 0) st a:=λE V M a=>by unfold CasD.V1;rw [hPL,hPL]
 have hb2:=hb.cong hc.g2 (λ_ _=>rfl) (λ_ _=>rfl) (λ_ _=>rfl) hT2;rw [hg] at hR ⊢;refine hb2.rest hc (r:=0) (.fix (λi hi=>by rw [← hM1 _ _ i hi];exact q1 i hi) (λi hi hw=>?_) (λi hi hg=>by rw [← hon _ _ i hi,← hof _ _ i hi];exact q2 i hi hg)) om_ (λa _=>by rw [← hPL,← hPL];exact (plP hs hk hS).1 a) (λa _=>by
  have:=hE a;unfold CasD.E1 at this ⊢;rw [← hV1];exact this) (λa _=>by rw [← hV1];exact hV a) hR
 have:=hT i hi hw;unfold CasD.T1 at this ⊢;rw [← hT2 i hi hw];exact this
def CasD.nk (q:CasD) (k:Nat):Nat:=if k + 1 < q.n then k + 1 else 0
theorem nk_lt (hs:SqP q) {k:Nat}:q.nk k < q.n:=by have:=hs.n0; unfold CasD.nk; split <;> omega
theorem EZ (hs:SqP q) {k:Nat} (hk:k < q.n):q.pos (k + 1)=q.pos (q.nk k):=by
 unfold CasD.nk;split
 ·rfl
 ·funext a
  rw [show k + 1=q.n by omega,hs.back a];rfl
theorem C9 (hs:SqP q) {k:Nat} (hk:k < q.n):q.Ep (k + 1)=q.Ep (q.nk k):=by
 funext a;unfold CasD.Ep;rw [EZ hs hk]
theorem BR (hc:CasP c q) (hs:SqP q) {k:Nat} (hk:k < q.n) (hg:k + 1 < q.n->q.g (k + 1)≠q.g k):q.la (q.g k)=k/\q.g (q.nk k)=q.nx (q.g k)/\q.fst (q.nk k):=by
 have hj:=hc.gn k hk;have h1:=hs.la_le hk hj;obtain ⟨h2,h3⟩:=hs.la _ hj;have hl:=hc.ln _ hj;have hla:q.la (q.g k)=k:=by
  rcases GV h1 with e | e
  ·exact e.symm
  ·exact absurd (hs.btw (show k<=k + 1 by omega) (show k + 1<=q.la (q.g k) by omega) hl h2.symm) (by have:=hg om_;omega)
 refine ⟨hla,?_⟩;unfold CasD.nk CasD.nx;by_cases h:k + 1 < q.n
 ·have h4:=hs.gs k h;have h5:=hg h;have h6:=hc.gn (k + 1) h;rw [if_pos h,if_pos om_];refine ⟨by omega,λi hi he=>?_⟩;rcases G5 i (k + 1) with h7 | h7
  ·have:=hs.mono (show i<=k by omega) hk;omega
  ·exact h7
 ·have h4:=hs.gl;rw [show q.n - 1=k by omega] at h4;rw [if_neg h,if_neg om_];exact ⟨hs.g0,λi _ _=>G3 _⟩
theorem Zq (hc:CasP c q) (hs:SqP q) {k:Nat} (hk:k < q.n) (hg:k + 1 < q.n->q.g (k + 1)≠q.g k):∃ r,r<=60/\Setl q (q.Ep (q.nk k)) r (CasD.Mj (q.g k)) (q.Tk k 2) (CasD.Mj (q.g (q.nk k))) (q.Tk (q.nk k) 0):=by
 obtain ⟨hla,hnx,hf⟩:=BR hc hs hk hg;have hj:=hc.gn k hk;have h2:=hc.g2;have hn:=nk_lt hs (k:=k);have hne:q.nx (q.g k)≠q.g k:=CasD.nx_ne h2 hj;have hnj:=CasD.nxl h2 (j:=q.g k);have e1:q.EN (q.Ep (q.nk k)) (q.Tk k 2) (q.la (q.g k))=true:=by rw [hla,← C9 hs hk];exact CR hs hk
 have hlg:=(hs.la _ hnj).1;have hll:=hc.ln _ hnj;have e2:q.EN (q.Ep (q.nk k)) (q.Tk k 2) (q.la (q.nx (q.g k)))=false:=by
  unfold CasD.EN;rw [Tk_o om_,Uf hs hf hll om_]; split <;> rfl
 have e3:q.EN (q.Ep (q.nk k)) (q.Tk (q.nk k) 0) (q.la (q.nx (q.g k)))=false:=CQ hs hf hll om_;have tC:∀ M:Nat->Bool,M (q.g k)=true->(∀ i,M i=true->i=q.g k\/i=q.nx (q.g k))->∀ i,i < q.n->q.W i=true->q.T1 (q.Ep (q.nk k)) M (q.Tk k 2) i=q.Tk k 2 i:=λM hM hM'=>by
  rw [← C9 hs hk];refine timC hs hk hM λi hi h1 h3=>?_;rw [C9 hs hk];exact Uf hs hf hi (by rcases hM' _ h1 with h | h;exact absurd h h3;omega)
 have tZ:∀ T:Nat->Int,∀ i,i < q.n->q.W i=true->q.T1 (q.Ep (q.nk k)) (CasD.Mj (q.nx (q.g k))) T i=q.Tk (q.nk k) 0 i:=λT i hi hw=>by
  rw [timZ (λi hi hgi=>Uf hs hf hi om_) i hi hw,Pz hf hi]
 obtain ⟨f1,f2⟩:=Nq (T:=q.Tk (q.nk k) 0) h2 hnj e3;obtain ⟨f3,f4⟩:=Nq (T:=q.Tk k 2) h2 hnj e2;rw [hnx];by_cases e:q.G=2
 ·obtain ⟨a1,a2⟩:=nextM2 e hj e1 e2;exact ⟨2,by omega,.step a1 (tC _ CN λi h=>.inl (Qc.1 h)) a2 (.step f3 (tZ _) f4 (.fix f1 (tZ _) f2))⟩
 ·obtain ⟨a1,a2⟩:=nextM3 h2 e hj e1;obtain ⟨b1,b2⟩:=nextM4 h2 e hj e1 e2;refine ⟨3,by omega,.step a1 (tC _ CN λi h=>.inl (Qc.1 h)) a2 (.step b1 (tC _ ?_ λi h=>?_) b2 (.step f3 (tZ _) f4 (.fix f1 (tZ _) f2)))⟩
  ·unfold CasD.Mk;simp
  ·unfold CasD.Mk at h;simpa using h
theorem next_ (hc:CasP c q) (hs:SqP q) {k:Nat} (hk:k < q.n) (hg:k + 1 < q.n->q.g (k + 1)≠q.g k) (hb:Bs c q s (q.Ep (k + 1)) (q.pos (k + 1)) (CasD.Mj (q.g k)) (q.Tk k 2) st) :
  ((q.nk k=0->st=true)->∃ u,Pn.rst c 65 s=some u/\At_ c q u (q.Ek (q.nk k) (q.ms (q.nk k))) (q.pos (q.nk k + 1)) (CasD.Mj (q.g (q.nk k))) (q.Tk (q.nk k) 0) st/\∀ y,¬ Pn.rstP c 65 s y)
  /\ (q.nk k=0->st=false->∃ u,Pn.rst c 65 s=some u/\At_ c q u (q.Ep 0) (q.pos 0) (CasD.Mj 0) (q.Tk 0 0) false/\∀ y,¬ Pn.rstP c 65 s y):=by
 obtain ⟨r,hr,hset⟩:=Zq hc hs hk hg;obtain ⟨_,_,hf⟩:=BR hc hs hk hg;rw [C9 hs hk,EZ hs hk] at hb;refine ⟨λh=>FJ hc hs hf (nk_lt hs) hb hset hr h,λh0 hst=>?_⟩;subst hst;rw [h0] at hb hset;rw [hs.g0] at hset;exact idle_ hc hs hb hset hr
end Go.Pn
namespace Go.Pn
open Go
variable {c:Aa} {q:CasD} {s:Ad} {E:Nat->Int} {V M:Nat->Bool} {T:Nat->Int} {st:Bool}
structure RunS (c:Aa) (q:CasD) (s:Ad) (k:Nat) (mv:Nat->Bool) (t:Int) (st:Bool):Prop where
 hk:k < q.n
 hm:q.mvs k mv
 hr:q.run k mv t
 at_:At_ c q s (q.Ek k mv) (q.pos (k + 1)) (CasD.Mj (q.g k)) (q.Tk k t) st
def Jl (c:Aa) (q:CasD) (s:Ad):Prop:=At_ c q s (q.Ep 0) (q.pos 0) (CasD.Mj 0) (q.Tk 0 0) false
theorem Fe {α:Type} {l:List α} {i j:Nat} {x d:α} (hi:i < l.length):(l.set i x).getD j d=if i=j then x else l.getD j d:=by
 rw [FU,List.getElem?_set];by_cases h:i=j
 ·subst h;rw [if_pos rfl,if_pos rfl,if_pos hi];rfl
 ·rw [if_neg h,if_neg h,FU]
theorem Yh {x:Af} {s' u:Ad} (hk:¬ (x.Kind < 0\/3<=x.Kind)) (ha:act s x=some s') (hr:rst c 65 s'=some u) (hn:∀ y,¬ rstP c 65 s' y):aft c s x=(u,0)/\∀ y,¬ afP c s x y:=by
 refine ⟨?_,λy hy=>?_⟩
 ·unfold aft;rw [if_neg hk,ha];dsimp only;rw [hr]
 ·obtain ⟨_,s2,h1,h2⟩:=hy;rw [ha] at h1;obtain rfl:=Option.some.inj h1;exact hn y h2
def CasD.un (mv:Nat->Bool) (a b:Nat):Bool:=mv b && !(b == a)
theorem Ek_un {k a:Nat} {mv:Nat->Bool}:∀ b,q.Ek k (CasD.un mv a) b=if b=a then Wc (q.pos (k + 1) a) else q.Ek k mv b:=by
 intro b;unfold CasD.Ek CasD.un;by_cases h:b=a
 ·subst h;rw [if_pos rfl,if_neg smp_]
 ·rw [if_neg h];have:(b == a)=false:=by simpa using h
  rw [this,JL,JH]
theorem act_end (hc:CasP c q) {k a:Nat} {mv:Nat->Bool} (ha:a < q.A) (hm:mv a=true) (h:Bs c q s (q.Ek k mv) V M T st):∃ s',act s ⟨0,(a:Int),false⟩=some s'/\Bs c q s' (q.Ek k (CasD.un mv a)) V M T st:=by
 have hlen:a < s.Ends.length:=by rw [h.fit.e,hc.a];exact ha
 have he:=h.e a ha;rw [FU,gE_ hlen,H3] at he;have key:act s ⟨0,(a:Int),false⟩=some { s with Ends:=s.Ends.set a (Wc (q.pos (k + 1) a)) }:=by
  unfold act;rw [if_pos rfl,show idx s.Ends (Af.Index ⟨0,(a:Int),false⟩)=s.Ends[a]? from Am,gE_ hlen,he];dsimp only;unfold CasD.Ek;rw [if_pos hm];cases q.pos (k + 1) a <;> simp [Wc]
 refine ⟨_,key,My h.fit key,λb hb=>?_,h.v,h.i,h.m,h.m0,h.t⟩;show (s.Ends.set a _).getD b 0=_;rw [Fe hlen,Ek_un b];by_cases e:a=b
 ·subst e;rw [if_pos rfl,if_pos rfl]
 ·rw [if_neg e,if_neg (λh=>e h.symm),h.e b hb]
theorem act_tim (hc:CasP c q) (hinj:∀ i k,i < q.n->q.W i=true->k < q.n->q.W k=true->q.no (.tm i)=q.no (.tm k)->i=k) (hjn:∀ j k,j < q.G->k < q.n->q.W k=true->q.no (.gl j)≠q.no (.tm k)) {k:Nat} (hk:k < q.n) (hw:q.W k=true) (h:Bs c q s E V M (q.Tk k 1) st):∃ s',act s ⟨1,(q.no (.tm k):Int),false⟩=some s'/\Bs c q s' E V M (q.Tk k 2) st:=by
 obtain ⟨x,hx,_,_⟩:=hc.tmS k hk hw;have hlt:=(FT.1 hx).1;have hlen:q.no (.tm k) < s.Timers.length:=by rw [h.fit.t];exact hlt
 have hlen':q.no (.tm k) < s.Values.length:=by rw [h.fit.x];exact hlt
 have ht:=(h.t k hk hw).1;rw [FU,gE_ hlen,H3,Mz] at ht;have key:act s ⟨1,(q.no (.tm k):Int),false⟩=some { s with Values:=s.Values.set (q.no (.tm k)) true,Timers:=s.Timers.set (q.no (.tm k)) 2 }:=by
  unfold act;rw [if_neg (by show ¬ (1:Int)=0;omega),if_pos rfl,show idx s.Timers (Af.Index ⟨1,(q.no (.tm k):Int),false⟩)=s.Timers[q.no (.tm k)]? from Am,gE_ hlen,ht];rfl
 refine ⟨_,key,My h.fit key,h.e,h.v,h.i,λj hj hg=>?_,h.m0,λi hi hwi=>?_⟩
 ·show (s.Values.set _ _).getD _ _=_;rw [Fe hlen',if_neg (λe=>hjn j k hj hk hw e.symm)];exact h.m j hj hg
 ·have h1:=h.t i hi hwi;show (s.Timers.set _ _).getD _ _=_/\(s.Values.set _ _).getD _ _=_;rw [Fe hlen,Fe hlen'];by_cases e:i=k
  ·subst e;rw [if_pos rfl,if_pos rfl,Mz];exact ⟨rfl,rfl⟩
  ·have e2:q.no (.tm k)≠q.no (.tm i):=λe3=>e (hinj k i hk hw hi hwi e3).symm;rw [if_neg e2,if_neg e2];have:q.Tk k 2 i=q.Tk k 1 i:=by unfold CasD.Tk;rw [if_neg e,if_neg e]
   rw [this];exact h1
theorem FM (hc:CasP c q) (h:Bs c q s E V M T st):∃ s',act s ⟨2,0,!st⟩=some s'/\Bs c q s' E V M T (!st):=by
 have hlen:0 < s.Inputs.length:=by rw [h.fit.i,hc.i];omega
 have hi:=h.i;rw [FU,gE_ hlen,H3] at hi;have key:act s ⟨2,0,!st⟩=some { s with Inputs:=s.Inputs.set 0 (!st) }:=by
  unfold act;rw [if_neg (by show ¬ (2:Int)=0;omega),if_neg (by show ¬ (2:Int)=1;omega),show idx s.Inputs (Af.Index ⟨2,0,!st⟩)=s.Inputs[0]? from Am (n:=0),gE_ hlen,hi];dsimp only;rw [if_neg (by cases st <;> decide)]; rfl
 refine ⟨_,key,My h.fit key,h.e,h.v,?_,h.m,h.m0,h.t⟩;show (s.Inputs.set 0 _).getD 0 _=_;rw [Fe hlen,if_pos rfl]
structure TmP (q:CasD):Prop where
 inj:∀ i k,i < q.n->q.W i=true->k < q.n->q.W k=true->q.no (.tm i)=q.no (.tm k)->i=k
 jn:∀ j k,j < q.G->k < q.n->q.W k=true->q.no (.gl j)≠q.no (.tm k)
def Nxt (c:Aa) (q:CasD) (u:Ad) (k:Nat) (st:Bool):Prop:=RunS c q u (q.nk k) (q.ms (q.nk k)) 0 st/\(q.nk k=0->st=true)\/(q.nk k=0/\st=false/\Jl c q u)
theorem done_ (hc:CasP c q) (hs:SqP q) {k:Nat} (hk:k < q.n) (hb:Bs c q s (q.Ep (k + 1)) (q.pos (k + 1)) (CasD.Mj (q.g k)) (q.Tk k 2) st):∃ u,rst c 65 s=some u/\Nxt c q u k st/\∀ y,¬ rstP c 65 s y:=by
 by_cases hg:k + 1 < q.n/\q.g (k + 1)=q.g k
 ·obtain ⟨u,h1,h2,h3⟩:=cont_ hc hs hg.1 hg.2 hb;have:q.nk k=k + 1:=by unfold CasD.nk;rw [if_pos hg.1]
  refine ⟨u,h1,.inl ⟨?_,λe=>by omega⟩,h3⟩;rw [this];exact ⟨hg.1,Ta,Sz hs hg.1,h2⟩
 ·obtain ⟨n1,n2⟩:=next_ hc hs hk (λh e=>hg ⟨h,e⟩) hb;have hl:=nk_lt hs (k:=k);by_cases h0:q.nk k=0/\st=false
  ·obtain ⟨u,h1,h2,h3⟩:=n2 h0.1 h0.2;exact ⟨u,h1,.inr ⟨h0.1,h0.2,h2⟩,h3⟩
  ·have h4:q.nk k=0->st=true:=λe=>by cases st with
    | true=>rfl
    | false=>exact absurd ⟨e,rfl⟩ h0
   obtain ⟨u,h1,h2,h3⟩:=n1 h4;exact ⟨u,h1,.inl ⟨⟨hl,Ta,Sz hs hl,h2⟩,h4⟩,h3⟩
theorem same_ (hc:CasP c q) (hs:SqP q) {k:Nat} {mv:Nat->Bool} {t:Int} (hk:k < q.n) (hm:q.mvs k mv) (hr:q.run k mv t) {r:Nat} (hr6:r<=60) (hset:Setl q (q.Ek k mv) r M T (CasD.Mj (q.g k)) (q.Tk k t)) (hb:Bs c q s (q.Ek k mv) (q.pos (k + 1)) M T st):∃ u,rst c 65 s=some u/\RunS c q u k mv t st/\∀ y,¬ rstP c 65 s y:=by
 have hR:=Ja (st:=st) hc hs hk hm hr;obtain ⟨u,h1,h2,h3⟩:=hb.rest hc hset hr6 hR.fp hR.fE hR.fV hR;exact ⟨u,h1,⟨hk,hm,hr,h2⟩,h3⟩
theorem E9 (hc:CasP c q) (hs:SqP q) {k a:Nat} {mv:Nat->Bool} {t:Int} (h:RunS c q s k mv t st) (ha:a < q.A) (hma:mv a=true) :
  ∃ u,aft c s ⟨0,(a:Int),false⟩=(u,0)/\(∀ y,¬ afP c s ⟨0,(a:Int),false⟩ y)/\((∃ t',RunS c q u k (CasD.un mv a) t' st)\/((∀ b,CasD.un mv a b=false)/\Nxt c q u k st)):=by
 obtain ⟨hk,hm,hr,hat⟩:=h;have ht:t=0:=by
  rcases hr with ⟨_,h⟩ | ⟨h,_⟩
  ·exact h
  ·obtain ⟨o,ho⟩:=hm a hma;rw [h a o ho] at hma;cases hma
 subst ht;obtain ⟨s',h1,h2⟩:=act_end hc ha hma hat.b;have hm':q.mvs k (CasD.un mv a):=λb hb=>hm b (by unfold CasD.un at hb;exact (Bool.and_eq_true_iff.1 hb).1);have fin:∀ {u:Ad} {Q:Prop},(rst c 65 s'=some u/\Q/\∀ y,¬ rstP c 65 s' y)->aft c s ⟨0,(a:Int),false⟩=(u,0)/\(∀ y,¬ afP c s ⟨0,(a:Int),false⟩ y)/\Q:=λ{u Q} ⟨g1,g2,g3⟩=>by
  obtain ⟨a1,a2⟩:=Yh (c:=c) (x:=⟨0,(a:Int),false⟩) (by show ¬ ((0:Int) < 0\/3<=(0:Int));omega) h1 g1 g3;exact ⟨a1,a2,g2⟩
 by_cases hmo:∃ b o,(b,o)∈q.S k/\CasD.un mv a b=true
 ·have hr':q.run k (CasD.un mv a) 0:=.inl ⟨hmo,rfl⟩;have hR:=Ja (st:=st) hc hs hk hm' hr';obtain ⟨u,g1,g2,g3⟩:=same_ hc hs hk hm' hr' (r:=0) om_ (.fix hR.fM hR.fT hR.fn) h2;obtain ⟨b1,b2,b3⟩:=fin ⟨g1,(.inl ⟨0,g2⟩:(∃ t',RunS c q u k (CasD.un mv a) t' st)\/((∀ b,CasD.un mv a b=false)/\Nxt c q u k st)),g3⟩;exact ⟨u,b1,b2,b3⟩
 ·have hno:∀ b,CasD.un mv a b=false:=λb=>by
   cases e:CasD.un mv a b with
   | false=>rfl
   | true=>obtain ⟨o,ho⟩:=hm' b e;exact absurd ⟨b,o,ho,e⟩ hmo
  have hz:CasD.un mv a=λ_=>false:=funext hno;by_cases hw:q.W k=true
  ·have hr':q.run k (CasD.un mv a) 1:=.inr ⟨λb _ _=>hno b,hw,rfl⟩;have hR:=Ja (st:=st) hc hs hk hm' hr'
   -- the timer of the step begins to run
   have hcm:q.cm (q.Ek k (CasD.un mv a)) k=true:=(hs.cm_run hk).2 λb _ _=>hno b;have hEN:q.EN (q.Ek k (CasD.un mv a)) (q.Tk k 0) k=false:=by unfold CasD.EN;rw [if_pos hw,Mz];rfl
   obtain ⟨f1,f2⟩:=Nq hc.g2 (hc.gn k hk) (hs.EN_la (t:=0) hm' hk (hc.gn k hk) hc.ln λ_=>hEN);have hT:∀ i,i < q.n->q.W i=true->q.T1 (q.Ek k (CasD.un mv a)) (CasD.Mj (q.g k)) (q.Tk k 0) i=q.Tk k 1 i:=λi hi hwi=>by
    by_cases e:i=k
    ·subst e;unfold CasD.T1;rw [CN,hcm,if_neg (by decide),Mz,Mz,if_pos rfl]
    ·have h5:=hR.fT i hi hwi;have h6:q.Tk k 1 i=q.Tk k 0 i:=by unfold CasD.Tk;rw [if_neg e,if_neg e]
     rw [← h5];unfold CasD.T1;rw [h6]
   obtain ⟨u,g1,g2,g3⟩:=same_ hc hs hk hm' hr' (r:=1) om_ (.step f1 hT f2 (.fix hR.fM hR.fT hR.fn)) h2;obtain ⟨b1,b2,b3⟩:=fin ⟨g1,(.inl ⟨1,g2⟩:(∃ t',RunS c q u k (CasD.un mv a) t' st)\/((∀ b,CasD.un mv a b=false)/\Nxt c q u k st)),g3⟩;exact ⟨u,b1,b2,b3⟩
  ·rw [hz,← CP] at h2;have h3:=h2.cong hc.g2 (T':=q.Tk k 2) (λ_ _=>rfl) (λ_ _=>rfl) (λ_ _=>rfl) λi hi hwi=>by
    have e:i≠k:=λe=>by subst e;exact hw hwi
    unfold CasD.Tk;rw [if_neg e,if_neg e]
   obtain ⟨u,g1,g2,g3⟩:=done_ hc hs hk h3;obtain ⟨b1,b2,b3⟩:=fin ⟨g1,(.inr ⟨hno,g2⟩:(∃ t',RunS c q u k (CasD.un mv a) t' st)\/((∀ b,CasD.un mv a b=false)/\Nxt c q u k st)),g3⟩;exact ⟨u,b1,b2,b3⟩
theorem B6 (hc:CasP c q) (hs:SqP q) (hp:TmP q) {k:Nat} {mv:Nat->Bool} (h:RunS c q s k mv 1 st) :
  ∃ u,aft c s ⟨1,(q.no (.tm k):Int),false⟩=(u,0)/\(∀ y,¬ afP c s ⟨1,(q.no (.tm k):Int),false⟩ y)/\Nxt c q u k st:=by
 obtain ⟨hk,hm,hr,hat⟩:=h;obtain ⟨hno,hw⟩:(∀ b,mv b=false)/\q.W k=true:=by
  rcases hr with ⟨_,h⟩ | ⟨h1,h2,_⟩
  ·omega
  ·refine ⟨λb=>?_,h2⟩;cases e:mv b with
   | false=>rfl
   | true=>obtain ⟨o,ho⟩:=hm b e;rw [h1 b o ho] at e;cases e
 obtain rfl:mv=λ_=>false:=funext hno;obtain ⟨s',h1,h2⟩:=act_tim hc hp.inj hp.jn hk hw hat.b;rw [← CP] at h2;obtain ⟨u,g1,g2,g3⟩:=done_ hc hs hk h2;obtain ⟨a1,a2⟩:=Yh (c:=c) (x:=⟨1,(q.no (.tm k):Int),false⟩) (by show ¬ ((1:Int) < 0\/3<=(1:Int));omega) h1 g1 g3;exact ⟨u,a1,a2,g2⟩
theorem ev_in (hc:CasP c q) (hs:SqP q) {k:Nat} {mv:Nat->Bool} {t:Int} (h:RunS c q s k mv t st) :
  ∃ u,aft c s ⟨2,0,!st⟩=(u,0)/\(∀ y,¬ afP c s ⟨2,0,!st⟩ y)/\RunS c q u k mv t (!st):=by
 obtain ⟨hk,hm,hr,hat⟩:=h;obtain ⟨s',h1,h2⟩:=FM hc hat.b;have hR:=Ja (st:=!st) hc hs hk hm hr;obtain ⟨u,g1,g2,g3⟩:=same_ hc hs hk hm hr (r:=0) om_ (.fix hR.fM hR.fT hR.fn) h2;obtain ⟨a1,a2⟩:=Yh (c:=c) (x:=⟨2,0,!st⟩) (by show ¬ ((2:Int) < 0\/3<=(2:Int));omega) h1 g1 g3;exact ⟨u,a1,a2,g2⟩
theorem Kk (hc:CasP c q) (hs:SqP q) (h:Jl c q s) :
  ∃ u,aft c s ⟨2,0,true⟩=(u,0)/\(∀ y,¬ afP c s ⟨2,0,true⟩ y)/\RunS c q u 0 (q.ms 0) 0 true:=by
 obtain ⟨s',h1,h2⟩:=FM hc h.b;have hf:q.fst 0:=λi _ _=>G3 _;have hq:=Sx hc hs hf hs.n0;rw [hs.g0] at hq;have hset:Setl q (q.Ep 0) 0 (CasD.Mj 0) (q.Tk 0 0) (CasD.Mj (q.g 0)) (q.Tk 0 0):=by
  rw [hs.g0];exact .fix hq.1 h.r.fT hq.2
 obtain ⟨u,g1,g2,g3⟩:=FJ hc hs hf hs.n0 h2 hset om_ λ_=>rfl;obtain ⟨a1,a2⟩:=Yh (c:=c) (x:=⟨2,0,true⟩) (by show ¬ ((2:Int) < 0\/3<=(2:Int));omega) h1 g1 g3;exact ⟨u,a1,a2,hs.n0,Ta,Sz hs hs.n0,g2⟩
end Go.Pn
namespace Go.Pn
open Go
namespace Csc
def stp (s:Ai) (k:Nat):Step:=s.Steps.getD k default
def S (s:Ai) (k:Nat):List (Nat×Bool):=(stp s k).Strokes.map λx=>(x.Actuator.toNat,x.Out)
def W (s:Ai) (k:Nat):Bool:=(stp s k).Wait != 0
def rep (s:Ai) (i k:Nat):Bool:=(S s i).any λx=>(S s k).any λy=>x.1 == y.1
def brk (s:Ai) (b k:Nat):Bool:=(List.range k).any λi=>decide (b<=i) && rep s i k
def gb (s:Ai):Nat->Nat×Nat
  | 0=>(0,0)
  | k + 1=>if brk s (gb s k).1 (k + 1)=true then (k + 1,(gb s k).2 + 1) else gb s k
def dl (s:Ai):Nat->LJ
  | 0=>[0]
  | k + 1=>if brk s (gb s k).1 (k + 1)=true then dl s k ++ [k + 1] else dl s k
def n (s:Ai):Nat:=s.Steps.length
def g (s:Ai) (k:Nat):Nat:=(gb s k).2
def dv (s:Ai):LJ:=dl s (n s - 1)
def G (s:Ai):Nat:=(dv s).length
def las (s:Ai) (j:Nat):Nat:=if j + 1 < G s then (dv s).getD (j + 1) 0 - 1 else n s - 1
def A (s:Ai):Nat:=s.Actuators.toNat
def cts (s:Ai) (k:Nat):Nat:=((List.range k).filter (W s)).length
def no (s:Ai):Sg->Nat
  | .gl j=>if G s=2 then 1 - j else j
  | .tm k=>G s + cts s k
  | .sg k=>G s + cts s (n s) + k
  | .pl a o=>G s + cts s (n s) + n s + 2 * a + (if o=true then 0 else 1)
def dat (s:Ai):CasD:=⟨A s,n s,G s,S s,W s,g s,las s,no s⟩
end Csc
open Csc
variable {s:Ai}
theorem gb_s (k:Nat):gb s (k + 1)=if brk s (gb s k).1 (k + 1)=true then (k + 1,(gb s k).2 + 1) else gb s k:=rfl
theorem dl_s (k:Nat):dl s (k + 1)=if brk s (gb s k).1 (k + 1)=true then dl s k ++ [k + 1] else dl s k:=rfl
theorem g_s (k:Nat):g s (k + 1)=if brk s (gb s k).1 (k + 1)=true then g s k + 1 else g s k:=by
  unfold g; rw [gb_s]; split <;> rfl
theorem D4:∀ k,(gb s k).1<=k
  | 0=>GB _
  | k + 1=>by
    rw [gb_s];split
    · exact GB _
    · have:=D4 k;omega
theorem Xx:∀ k,(dl s k).length=g s k + 1
  | 0=>rfl
  | k + 1=>by
    have:=Xx k;rw [dl_s,g_s];split
    · rw [FR,this];rfl
    · exact this
theorem B8 {i:Nat}:∀ {k:Nat},i<=k->∃ t,dl s k=dl s i ++ t
  | 0,h=>by obtain rfl:i=0:=(by omega);exact ⟨[],by simp⟩
  | k + 1,h=>by
    rcases GV h with e | e
    · subst e;exact ⟨[],by simp⟩
    · obtain ⟨t,ht⟩:=B8 (i:=i) (k:=k) om_
      rw [dl_s];split
      · exact ⟨t ++ [k + 1],by rw [ht,GG]⟩
      · exact ⟨t,ht⟩
theorem Rs:∀ k,(dl s k)[g s k]?=some (gb s k).1
  | 0=>rfl
  | k + 1=>by
    have h:=Rs k;have hl:=Xx (s:=s) k;rw [dl_s,g_s,gb_s];split
    · rw [F5 om_,hl,JU];rfl
    · exact h
theorem Hr {i:Nat}:∀ {k:Nat},i<=k->g s i<=g s k
  | 0,h=>by obtain rfl:i=0:=(by omega);exact GB _
  | k + 1,h=>by
    rcases GV h with e | e
    · subst e;exact GB _
    · have:=Hr (i:=i) (k:=k) om_
      rw [g_s];split <;> omega
theorem Xn (k:Nat):g s (k + 1)=g s k\/g s (k + 1)=g s k + 1:=by
  rw [g_s];split
  · exact .inr rfl
  · exact .inl rfl
theorem Vx {i:Nat}:∀ {k:Nat},i<=k->g s i=g s k->gb s i=gb s k
  | 0,h,_=>by obtain rfl:i=0:=(by omega);rfl
  | k + 1,h,hg=>by
    rcases GV h with e | e
    · subst e;rfl
    · have h1:=Hr (s:=s) (show i<=k by omega)
      have h2:=Hr (s:=s) (show k<=k + 1 by omega);have h3:=Vx (i:=i) (k:=k) om_ om_;have h4:g s k=g s (k + 1):=by omega
      rw [h3,gb_s];rw [g_s] at h4;by_cases hb:brk s (gb s k).1 (k + 1)=true
      · rw [if_pos hb] at h4;omega
      · rw [if_neg hb]
theorem EU {i k a:Nat} {o o':Bool} (h1:(a,o)∈S s i) (h2:(a,o')∈S s k):rep s i k=true:=by
  unfold rep;rw [F8];refine ⟨_,h1,?_⟩;rw [F8];exact ⟨_,h2,by simp⟩
theorem BZ {i k a:Nat} {o o':Bool} (hik:i < k) (hg:g s i=g s k) (h1:(a,o)∈S s i) (h2:(a,o')∈S s k):False:=by
  obtain ⟨k,rfl⟩:∃ k',k=k' + 1:=⟨k - 1,by omega⟩;have hb:=Vx (s:=s) (show i<=k + 1 by omega) hg;have hk:g s k=g s (k + 1):=by
    have h3:=Hr (s:=s) (show i<=k by omega);have h4:=Hr (s:=s) (show k<=k + 1 by omega);omega
  have hbk:=Vx (s:=s) (show i<=k by omega) om_;have hi:=D4 (s:=s) i;rw [g_s] at hk;by_cases hn:brk s (gb s k).1 (k + 1)=true
  · rw [if_pos hn] at hk;omega
  · refine hn ?_
    unfold brk;rw [F8];refine ⟨i,F6.2 hik,?_⟩;rw [F0,decide_eq_true_iff];exact ⟨by rw [← hbk];exact hi,EU h1 h2⟩
theorem Ue {j:Nat}:∀ {k:Nat},j<=g s k->∃ b,(dl s k)[j]?=some b/\b<=k/\g s b=j/\(0 < b->g s (b - 1) + 1=j)/\(j=0->b=0)
  | 0,h=>by
    obtain rfl:j=0:=by have:g s 0=0:=rfl;omega
    exact ⟨0,rfl,GB _,rfl,λh=>by omega,λ_=>rfl⟩
  | k + 1,h=>by
    by_cases hj:j<=g s k
    · obtain ⟨b,h1,h2,h3,h4,h5⟩:=Ue (k:=k) hj
      obtain ⟨t,ht⟩:=B8 (s:=s) (show k<=k + 1 by omega);refine ⟨b,?_,by omega,h3,h4,h5⟩;rw [ht,FY (FT.1 h1).1];exact h1
    · have hs:=Xn (s:=s) k
      have hgk:g s (k + 1)=g s k + 1:=by omega
      obtain rfl:j=g s (k + 1):=by omega
      have hgb:(gb s (k + 1)).1=k + 1:=by
        rw [g_s] at hgk;rw [gb_s];by_cases hb:brk s (gb s k).1 (k + 1)=true
        · rw [if_pos hb]
        · rw [if_neg hb] at hgk;omega
      refine ⟨k + 1,?_,GB _,rfl,λ_=>by rw [HH];omega,λh=>by omega⟩;rw [Rs,hgb]
theorem FP:G s=g s (n s - 1) + 1:=Xx _
theorem la_ok (h0:0 < n s) {j:Nat} (hj:j < G s):las s j < n s/\g s (las s j)=j/\(las s j + 1 < n s->g s (las s j + 1)=j + 1):=by
  have hG:=FP (s:=s);unfold las;by_cases h:j + 1 < G s
  · rw [if_pos h]
    obtain ⟨b,h1,h2,h3,h4,h5⟩:=Ue (s:=s) (j:=j + 1) (k:=n s - 1) om_;have hd:(dv s).getD (j + 1) 0=b:=by unfold dv;rw [FU,h1];rfl
    have hb:0 < b:=by
      rcases JV b with e | e
      · subst e;have:g s 0=0:=rfl;omega
      · exact e
    rw [hd];have:=h4 hb;refine ⟨by omega,by omega,λ_=>?_⟩;rw [KU hb];exact h3
  · rw [if_neg h]
    refine ⟨by omega,by omega,λh=>by omega⟩
structure Sqc (s:Ai):Prop where
  a0:1<=s.Actuators
  a6:s.Actuators<=6
  n0:0 < n s
  ne:∀ k,k < n s->(stp s k).Strokes≠[]
  ac:∀ k,k < n s->∀ x∈(stp s k).Strokes,0<=x.Actuator/\x.Actuator < s.Actuators
  w0:∀ k,k < n s->0<=(stp s k).Wait
  fits:∀ k,k < n s->∀ a o,(a,o)∈S s k->(dat s).pos k a=!o
  back:∀ a,(dat s).pos (n s) a=false
  mv:∀ a,a < A s->∃ k o,k < n s/\(a,o)∈S s k
theorem Sqc.g2 (h:Sqc s):2<=G s:=by
  have hG:=FP (s:=s);rcases G5 (G s) 2 with h2 | h2
  · exfalso
    obtain ⟨k,o,hk,ha⟩:=h.mv 0 (by have:=h.a0;unfold A;omega);revert ha;generalize (0:Nat)=a;intro ha;have h0:∀ i,i < n s->g s i=0:=λi hi=>by have:=Hr (s:=s) (show i<=n s - 1 by omega);omega
    -- the sequence of a single group
    have key:∀ d,k + d < n s->(dat s).pos (k + d + 1) a=o:=by
      intro d
      induction d with
      | zero=>
        intro hd;show (if (a,true)∈S s k then true else if (a,false)∈S s k then false else (dat s).pos k a)=o
        have hf:=h.fits k hk a o ha;cases o with
        | true=>rw [if_pos ha]
        | false=>rw [if_neg (λe=>by have:=h.fits k hk a true e;rw [hf] at this;cases this),if_pos ha]
      | succ d ih=>
        intro hd;have h1:=ih om_;have hno:∀ o',(a,o') ∉ (dat s).S (k + d + 1):=λo' ho=>BZ (s:=s) (show k < k + d + 1 by omega) (by rw [h0 _ hk,h0 _ om_]) ha ho;rw [show k + (d + 1) + 1=(k + d + 1) + 1 by omega,De hno];exact h1
    have h3:=key (n s - 1 - k) om_;rw [show k + (n s - 1 - k) + 1=n s by omega,h.back] at h3;have key2:∀ d,d<=k->(dat s).pos (k - d) a=!o:=by
      intro d
      induction d with
      | zero=>intro _;exact h.fits k hk a o ha
      | succ d ih=>
        intro hd;have h1:=ih om_;have hno:∀ o',(a,o') ∉ (dat s).S (k - (d + 1)):=λo' ho=>BZ (s:=s) (show k - (d + 1) < k by omega) (by rw [h0 _ hk,h0 _ om_]) ho ha;rw [show k - d=k - (d + 1) + 1 by omega,De hno] at h1;exact h1
    have h4:=key2 k (GB _);rw [JU] at h4;have h5:(dat s).pos 0 a=false:=rfl;rw [h5] at h4;cases o
    · cases h4
    · cases h3
  · exact h2
theorem Sqc.sq (h:Sqc s):SqP (dat s) where
  n0:=h.n0
  ne:=λk hk e=>by
    have:=h.ne k hk;unfold dat S at e;exact this (KJ.1 e)
  fits:=h.fits
  back:=h.back
  g0:=rfl
  gs:=λk _=>Xn k
  gl:=FP.symm
  gu:=λi k hik _ hg a o o' h1 h2=>BZ hik hg h1 h2
  la:=λj hj=>(la_ok h.n0 hj).2
end Go.Pn
namespace Go.Pn
open Go
open Csc
variable {s:Ai}
theorem Cv {p:Nat->Bool} {k n:Nat} (hk:k < n) (hp:p k=true):((List.range n).filter p)[((List.range k).filter p).length]?=some k:=by
 obtain ⟨m,rfl⟩:∃ m,n=k + (1 + m):=⟨n - k - 1,by omega⟩;rw [List.range_add,JT,F5 (GB _),JU,List.range_add,HD,JT];simp [hp]
theorem Ps {p:Nat->Bool}:∀ {n i:Nat},i < ((List.range n).filter p).length->∃ k,k < n/\p k=true/\((List.range k).filter p).length=i
 | 0,i,h=>by simp at h
 | n + 1,i,h=>by
  rw [HK,JT,FR] at h;by_cases h1:i < ((List.range n).filter p).length
  ·obtain ⟨k,hk,h2,h3⟩:=Ps h1;exact ⟨k,by omega,h2,h3⟩
  ·have hp:p n=true:=by
    cases hp:p n with
    | true=>rfl
    | false=>rw [show [n].filter p=[] by simp [hp]] at h;simp at h;omega
   rw [show [n].filter p=[n] by simp [hp]] at h;simp only [JD,K1] at h;exact ⟨n,by omega,hp,by omega⟩
theorem Hu {α:Type} {f h:Nat->α}:∀ {n:Nat},((List.range n).flatMap λa=>[f a,h a]).length=2 * n
 | 0=>rfl
 | n + 1=>by rw [HK,JA,FR,Hu];simp;omega
theorem Ua {α:Type} {f h:Nat->α} {a:Nat}:∀ {n:Nat},a < n->((List.range n).flatMap λa=>[f a,h a])[2 * a]?=some (f a)/\((List.range n).flatMap λa=>[f a,h a])[2 * a + 1]?=some (h a)
 | 0,ha=>by omega
 | n + 1,ha=>by
  have hl:=Hu (f:=f) (h:=h) (n:=n);rw [HK,JA];rcases GV (show a<=n by omega) with e | e
  ·subst e;rw [F5 om_,F5 om_,hl];simp
  ·obtain ⟨h1,h2⟩:=Ua (f:=f) (h:=h) e;rw [FY om_,FY om_];exact ⟨h1,h2⟩
abbrev zxp:Expr:=⟨0,0,[]⟩
namespace Csc
def sgG (N:Sg->LL) (s:Ai):List Ae:=
 if G s=2 then [⟨N (.gl 1),1,Ec 3 ((dat s).en (las s 0)),Ec 3 ((dat s).en (las s 1)),0,false⟩,⟨N (.gl 0),0,⟨2,0,[lnx ((dat s).L (.gl 1))]⟩,zxp,0,false⟩]
 else (List.range (G s)).map λj=>⟨N (.gl j),1,Ec 3 ((dat s).L (.gl ((dat s).pv j)) :: (dat s).en (las s ((dat s).pv j))),lnx ((dat s).L (.gl ((dat s).nx j))),0,decide (j=0)⟩
def sT (N:Sg->LL) (s:Ai) (k:Nat):Ae:=⟨N (.tm k),2,Ec 3 ((dat s).L (.gl (g s k)) :: (S s k).map CasD.sw),zxp,(stp s k).Wait,false⟩
def sS (N:Sg->LL) (s:Ai) (k:Nat):Ae:=⟨N (.sg k),0,Ec 3 ((dat s).L (.gl (g s k)) :: (dat s).bg k),zxp,0,false⟩
def sP (N:Sg->LL) (s:Ai) (o:Bool) (a:Nat):Ae:=⟨N (.pl a o),0,Ec 4 (((dat s).at_ a o).map λk=>(dat s).L (.sg k)),zxp,0,false⟩
def sgs (N:Sg->LL) (s:Ai):List Ae:=sgG N s ++ (((List.range (n s)).filter (W s)).map (sT N s) ++ ((List.range (n s)).map (sS N s) ++ (List.range (A s)).flatMap λa=>[sP N s true a,sP N s false a]))
def blt (N:Sg->LL) (i:LL) (s:Ai):Aa:=⟨s.Actuators,[i],sgs N s,(List.range (A s)).map λa=>(((dat s).L (.pl a true):Nat):Int),(List.range (A s)).map λa=>(((dat s).L (.pl a false):Nat):Int)⟩
end Csc
variable {N:Sg->LL} {i:LL}
theorem Db:(sgG N s).length=G s:=by
 unfold sgG;split
 ·rename_i h;rw [h];rfl
 ·rw [GC,G9]
theorem Cm:(sgs N s).length=G s + cts s (n s) + n s + 2 * A s:=by
 unfold sgs;rw [FR,FR,FR,Db,GC,GC,G9,Hu];show G s + (cts s (n s) + (n s + 2 * A s))=_;omega
theorem Sk {j:Nat} (hj:j < G s):(sgs N s)[j]?=(sgG N s)[j]?:=by
 unfold sgs;rw [FY (by rw [Db];exact hj)]
theorem sgs_T {k:Nat} (hk:k < n s) (hw:W s k=true):(sgs N s)[G s + cts s k]?=some (sT N s k):=by
 have h1:=Cv hk hw;have h2:=(FT.1 h1).1;unfold sgs;rw [F5 (by rw [Db];omega),Db,show G s + cts s k - G s=cts s k by omega,FY (by rw [GC];exact h2),F9];show (((List.range (n s)).filter (W s))[((List.range k).filter (W s)).length]?).map _=_;rw [h1];rfl
theorem sgs_S {k:Nat} (hk:k < n s):(sgs N s)[G s + cts s (n s) + k]?=some (sS N s k):=by
 have hl:(((List.range (n s)).filter (W s)).map (sT N s)).length=cts s (n s):=by rw [GC];rfl
 unfold sgs;rw [F5 (by rw [Db];omega),Db,F5 om_,hl,show G s + cts s (n s) + k - G s - cts s (n s)=k by omega,FY (by rw [GC,G9];exact hk),F9,GN hk];rfl
theorem sgs_P {a:Nat} {o:Bool} (ha:a < A s):(sgs N s)[G s + cts s (n s) + n s + 2 * a + (if o=true then 0 else 1)]?=some (sP N s o a):=by
 have hl:(((List.range (n s)).filter (W s)).map (sT N s)).length=cts s (n s):=by rw [GC];rfl
 have hl2:((List.range (n s)).map (sS N s)).length=n s:=by rw [GC,G9]
 obtain ⟨h1,h2⟩:=Ua (f:=sP N s true) (h:=sP N s false) ha;unfold sgs;rw [F5 (by rw [Db];omega),Db,F5 om_,hl,F5 om_,hl2];cases o with
 | true=>rw [if_pos rfl,show G s + cts s (n s) + n s + 2 * a + 0 - G s - cts s (n s) - n s=2 * a by omega];exact h1
 | false=>rw [if_neg (by decide),show G s + cts s (n s) + n s + 2 * a + 1 - G s - cts s (n s) - n s=2 * a + 1 by omega];exact h2
theorem Sqc.cas (h:Sqc s):CasP (blt N i s) (dat s) where
 a:=rfl
 i:=rfl
 g2:=h.g2
 gn:=λk hk=>by
  have:=Hr (s:=s) (show k<=n s - 1 by have:k < n s:=hk;omega);show g s k < G s;rw [FP];omega
 ln:=λj hj=>(la_ok h.n0 hj).1
 Sa:=λk hk x hx=>by
  obtain ⟨y,hy,rfl⟩:=GE.1 hx;have:=h.ac k hk y hy;show y.Actuator.toNat < s.Actuators.toNat
  omega
 sur:=λj hj=>by
  have hj:j < G s + cts s (n s) + n s + 2 * A s:=by rw [← Cm (N:=N)];exact hj
  have h2:=h.g2;rcases G5 j (G s) with h1 | h1
  ·refine ⟨.gl (if G s=2 then 1 - j else j),?_,?_⟩
   ·show (if G s=2 then 1 - j else j) < G s
    split <;> omega
   ·show (if G s=2 then 1 - (if G s=2 then 1 - j else j) else (if G s=2 then 1 - j else j))=j
    split <;> omega
  ·rcases G5 j (G s + cts s (n s)) with h3 | h3
   ·obtain ⟨k,hk,hw,he⟩:=Ps (p:=W s) (n:=n s) (i:=j - G s) (by show _ < cts s (n s);omega);refine ⟨.tm k,⟨hk,hw⟩,?_⟩;show G s + cts s k=j;unfold cts;omega
   ·rcases G5 j (G s + cts s (n s) + n s) with h4 | h4
    ·exact ⟨.sg (j - G s - cts s (n s)),show _ < n s by omega,show G s + cts s (n s) + _=j by omega⟩
    ·refine ⟨.pl ((j - G s - cts s (n s) - n s) / 2) (decide ((j - G s - cts s (n s) - n s) % 2=0)),show _ < A s by omega,?_⟩;show G s + cts s (n s) + n s + 2 * ((j - G s - cts s (n s) - n s) / 2) + (if decide ((j - G s - cts s (n s) - n s) % 2=0)=true then 0 else 1)=j
     by_cases e:(j - G s - cts s (n s) - n s) % 2=0
     ·rw [dt_ e,if_pos rfl];omega
     ·rw [df_ e,if_neg (by decide)];omega
 tmS:=λk hk hw=>⟨_,sgs_T hk hw,rfl,rfl⟩
 sgS:=λk hk=>⟨_,sgs_S hk,rfl,rfl⟩
 plS:=λa o ha=>⟨_,sgs_P ha,rfl,rfl⟩
 glS:=λhG j hj=>by
  have hG:G s≠2:=hG;have hj:j < G s:=hj;refine ⟨⟨N (.gl j),1,Ec 3 ((dat s).L (.gl ((dat s).pv j)) :: (dat s).en (las s ((dat s).pv j))),lnx ((dat s).L (.gl ((dat s).nx j))),0,decide (j=0)⟩,?_,rfl,rfl,rfl⟩;show (sgs N s)[if G s=2 then 1 - j else j]?=_
  rw [if_neg hG,Sk hj];unfold sgG;rw [if_neg hG,F9,GN hj];rfl
 glT:=λhG=>by
  have hG:G s=2:=hG;refine ⟨⟨N (.gl 1),1,Ec 3 ((dat s).en (las s 0)),Ec 3 ((dat s).en (las s 1)),0,false⟩,?_,rfl,rfl,rfl⟩;show (sgs N s)[if G s=2 then 1 - 1 else 1]?=_
  rw [if_pos hG,Sk om_];unfold sgG;rw [if_pos hG];rfl
 glU:=λhG=>by
  have hG:G s=2:=hG;refine ⟨⟨N (.gl 0),0,⟨2,0,[lnx ((dat s).L (.gl 1))]⟩,zxp,0,false⟩,?_,rfl,rfl⟩;show (sgs N s)[if G s=2 then 1 - 0 else 0]?=_
  rw [if_pos hG,Sk om_];unfold sgG;rw [if_pos hG];rfl
 ogs:=λhG k hk=>by
  have hG:G s=2:=hG;show (if G s=2 then 1 - 0 else 0) < G s + cts s (n s) + k
  rw [if_pos hG];omega
 osp:=λk a o hk ha=>by
  have hk:k < n s:=hk;show G s + cts s (n s) + k < G s + cts s (n s) + n s + 2 * a + (if o=true then 0 else 1)
  omega
 pls:=λa ha=>Gp (show a < A s from ha)
 mns:=λa ha=>Gp (show a < A s from ha)
theorem Sqc.tmp:TmP (dat s) where
 inj:=λa b ha hwa hb hwb he=>by
  have he:G s + cts s a=G s + cts s b:=he;have h1:=Cv ha hwa;have h2:=Cv hb hwb;have h3:((List.range a).filter (W s)).length=((List.range b).filter (W s)).length:=by unfold cts at he;omega
  have h1:((List.range (n s)).filter (W s))[((List.range a).filter (W s)).length]?=some a:=h1;rw [h3] at h1;exact Option.some.inj (h1.symm.trans h2)
 jn:=λj k hj hk hw=>by
  have hj:j < G s:=hj;show (if G s=2 then 1 - j else j)≠G s + cts s k
  split <;> omega
theorem Sqc.ini (h:Sqc s) (hf:Fit (blt N i s) (Pn.ini (blt N i s))):Bs (blt N i s) (dat s) (Pn.ini (blt N i s)) ((dat s).Ep 0) ((dat s).pos 0) (CasD.Mj 0) ((dat s).Tk 0 0) false:=by
 have h2:=h.g2;have hl:=Cm (N:=N) (s:=s);have hv:∀ j x,(sgs N s)[j]?=some x->(Pn.ini (blt N i s)).Values.getD j false=x.Init:=λj x hx=>by
  have hlt:=(FT.1 hx).1;show ((List.range (sgs N s).length).map (BS (blt N i s))).getD j false=_;rw [Gp hlt];unfold BS;rw [show (blt N i s).Signals[j]?=some x from hx];rfl
 have hrep:∀ {α:Type} (m j:Nat) (d:α),(List.replicate m d).getD j d=d:=λm j d=>by
  rw [FU,JG]; split <;> rfl
 refine ⟨hf,λa ha=>?_,λa ha=>?_,rfl,λj hj hg=>?_,λ_=>rfl,λk hk hw=>⟨?_,?_⟩⟩
 ·exact hrep _ _ _
 ·exact hrep _ _ _
 ·have hj:j < G s:=hj;show (Pn.ini (blt N i s)).Values.getD (if G s=2 then 1 - j else j) false=_
  by_cases e:G s=2
  ·obtain rfl:=hg e;rw [if_pos e];have:(sgs N s)[1 - 1]?=some ⟨N (.gl 1),1,Ec 3 ((dat s).en (las s 0)),Ec 3 ((dat s).en (las s 1)),0,false⟩:=by
    rw [Sk om_];unfold sgG;rw [if_pos e];rfl
   rw [hv _ _ this];rfl
  ·rw [if_neg e];have:(sgs N s)[j]?=some ⟨N (.gl j),1,Ec 3 ((dat s).L (.gl ((dat s).pv j)) :: (dat s).en (las s ((dat s).pv j))),lnx ((dat s).L (.gl ((dat s).nx j))),0,decide (j=0)⟩:=by
    rw [Sk hj];unfold sgG;rw [if_neg e,F9,GN hj];rfl
   rw [hv _ _ this];unfold CasD.Mj;show decide (j=0)=(j == 0);rw [GU];simp
 ·rw [Pz (λ_ _ _=>G3 _) hk];exact hrep _ _ _
 ·rw [Pz (λ_ _ _=>G3 _) hk];show (Pn.ini (blt N i s)).Values.getD (G s + cts s k) false=_;rw [hv _ _ (sgs_T hk hw)];rfl
end Go.Pn
namespace Go.Pn
open Go
open Csc
theorem chkI {L:Nat->Int->Option (Lo Int Int)} {N:Nat} {P:Nat->Prop}
  (h:∀ (n i:Nat),i < N->(∃ e,e≠0/\L (n + 1) (i:Int)=some (.ret e))\/(P i/\L (n + 1) (i:Int)=L n ((i + 1:Nat):Int))) (h':∀ n,L (n + 1) (N:Int)=some (.brk (N:Int))) :
  ∀ (n i:Nat),i<=N->N - i < n->(∃ e,e≠0/\L n (i:Int)=some (.ret e))\/(L n (i:Int)=some (.brk (N:Int))/\∀ k,i<=k->k < N->P k)
 | 0,i,_,h=>by omega
 | n + 1,i,h1,h2=>by
  by_cases hi:i < N
  ·rcases h n i hi with h3 | ⟨h3,h4⟩
   ·exact .inl h3
   ·rw [h4];rcases chkI h h' n (i + 1) om_ om_ with h5 | ⟨h5,h6⟩
    ·exact .inl h5
    ·refine .inr ⟨h5,λk h7 h8=>?_⟩;rcases GV h7 with e | e
     ·subst e;exact h3
     ·exact h6 k e h8
  ·obtain rfl:i=N:=by omega
   exact .inr ⟨h' n,λk h3 h4=>by omega⟩
structure Stk (x:Step):Prop where
 ne:x.Strokes≠[]
 le:x.Strokes.length<=6
 ac:∀ y∈x.Strokes,0<=y.Actuator/\y.Actuator < 6
 srt:∀ (i:Nat) y z,x.Strokes[i]?=some y->x.Strokes[i + 1]?=some z->y.Actuator < z.Actuator
 w:0<=x.Wait/\x.Wait<=1000000
theorem DT (x:Step):∃ e,m35 FF x=some e/\(e=0->Stk x):=by
 unfold m35;by_cases h0:x.Strokes=[]
 ·rw [h0];exact ⟨13,rfl,λh=>by omega⟩
 have hl:0 < x.Strokes.length:=J0.2 h0;rw [show ((x.Strokes.length:Int) == 0)=false by rw [beq_eq_false_iff_ne];omega,cf_];by_cases h6:x.Strokes.length > 6
 ·rw [dt_ om_,ct_];exact ⟨5,rfl,λh=>by omega⟩
 rw [df_ om_,cf_];have h:=chkI (L:=Ol FF x) (N:=x.Strokes.length) (P:=λi=>∀ y,x.Strokes[i]?=some y->(0<=y.Actuator/\y.Actuator < 6)/\∀ j z,i=j + 1->x.Strokes[j]?=some z->z.Actuator < y.Actuator) (λn i hi=>by
  have hx:=gE_ hi;rw [Ol,Ao,dt_ hi,ct_,Am,hx,ob_];unfold m69;rw [ob_];by_cases ha:0<=x.Strokes[i].Actuator/\x.Strokes[i].Actuator < 6
  ·rw [dt_ (show x.Strokes[i].Actuator>=0 from ha.1),dt_ ha.2,JH,H1,cf_];cases i with
   | zero=>
    rw [show decide (((0:Nat):Int) > 0)=false by rfl,cf_,ob_,cf_,cf_,ob_,cf_,Aq om_];refine .inr ⟨λy hy=>?_,rfl⟩;obtain rfl:=Option.some.inj hy;exact ⟨ha,λj z hj=>by omega⟩
   | succ i=>
    have hz:=gE_ (show i < x.Strokes.length by omega);have hw:wr (((i + 1:Nat):Int) - 1)=(i:Int):=by rw [Ar om_ om_];omega
    rw [dt_ (by omega:((i + 1:Nat):Int) > 0),ct_,hw,Am,hz];simp only [ob_,ct_];by_cases he:x.Strokes[i + 1].Actuator=x.Strokes[i].Actuator
    ·rw [show (x.Strokes[i + 1].Actuator == x.Strokes[i].Actuator)=true by simpa using he,ct_];exact .inl ⟨7,by omega,rfl⟩
    ·rw [show (x.Strokes[i + 1].Actuator == x.Strokes[i].Actuator)=false by simpa using he,cf_];by_cases hl:x.Strokes[i + 1].Actuator < x.Strokes[i].Actuator
     ·rw [dt_ hl,ct_];exact .inl ⟨9,by omega,rfl⟩
     ·rw [df_ hl,cf_,Aq om_];refine .inr ⟨λy hy=>?_,rfl⟩;obtain rfl:=Option.some.inj hy;refine ⟨ha,λj z hj hz'=>?_⟩;obtain rfl:j=i:=by omega
      rw [hz] at hz';obtain rfl:=Option.some.inj hz';omega
  ·have:(decide (x.Strokes[i].Actuator>=0) && decide (x.Strokes[i].Actuator < 6))=false:=by
    rw [JC,decide_eq_false_iff_not,decide_eq_false_iff_not];omega
   rw [this,JL,ct_];exact .inl ⟨2,by omega,rfl⟩) (λn=>by
  rw [Ol,Ao,df_ om_,cf_]) FF 0 om_ uF
 rw [n0] at h;rcases h with ⟨e,he,h⟩ | ⟨h,hP⟩
 ·rw [h];exact ⟨e,rfl,λh=>absurd h he⟩
 ·rw [h,ob_];dsimp only;unfold m70;rw [ob_];by_cases hw:0<=x.Wait/\x.Wait<=1000000
  ·rw [dt_ (show x.Wait>=0 from hw.1),dt_ hw.2];refine ⟨0,rfl,λ_=>⟨h0,by omega,λy hy=>?_,λi y z hy hz=>?_,hw⟩⟩
   ·obtain ⟨i,hi⟩:=HE hy;exact (hP i (G3 _) (FT.1 hi).1 y hi).1
   ·exact (hP (i + 1) (G3 _) (FT.1 hz).1 z hz).2 i y rfl hy
  ·have:(decide (x.Wait>=0) && decide (x.Wait<=1000000))=false:=by
    rw [JC,decide_eq_false_iff_not,decide_eq_false_iff_not];omega
   rw [this];exact ⟨2,rfl,λh=>by omega⟩
theorem Stk.asc {x:Step} (h:Stk x) {i j:Nat} {y z:Ab} (hij:i < j) (hy:x.Strokes[i]?=some y) (hz:x.Strokes[j]?=some z):y.Actuator < z.Actuator:=by
 induction j generalizing z with
 | zero=>omega
 | succ j ih=>
  have hj:=(FT.1 hz).1;have hw:=gE_ (show j < x.Strokes.length by omega);have h1:=h.srt j _ z hw hz;rcases GV (show i<=j by omega) with e | e
  ·subst e;rw [hw] at hy;obtain rfl:=Option.some.inj hy;exact h1
  ·have:=ih e hw;omega
def enf (x:Step) (i:Nat) (v:Bool) (a:Nat):Bool:=match (x.Strokes.take i).find? (λy=>y.Actuator.toNat == a) with | some y=>y.Out | none=>v
theorem AV {x:Step} {l:LH} (h:Stk x) (hl:l.length<=1000) (hA:∀ y∈x.Strokes,y.Actuator < l.length):∃ r,m37 FF x l=some r/\r.length=l.length/\∀ a,a < l.length->r.getD a false=enf x x.Strokes.length (l.getD a false) a:=by
 have h6:=h.le;unfold m37;rw [Av so_,ob_,JM];obtain ⟨v,⟨hv1,hv⟩,hh⟩:=Pi (L:=Oj x) (mk:=λi (v:LH)=>((i:Int),v)) (N:=x.Strokes.length) (I:=λi v=>v.length=l.length/\∀ a,a < l.length->v.getD a false=enf x i (l.getD a false) a) (λn i v hi hI=>by
  have hx:=gE_ hi;have hac:=h.ac _ (GA hi);have hlt:=hA _ (GA hi);have hid:idx v x.Strokes[i].Actuator=v[x.Strokes[i].Actuator.toNat]?:=by
   rw [show x.Strokes[i].Actuator=((x.Strokes[i].Actuator.toNat:Nat):Int) by omega,Am];rfl
  have hlt':x.Strokes[i].Actuator.toNat < v.length:=by rw [hI.1];omega
  rw [Oj];dsimp only;rw [Ao,dt_ hi,ct_,Am,hx,ob_,ob_,hid,gE_ hlt',ob_,Aq om_];refine ⟨_,⟨(HR ..).trans hI.1,λa ha=>?_⟩,rfl⟩;rw [Fe hlt'];unfold enf;rw [JE,hx];simp only [Option.toList_some];rw [List.find?_append];by_cases e:x.Strokes[i].Actuator.toNat=a
  ·rw [if_pos e];have hno:(x.Strokes.take i).find? (λy=>y.Actuator.toNat == a)=none:=by
    rw [List.find?_eq_none];intro y hy;obtain ⟨j,hj⟩:=HE hy;have hj2:=(FT.1 hj).1;rw [HO] at hj2;rw [HL om_] at hj;have h1:=h.asc (show j < i by omega) hj hx;have h2:=h.ac y (GF hj);simp;omega
   rw [hno];simp [e]
  ·rw [if_neg e,hI.2 a ha];have:[x.Strokes[i]].find? (λy=>y.Actuator.toNat == a)=none:=by simp [e]
   rw [this,Option.or_none];rfl) (λn v _=>by
  rw [Oj];dsimp only;rw [Ao,df_ om_,cf_]) FF 0 l om_ uF ⟨rfl,λa _=>by unfold enf;simp⟩
 try dsimp only at hh
 rw [n0] at hh;rw [hh];exact ⟨v,rfl,hv1,hv⟩
theorem enf_pos {s:Ai} {k a:Nat} (h:Stk (stp s k)):enf (stp s k) (stp s k).Strokes.length ((dat s).pos k a) a=(dat s).pos (k + 1) a:=by
 unfold enf;rw [KY];show _=if (a,true)∈S s k then true else if (a,false)∈S s k then false else (dat s).pos k a
 cases hf:(stp s k).Strokes.find? (λy=>y.Actuator.toNat == a) with
 | none=>
  rw [List.find?_eq_none] at hf;have hno:∀ o,(a,o) ∉ S s k:=λo ho=>by
   obtain ⟨y,hy,he⟩:=GE.1 ho;have:=hf y hy;simp at this;exact this (Prod.mk.inj he).1
  rw [if_neg (hno true),if_neg (hno false)]
 | some y=>
  have hy:=List.mem_of_find?_eq_some hf;have ha:y.Actuator.toNat=a:=by have:=List.find?_some hf;simpa using this
  have hm:(a,y.Out)∈S s k:=GE.2 ⟨y,hy,by rw [ha]⟩;have huniq:∀ o,(a,o)∈S s k->o=y.Out:=λo ho=>by
   obtain ⟨z,hz,he⟩:=GE.1 ho;obtain ⟨he1,he2⟩:=Prod.mk.inj he;obtain ⟨i,hi⟩:=HE hy;obtain ⟨j,hj⟩:=HE hz;have h1:=h.ac y hy;have h2:=h.ac z hz;rcases JN i j with h3 | h3 | h3
   ·have:=h.asc h3 hi hj;omega
   ·subst h3;rw [hi] at hj;rw [Option.some.inj hj];exact he2.symm
   ·have:=h.asc h3 hj hi;omega
  cases ho:y.Out with
  | true=>rw [ho] at hm;rw [if_pos hm];exact ho
  | false=>
   rw [ho] at hm huniq;rw [if_neg (λe=>by have:=huniq true e;cases this),if_pos hm];exact ho
end Go.Pn
namespace Go.Pn
open Go
open Csc
variable {s:Ai}
theorem Tq {v:LH} {z:Int} (h0:0<=z) (h:z < v.length):idx v z=some (v.getD z.toNat false):=by
 have h1:z.toNat < v.length:=by omega
 have h2:idx v z=v[z.toNat]?:=by
  have:=Am (xs:=v) (n:=z.toNat);rw [show ((z.toNat:Nat):Int)=z by omega] at this;exact this
 rw [h2,gE_ h1,FU,gE_ h1];rfl
theorem DS {x:Step} {l:LH} (h:Stk x) (hl:l.length<=1000):∃ b,m36 FF x l=some b/\(b=true->∀ y∈x.Strokes,y.Actuator < l.length/\l.getD y.Actuator.toNat false=!y.Out):=by
 have h6:=h.le;have hh:=Gz (L:=Ok x l) (N:=x.Strokes.length) (Q:=λi=>match x.Strokes[i]? with | some y=>decide (y.Actuator>=(l.length:Int)) || (l.getD y.Actuator.toNat false == y.Out) | none=>false) (r:=λ_=>false) (λn i hi=>by
  have hx:=gE_ hi;have hac:=h.ac _ (GA hi);rw [Ok,Ao,dt_ hi,ct_,Am,hx,ob_];dsimp only;by_cases hg:x.Strokes[i].Actuator>=(l.length:Int)
  ·rw [dt_ hg,ct_,ob_,ct_];rfl
  ·rw [df_ hg,cf_,Tq hac.1 om_,ob_,ob_,HX,Aq om_]) (λn=>by
  rw [Ok,Ao,df_ om_,cf_]) FF 0 om_ uF
 rw [n0] at hh;unfold m36;rcases hh with ⟨k,_,_,_,hh⟩ | ⟨hh,hq⟩
 ·rw [hh];exact ⟨false,rfl,λh=>by cases h⟩
 ·rw [hh];refine ⟨true,rfl,λ_ y hy=>?_⟩;obtain ⟨i,hi⟩:=HE hy;have:=hq i (G3 _) (FT.1 hi).1;rw [hi] at this;dsimp only at this;rw [H6,decide_eq_false_iff_not] at this;refine ⟨by omega,?_⟩;have h2:=this.2;cases e:l.getD y.Actuator.toNat false <;> cases e2:y.Out <;> rw [e,e2] at h2 <;> first | rfl | cases h2
structure Gd4 (s:Ai) (k:Nat):Prop where
 st:Stk (stp s k)
 lt:∀ y∈(stp s k).Strokes,y.Actuator < s.Actuators
 ft:∀ a o,(a,o)∈S s k->(dat s).pos k a=!o
theorem Cz {k:Nat} (hk:k < n s):s.Steps[k]?=some (stp s k):=by
 unfold stp;rw [FU,gE_ hk];rfl
theorem Mb (h1:1<=s.Actuators) (h6:s.Actuators<=6) (hn:n s<=64):∀ (m i:Nat) (l:LH),i<=n s->n s - i < m->l.length=A s->(∀ a,a < A s->l.getD a false=(dat s).pos i a) ->
  (∃ e,e≠0/\Oz FF s m (l,(i:Int))=some (.ret e))\/(∃ r,Oz FF s m (l,(i:Int))=some (.brk (r,(n s:Int)))/\r.length=A s/\(∀ a,a < A s->r.getD a false=(dat s).pos (n s) a)/\∀ k,i<=k->k < n s->Gd4 s k)
 | 0,i,l,_,h,_,_=>by omega
 | m + 1,i,l,hi1,hi2,hl,hp=>by
  have hA:((A s:Nat):Int)=s.Actuators:=by unfold A;omega
  rw [Oz];dsimp only;by_cases hi:i < n s
  ·have hx:=Cz hi;rw [show decide ((i:Int) < (s.Steps.length:Int))=true from dt_ (by unfold n at hi;omega),ct_,Am,hx,ob_];obtain ⟨e,he,hst⟩:=DT (stp s i);rw [he,ob_];by_cases h0:e=0
   ·subst h0;have hS:=hst rfl;have h6':=hS.le;rw [zf_,cf_];have hh:=Gz (L:=Oy s (stp s i)) (N:=(stp s i).Strokes.length) (Q:=λj=>match (stp s i).Strokes[j]? with | some y=>decide (y.Actuator>=s.Actuators) | none=>false) (r:=λ_=>6) (λn' j hj=>by
     have hx:=gE_ hj;rw [Oy,Ao,dt_ hj,ct_,Am,hx,ob_,Aq om_]) (λn'=>by
     rw [Oy,Ao,df_ om_,cf_]) FF 0 om_ uF
    rw [n0] at hh;rcases hh with ⟨k,_,_,_,hh⟩ | ⟨hh,hq⟩
    ·rw [hh];exact .inl ⟨6,by omega,rfl⟩
    ·rw [hh,ob_];dsimp only;have hlt:∀ y∈(stp s i).Strokes,y.Actuator < s.Actuators:=λy hy=>by
      obtain ⟨j,hj⟩:=HE hy;have:=hq j (G3 _) (FT.1 hj).1;rw [hj] at this;have:=of_decide_eq_false this;omega
     obtain ⟨b,hb,hbt⟩:=DS (l:=l) hS om_;rw [hb,ob_];cases b with
     | false=>rw [nf_,ct_];exact .inl ⟨14,by omega,rfl⟩
     | true=>
      have hft:=hbt rfl;obtain ⟨r,hr,hrl,hrg⟩:=AV (l:=l) hS om_ (λy hy=>(hft y hy).1);rw [nt_,cf_,hr,ob_,Aq om_];have hG:Gd4 s i:=⟨hS,hlt,λa o ho=>by
       obtain ⟨y,hy,he⟩:=GE.1 ho;obtain ⟨he1,he2⟩:=Prod.mk.inj he;have h3:=hft y hy;have h4:=hS.ac y hy;rw [← hp a om_,← he1,← he2];exact h3.2⟩
      rcases Mb h1 h6 hn m (i + 1) r om_ om_ om_ (λa ha=>by
       rw [hrg a om_,hp a ha];exact enf_pos hS) with h5 | ⟨r',g1,g2,g3,g4⟩
      ·exact .inl h5
      ·refine .inr ⟨r',g1,g2,g3,λk hk1 hk2=>?_⟩;rcases GV hk1 with e | e
       ·subst e;exact hG
       ·exact g4 k e hk2
   ·rw [show (e != 0)=true by simpa using h0,ct_];exact .inl ⟨e,h0,rfl⟩
  ·obtain rfl:i=n s:=by omega
   rw [show decide (((n s:Nat):Int) < (s.Steps.length:Int))=false from df_ (by unfold n;omega),cf_];exact .inr ⟨l,rfl,hl,hp,λk _ _=>by omega⟩
theorem D0 (h1:1<=s.Actuators) (h6:s.Actuators<=6) (hn:n s<=64):∃ e,m15 FF s=some e/\(e=0->(∀ k,k < n s->Gd4 s k)/\∀ a,a < A s->(dat s).pos (n s) a=false):=by
 have hA:((A s:Nat):Int)=s.Actuators:=by unfold A;omega
 have hA6:A s<=6:=by omega
 unfold m15;rw [← hA,Nr om_,ob_];rcases Mb h1 h6 hn FF 0 (List.replicate (A s) false) om_ uF smp_ (λa ha=>by
  rw [FU,JG,if_pos ha];rfl) with ⟨e,he,h⟩ | ⟨r,h,g2,g3,g4⟩
 ·rw [n0] at h;rw [h];exact ⟨e,rfl,λh=>absurd h he⟩
 ·rw [n0] at h;rw [h,ob_];dsimp only;have hh:=Gz (L:=Ox s (r,(n s:Int))) (N:=A s) (Q:=λj=>r.getD j false) (r:=λ_=>9) (λn' j hj=>by
   rw [Ox];rw [show decide ((j:Int) < s.Actuators)=true from dt_ om_,ct_];dsimp only;rw [Am,gE_ om_,ob_,FU,gE_ om_,H3,Aq om_]) (λn'=>by
   rw [Ox,show decide (((A s:Nat):Int) < s.Actuators)=false from df_ om_,cf_]) FF 0 om_ uF
  rw [n0] at hh;rcases hh with ⟨k,_,_,_,hh⟩ | ⟨hh,hq⟩
  ·rw [hh];exact ⟨9,rfl,λh=>by omega⟩
  ·rw [hh];exact ⟨0,rfl,λ_=>⟨λk hk=>g4 k (G3 _) hk,λa ha=>by rw [← g3 a ha];exact hq a (G3 _) ha⟩⟩
theorem Qy {x:Step} {v:Int} (h:Stk x):∃ w,m38 FF x v=some w/\(w != 0)=x.Strokes.any λy=>y.Actuator == v:=by
 have h6:=h.le;have hh:=Gz (L:=Oi x v) (N:=x.Strokes.length) (Q:=λi=>match x.Strokes[i]? with | some y=>y.Actuator == v | none=>false) (r:=λi=>match x.Strokes[i.toNat]? with | some y=>if y.Out=true then 1 else -1 | none=>1) (λn i hi=>by
  have hx:=gE_ hi;rw [Oi,Ao,dt_ hi,ct_,Am,hx,ob_];dsimp only;rw [G6,hx];cases x.Strokes[i].Actuator == v with
  | true=>
   rw [ct_,ct_,ob_];dsimp only;cases x.Strokes[i].Out <;> rfl
  | false=>rw [cf_,cf_,Aq om_]) (λn=>by
  rw [Oi,Ao,df_ om_,cf_]) FF 0 om_ uF
 rw [n0] at hh;unfold m38;rcases hh with ⟨k,_,hk,hq,hh⟩ | ⟨hh,hq⟩
 ·have hx:=gE_ hk;rw [hh];refine ⟨_,rfl,?_⟩;rw [G6,hx];rw [hx] at hq;dsimp only at hq ⊢;have:(x.Strokes.any λy=>y.Actuator == v)=true:=F8.2 ⟨_,GA hk,hq⟩;rw [this];cases x.Strokes[k].Out <;> rfl
 ·rw [hh];refine ⟨0,rfl,?_⟩;have:(x.Strokes.any λy=>y.Actuator == v)=false:=by
   rw [GR];intro y hy;obtain ⟨i,hi⟩:=HE hy;have:=hq i (G3 _) (FT.1 hi).1;rw [hi] at this;simpa using this
  rw [this];rfl
theorem DZ (hn:n s<=64) (hG:∀ k,k < n s->Gd4 s k) (v:Int):∃ b,m16 FF s v=some b/\(b=true->∃ k y,k < n s/\y∈(stp s k).Strokes/\y.Actuator=v):=by
 have hh:=Gz (L:=Ov FF s v) (N:=n s) (Q:=λi=>(stp s i).Strokes.any λy=>y.Actuator == v) (r:=λ_=>true) (λm i hi=>by
  obtain ⟨w,hw,hw2⟩:=Qy (v:=v) (hG i hi).st;rw [Ov,show decide ((i:Int) < (s.Steps.length:Int))=true from dt_ (by unfold n at hi;omega),ct_,Am,Cz hi,ob_,hw,ob_,hw2,Aq om_]) (λm=>by
  rw [Ov,show decide (((n s:Nat):Int) < (s.Steps.length:Int))=false from df_ (by unfold n;omega),cf_]) FF 0 om_ uF
 rw [n0] at hh;unfold m16;rcases hh with ⟨k,_,hk,hq,hh⟩ | ⟨hh,_⟩
 ·rw [hh];refine ⟨true,rfl,λ_=>?_⟩;obtain ⟨y,hy,hv⟩:=F8.1 hq;exact ⟨k,y,hk,hy,by simpa using hv⟩
 ·rw [hh];exact ⟨false,rfl,λh=>by cases h⟩
theorem m5_spec (s:Ai):∃ e,m5 FF s=some e/\(e=0->Sqc s/\n s<=64/\∀ k,k < n s->Stk (stp s k)):=by
 unfold m5;by_cases hA:1<=s.Actuators/\s.Actuators<=6
 ·rw [df_ (show ¬ s.Actuators < 1 by omega),df_ (show ¬ s.Actuators > 6 by omega),JO,cf_];by_cases h0:s.Steps.length=0
  ·rw [show ((s.Steps.length:Int) == 0)=true by rw [beq_iff_eq];omega,ct_];exact ⟨13,rfl,λh=>by omega⟩
  rw [show ((s.Steps.length:Int) == 0)=false by rw [beq_eq_false_iff_ne];omega,cf_];by_cases h64:s.Steps.length > 64
  ·rw [dt_ (show (s.Steps.length:Int) > 64 by omega),ct_];exact ⟨5,rfl,λh=>by omega⟩
  rw [df_ (show ¬ (s.Steps.length:Int) > 64 by omega),cf_];have hn:n s<=64:=by unfold n;omega
  obtain ⟨e,he,hst⟩:=D0 hA.1 hA.2 hn;rw [he,ob_];by_cases h0':e=0
  ·subst h0';obtain ⟨hG,hB⟩:=hst rfl;rw [zf_,cf_];have hAc:((A s:Nat):Int)=s.Actuators:=by unfold A;omega
   have hh:=chkI (L:=Yo FF s) (N:=A s) (P:=λi=>∃ k y,k < n s/\y∈(stp s k).Strokes/\y.Actuator=(i:Int)) (λm i hi=>by
    obtain ⟨b,hb,hb2⟩:=DZ hn hG (i:Int);rw [Yo,show decide ((i:Int) < s.Actuators)=true from dt_ om_,ct_,hb,ob_];cases b with
    | false=>exact .inl ⟨13,by omega,rfl⟩
    | true=>rw [H1,cf_,Aq om_];exact .inr ⟨hb2 rfl,rfl⟩) (λm=>by
    rw [Yo,show decide (((A s:Nat):Int) < s.Actuators)=false from df_ om_,cf_]) FF 0 om_ uF
   rw [n0] at hh;rcases hh with ⟨e,he,hh⟩ | ⟨hh,hP⟩
   ·rw [hh];exact ⟨e,rfl,λh=>absurd h he⟩
   ·rw [hh];refine ⟨0,rfl,λ_=>⟨⟨hA.1,hA.2,by unfold n;omega,λk hk=>(hG k hk).st.ne,λk hk y hy=>⟨((hG k hk).st.ac y hy).1,(hG k hk).lt y hy⟩,λk hk=>(hG k hk).st.w.1,λk hk=>(hG k hk).ft,λa=>?_,?_⟩,hn,λk hk=>(hG k hk).st⟩⟩
    ·by_cases ha:a < A s
     ·exact hB a ha
     ·have:∀ k,k<=n s->(dat s).pos k a=false:=by
       intro k
       induction k with
       | zero=>intro _;rfl
       | succ k ih=>
        intro hk;rw [De (λo ho=>by
         obtain ⟨y,hy,he⟩:=GE.1 ho;have h1:=(hG k om_).lt y hy;have h2:=((hG k om_).st.ac y hy).1;have h3:=(Prod.mk.inj he).1;omega)]
        exact ih om_
      exact this _ (GB _)
    ·intro a ha;obtain ⟨k,y,hk,hy,hv⟩:=hP a (G3 _) ha;exact ⟨k,y.Out,hk,GE.2 ⟨y,hy,by rw [hv];rfl⟩⟩
  ·rw [show (e != 0)=true by simpa using h0',ct_];exact ⟨e,rfl,λh=>absurd h h0'⟩
 ·have:(decide (s.Actuators < 1) || decide (s.Actuators > 6))=true:=by
   rw [HY,decide_eq_true_iff,decide_eq_true_iff];omega
  rw [this,ct_];exact ⟨2,rfl,λh=>by omega⟩
end Go.Pn
namespace Go.Pn
open Go
open Csc
variable {s:Ai}
theorem CT {α:Type} {L:Nat->Int×List α->Option (Int×List α)} {N:Nat} {f:Nat->List α} {acc0:List α} (hN:N<=1000) (hf:∀ i,i < N->(f i).length<=100) (h0:acc0.length<=1000000)
  (h:∀ (n i:Nat) acc,i < N->acc.length<=2000000/\acc.length<=acc0.length + 100 * N->L (n + 1) ((i:Int),acc)=L n (((i + 1:Nat):Int),acc ++ f i)) (h':∀ n acc,L (n + 1) ((N:Int),acc)=some ((N:Int),acc)):L FF ((0:Int),acc0)=some ((N:Int),acc0 ++ (List.range N).flatMap f):=by
 have hlen:∀ i,i<=N->((List.range i).flatMap f).length<=100 * i:=by
  intro i
  induction i with
  | zero=>intro _;simp
  | succ i ih=>
   intro hi;rw [HK,JA,FR];have h1:=ih om_;have h2:=hf i om_;simp only [JX,List.flatMap_nil,G2];omega
 obtain ⟨v,hv,hh⟩:=Pi (L:=L) (mk:=λi (v:List α)=>((i:Int),v)) (N:=N) (I:=λi v=>v=acc0 ++ (List.range i).flatMap f) (λn i v hi hI=>by
  subst hI;refine ⟨_,?_,h n i _ hi (by rw [FR];have:=hlen i om_;omega)⟩;rw [HK,JA,GG];simp) (λn v _=>h' n v) FF 0 acc0 om_ uF smp_
 try dsimp only at hh
 rw [n0] at hh;rw [hh,hv]
theorem Pp {α:Type} {f:Nat->α} {N:Nat}:((List.range N).flatMap λi=>[f i])=(List.range N).map f:=(List.map_eq_flatMap ..).symm
theorem fm_if {α:Type} {f:Nat->α} {p:Nat->Bool}:∀ {N:Nat},((List.range N).flatMap λi=>if p i=true then [f i] else [])=((List.range N).filter p).map f
 | 0=>rfl
 | N + 1=>by
  rw [HK,JA,JT,HD,fm_if];cases h:p N <;> simp [h]
def nbr (p:UInt8) (k:Nat):LL:=if k < 10 then ⟨#[p,UInt8.ofNat (48 + k)]⟩ else ⟨#[p,UInt8.ofNat (48 + k / 10),UInt8.ofNat (48 + k % 10)]⟩
def nmS:Sg->LL
 | .gl j=>nbr 103 j
 | .tm k=>nbr 119 k
 | .sg k=>nbr 115 k
 | .pl a o=>⟨#[UInt8.ofNat (97 + a),if o=true then 112 else 109]⟩
theorem m49_tab:((List.range 64).all λk=>decide (m49 FF (⟨#[103]⟩:LL) (k:Int)=some (nbr 103 k)) && decide (m49 FF (⟨#[119]⟩:LL) (k:Int)=some (nbr 119 k)) && decide (m49 FF (⟨#[115]⟩:LL) (k:Int)=some (nbr 115 k)))=true:=by kernel_rfl
theorem Qu {k:Nat} (h:k < 64):m49 FF (⟨#[103]⟩:LL) (k:Int)=some (nbr 103 k)/\m49 FF (⟨#[119]⟩:LL) (k:Int)=some (nbr 119 k)/\m49 FF (⟨#[115]⟩:LL) (k:Int)=some (nbr 115 k):=by
 have h1:=F4.1 m49_tab k (F6.2 h);rw [F0,F0,decide_eq_true_iff,decide_eq_true_iff,decide_eq_true_iff] at h1;exact ⟨h1.1.1,h1.1.2,h1.2⟩
theorem abc_tab:((List.range 6).all λa=>decide (((ssl (⟨#[97,98,99,100,101,102]⟩:LL) (a:Int) (wr ((a:Int) + 1))).bind λx=>cat x (⟨#[112]⟩:LL))=some (nmS (.pl a true))) && decide (((ssl (⟨#[97,98,99,100,101,102]⟩:LL) (a:Int) (wr ((a:Int) + 1))).bind λx=>cat x (⟨#[109]⟩:LL))=some (nmS (.pl a false))))=true:=by kernel_rfl
theorem EH {a:Nat} (h:a < 6) (o:Bool):∃ x,ssl (⟨#[97,98,99,100,101,102]⟩:LL) (a:Int) (wr ((a:Int) + 1))=some x/\(bif o then cat x (⟨#[112]⟩:LL) else cat x (⟨#[109]⟩:LL))=some (nmS (.pl a o)):=by
 have h1:=F4.1 abc_tab a (F6.2 h);rw [F0,decide_eq_true_iff,decide_eq_true_iff] at h1;obtain ⟨x,hx,h2⟩:=HN.1 h1.1;obtain ⟨x',hx',h3⟩:=HN.1 h1.2;rw [hx] at hx';obtain rfl:=Option.some.inj hx';exact ⟨x,hx,by cases o <;> assumption⟩
structure Sq4 (s:Ai):Prop where
 q:Sqc s
 n:n s<=64
 st:∀ k,k < Csc.n s->Stk (stp s k)
theorem Sq4.A6 (h:Sq4 s):A s<=6:=by have:=h.q.a6;unfold A;omega
theorem Sq4.Ac (h:Sq4 s):s.Actuators=((A s:Nat):Int):=by have:=h.q.a0;unfold A;omega
theorem Sq4.G64 (h:Sq4 s):G s<=Csc.n s:=by
 have h0:=h.q.n0;have:∀ k,g s k<=k:=by
  intro k
  induction k with
  | zero=>exact GB _
  | succ k ih=>rcases Xn (s:=s) k with e | e <;> omega
 rw [FP];have:=this (Csc.n s - 1);omega
theorem Mw {k:Nat}:cts s k<=k:=by
 unfold cts;have:=J9 (W s) (List.range k);rw [G9] at this;exact this
theorem cts_s (k:Nat):cts s (k + 1)=cts s k + (if W s k=true then 1 else 0):=by
 unfold cts;rw [HK,JT,FR];cases h:W s k <;> simp [h]
theorem DJ (h:Sq4 s) {i k:Nat} (hi:i < Csc.n s) (hk:k < Csc.n s):m74 FF s (i:Int) (k:Int)=some (rep s i k):=by
 have hA:=h.A6;have hh:=Gz (L:=Nz FF s (i:Int) (k:Int)) (N:=A s) (Q:=λa=>((stp s i).Strokes.any λy=>y.Actuator == (a:Int)) && ((stp s k).Strokes.any λy=>y.Actuator == (a:Int))) (r:=λ_=>true) (λm a ha=>by
  obtain ⟨w,hw,hw2⟩:=Qy (v:=(a:Int)) (h.st i hi);obtain ⟨w',hw',hw2'⟩:=Qy (v:=(a:Int)) (h.st k hk);rw [Nz,show decide ((a:Int) < s.Actuators)=true from dt_ (by rw [h.Ac];omega),ct_,Am,Cz hi,ob_,hw,ob_,hw2,Aq om_];cases (stp s i).Strokes.any λy=>y.Actuator == (a:Int) with
  | false=>rfl
  | true=>
   rw [ct_,Am,Cz hk,ob_,hw',ob_,hw2'];rfl) (λm=>by
  rw [Nz,show decide (((A s:Nat):Int) < s.Actuators)=false from df_ (by rw [h.Ac];omega),cf_]) FF 0 om_ uF
 rw [n0] at hh;unfold m74;rcases hh with ⟨a,_,ha,hq,hh⟩ | ⟨hh,hq⟩
 ·rw [hh,ob_];dsimp only;rw [F0,F8,F8] at hq;obtain ⟨⟨y,hy,hy2⟩,z,hz,hz2⟩:=hq;have e1:y.Actuator=(a:Int):=by simpa using hy2
  have e2:z.Actuator=(a:Int):=by simpa using hz2
  rw [EU (s:=s) (i:=i) (k:=k) (a:=a) (o:=y.Out) (o':=z.Out) (GE.2 ⟨y,hy,by rw [e1];rfl⟩) (GE.2 ⟨z,hz,by rw [e2];rfl⟩)]
 ·rw [hh,ob_];dsimp only;have:rep s i k=false:=by
   unfold rep;rw [GR];rintro ⟨a,o⟩ hx hc;rw [F8] at hc;obtain ⟨⟨a',o'⟩,hx',he⟩:=hc;obtain rfl:a=a':=by simpa using he
   obtain ⟨y,hy,hy2⟩:=GE.1 hx;obtain ⟨z,hz,hz2⟩:=GE.1 hx';have a1:=h.q.ac i hi y hy;have a2:=h.q.ac k hk z hz;have b1:=(Prod.mk.inj hy2).1;have b2:=(Prod.mk.inj hz2).1;have hac:=h.Ac;have:=hq a (G3 _) om_;rw [JC,GR,GR] at this;rcases this with h3 | h3
   ·exact h3 y hy (by rw [beq_iff_eq];omega)
   ·exact h3 z hz (by rw [beq_iff_eq];omega)
  rw [this]
theorem Lh (h:Sq4 s) {k:Nat} (hk:k < Csc.n s) {l:LG} (hl:l.length<=1000) (z2:Int×LG) (hz:z2.1=(k:Int)):∀ (m i:Nat),i<=k->k - i < m->∃ z,Tf FF s z2 m ((i:Int),l)=some (z,if ((List.range k).any λj=>decide (i<=j) && rep s j k)=true then l ++ [(k:Int)] else l)
 | 0,i,_,h=>by omega
 | m + 1,i,h1,h2=>by
  have hn:=h.n;rw [Tf];dsimp only;rw [hz];by_cases hi:i < k
  ·rw [Ao,dt_ hi,ct_,DJ h om_ hk,ob_];cases hr:rep s i k with
   | true=>
    rw [ct_,Av so_,ob_];have:((List.range k).any λj=>decide (i<=j) && rep s j k)=true:=F8.2 ⟨i,F6.2 hi,by rw [hr];simp⟩;rw [if_pos this];exact ⟨_,rfl⟩
   | false=>
    rw [cf_,Aq om_];obtain ⟨z,hz'⟩:=Lh h hk hl z2 hz m (i + 1) om_ om_;have e:((List.range k).any λj=>decide (i<=j) && rep s j k)=((List.range k).any λj=>decide (i + 1<=j) && rep s j k):=by
     rw [GU,F8,F8];constructor
     ·rintro ⟨j,hj,hp⟩;rw [F0,decide_eq_true_iff] at hp;refine ⟨j,hj,?_⟩;rw [F0,decide_eq_true_iff];have:j≠i:=λe=>by subst e;rw [hr] at hp;cases hp.2
      exact ⟨by omega,hp.2⟩
     ·rintro ⟨j,hj,hp⟩;rw [F0,decide_eq_true_iff] at hp;refine ⟨j,hj,?_⟩;rw [F0,decide_eq_true_iff];exact ⟨by omega,hp.2⟩
    rw [e];exact ⟨z,hz'⟩
  ·rw [Ao,df_ hi,cf_];have:((List.range k).any λj=>decide (i<=j) && rep s j k)=false:=by
    rw [GR];intro j hj;have:=F6.1 hj;rw [df_ om_];simp
   rw [this,if_neg (by decide)];exact ⟨_,rfl⟩
def cin (l:LJ):LG:=l.map λx=>((x:Nat):Int)
theorem Gr {l:LJ} {i:Nat}:(cin l)[i]?=(l[i]?).map λx=>((x:Nat):Int):=F9 ..
theorem Di (h:Sq4 s):m43 FF s=some (cin (dv s)):=by
 have hn:=h.n;have h0:=h.q.n0;unfold m43;have key:∀ (m k:Nat),1<=k->k<=Csc.n s->Csc.n s - k < m->Tg FF s m ((k:Int),cin (dl s (k - 1)))=some ((Csc.n s:Int),cin (dv s)):=by
  intro m
  induction m with
  | zero=>intro k _ _ h;omega
  | succ m ih=>
   intro k h1 h2 h3;rw [Tg];dsimp only;have hlen:(cin (dl s (k - 1))).length=g s (k - 1) + 1:=by unfold cin;rw [GC,Xx]
   have hgle:g s (k - 1)<=k - 1:=by
    have:∀ k,g s k<=k:=by
     intro k
     induction k with
     | zero=>exact GB _
     | succ k ih=>rcases Xn (s:=s) k with e | e <;> omega
    exact this _
   by_cases hk:k < Csc.n s
   ·have hlast:idx (cin (dl s (k - 1))) (wr (((cin (dl s (k - 1))).length:Int) - 1))=some (((gb s (k - 1)).1:Nat):Int):=by
     rw [hlen,Ar om_ om_,show ((g s (k - 1) + 1:Nat):Int) - 1=((g s (k - 1):Nat):Int) by omega,Am,Gr,Rs];rfl
    have hble:=D4 (s:=s) (k - 1);obtain ⟨z,hz⟩:=Lh h hk (l:=cin (dl s (k - 1))) om_ ((k:Int),cin (dl s (k - 1))) rfl FF (gb s (k - 1)).1 om_ uF;rw [show decide ((k:Int) < (s.Steps.length:Int))=true from dt_ (by unfold Csc.n at hk;omega),ct_,hlast,ob_,hz,ob_,Aq om_];have:=ih (k + 1) om_ om_ om_;rw [← this];congr 2;obtain ⟨k,rfl⟩:∃ k',k=k' + 1:=⟨k - 1,by omega⟩;rw [HH,HH,dl_s];show (if brk s (gb s k).1 (k + 1)=true then _ else _)=_
    split
    ·unfold cin;rw [HD];rfl
    ·rfl
   ·obtain rfl:k=Csc.n s:=by omega
    rw [show decide (((Csc.n s:Nat):Int) < (s.Steps.length:Int))=false from df_ (by unfold Csc.n;omega),cf_];rfl
 have:=key FF 1 (GB _) om_ uF;rw [show ((1:Int),([(0:Int)]:LG))=(((1:Nat):Int),cin (dl s (1 - 1))) from rfl,this];rfl
end Go.Pn
namespace Go.Pn
open Go
open Csc
variable {s:Ai}
theorem L_eq {x:Sg}:(dat s).L x=2 * A s + 1 + no s x:=rfl
theorem Kb (h:Sq4 s):m76 FF s=some ((2 * A s + 1:Nat):Int):=by
 have hA:=h.A6;unfold m76;rw [h.Ac,Ar (x:=2 * ((A s:Nat):Int)) om_ om_,Ar om_ om_];congr 1
theorem Bn {n:Nat}:m81 FF (n:Int)=some (lnx n):=rfl
theorem Df {op:Int}:∀ {l:LJ},m80 FF op (l.map lnx)=some (Ec op l)
 | []=>rfl
 | [n]=>rfl
 | a :: b :: t=>by
  unfold m80;rw [show ((((a :: b :: t).map lnx).length:Int) == 1)=false by rw [beq_eq_false_iff_ne];simp;omega,cf_];rfl
theorem cin_len {l:LJ}:(cin l).length=l.length:=GC ..
theorem Dy:(cin (dv s)).length=G s:=cin_len
def lnz (s:Ai):LJ:=(List.range (G s)).map λj=>(dat s).L (.gl j)
theorem Mo {j:Nat} (hj:j < G s):(cin (lnz s))[j]?=some (((dat s).L (.gl j):Nat):Int):=by
 rw [Gr];unfold lnz;rw [F9,GN hj];rfl
theorem Qq (h:Sq4 s):m77 FF s=some (cin (lnz s)):=by
 have hA:=h.A6;have hG:=h.G64;have hn:=h.n;unfold m77;rw [Di h,ob_,Dy];by_cases h2:G s=2
 ·rw [show ((G s:Int) == 2)=true by rw [beq_iff_eq];omega,ct_,Kb h,ob_,ob_,Aq om_];unfold lnz cin;rw [h2];show some [((2 * A s + 1 + 1:Nat):Int),((2 * A s + 1:Nat):Int)]=some [(((dat s).L (.gl 0):Nat):Int),(((dat s).L (.gl 1):Nat):Int)];rw [L_eq,L_eq];show _=some [((2 * A s + 1 + (if G s=2 then 1 - 0 else 0):Nat):Int),((2 * A s + 1 + (if G s=2 then 1 - 1 else 1):Nat):Int)]
  rw [h2];rfl
 ·rw [show ((G s:Int) == 2)=false by rw [beq_eq_false_iff_ne];omega,cf_];have:=CT (L:=Js FF s (cin (dv s))) (N:=G s) (f:=λj=>[(((dat s).L (.gl j):Nat):Int)]) (acc0:=[]) om_ (λ_ _=>by simp) smp_ (λm i acc hi ha=>by
   rw [Js];dsimp only;rw [Dy,Ao,dt_ hi,ct_,Kb h,ob_,Av so_,ob_,Aq om_,Ar om_ om_];congr 4;rw [L_eq];show _=((2 * A s + 1 + (if G s=2 then 1 - i else i):Nat):Int)
   rw [if_neg h2];omega) (λm acc=>by
   rw [Js];dsimp only;rw [Dy,Ao,df_ om_,cf_])
  rw [this,Pp];unfold lnz cin;rw [JR];rfl
theorem dv_le {i k:Nat} (hi:i < G s) (hk:k < n s):∃ b,(dv s)[i]?=some b/\(b<=k↔i<=g s k)/\(i=g s k->b=(gb s k).1)/\b < n s:=by
 have hG:=FP (s:=s);obtain ⟨b,h1,h2,h3,_,_⟩:=Ue (s:=s) (j:=i) (k:=n s - 1) om_;obtain ⟨t,ht⟩:=B8 (s:=s) (show k<=n s - 1 by omega);have key:∀ b',(dl s k)[i]?=some b'->b'=b:=λb' hb'=>by
  rw [ht,FY (FT.1 hb').1,hb'] at h1;exact Option.some.inj h1
 refine ⟨b,h1,⟨λhb=>?_,λhg=>?_⟩,λe=>?_,by omega⟩
 ·have:=Hr (s:=s) hb;omega
 ·obtain ⟨b',h4,h5,_⟩:=Ue (s:=s) (j:=i) (k:=k) hg;rw [← key b' h4];exact h5
 ·subst e;exact (key _ (Rs k)).symm
theorem g_lt (h:Sq4 s) {k:Nat} (hk:k < n s):g s k < G s:=by
 have:=Hr (s:=s) (show k<=n s - 1 by omega);rw [FP];omega
theorem Wx (h:Sq4 s) {k:Nat} (hk:k < n s):m83 FF (cin (dv s)) (k:Int)=some ((g s k:Nat):Int):=by
 have hG:=h.G64;have hn:=h.n;have hg:=g_lt h hk;unfold m83;obtain ⟨v,hv,hh⟩:=Pi (L:=Nw (cin (dv s)) (k:Int)) (mk:=λi (v:Int)=>(v,(i:Int))) (N:=G s) (I:=λi v=>v=((min (i - 1) (g s k):Nat):Int)) (λm i v hi hI=>by
  obtain ⟨b,h1,h2,_,_⟩:=dv_le hi hk;rw [Nw];dsimp only;rw [Dy,Ao,dt_ hi,ct_,Am,Gr,h1];rw [show (some b).map (λx=>((x:Nat):Int))=some (b:Int) from rfl,ob_];by_cases hb:b<=k
  ·rw [dt_ (by omega:(b:Int)<=(k:Int)),ct_,ob_,Aq om_];refine ⟨_,?_,rfl⟩;have:=h2.1 hb;rw [HH,Nat.min_eq_left this]
  ·rw [df_ (by omega:¬ (b:Int)<=(k:Int)),cf_,ob_,Aq om_];refine ⟨_,?_,rfl⟩;have:¬ i<=g s k:=λe=>hb (h2.2 e);rw [hI,HH,Nat.min_eq_right om_,Nat.min_eq_right om_]) (λm v _=>by
  rw [Nw];dsimp only;rw [Dy,Ao,df_ om_,cf_]) FF 0 0 om_ uF smp_
 try dsimp only at hh
 rw [n0] at hh;rw [hh,ob_,hv,Nat.min_eq_right om_]
theorem EJ {k:Nat}:W s k=true↔(stp s k).Wait≠0:=by unfold W;simp
def tms (s:Ai):LG:=(List.range (n s)).map λk=>if W s k=true then (((dat s).L (.tm k):Nat):Int) else -1
def pl (s:Ai):Plan:=⟨s,tms s⟩
theorem pl_S {s:Ai}:(pl s).S=s:=rfl
theorem pl_T {s:Ai}:(pl s).Timers=tms s:=rfl
theorem Qf {k:Nat} (hk:k < n s):(tms s)[k]?=some (if W s k=true then (((dat s).L (.tm k):Nat):Int) else -1):=by
 unfold tms;rw [F9,GN hk];rfl
theorem Zm:(tms s).length=n s:=by unfold tms;rw [GC,G9]
theorem DH (h:Sq4 s):m75 FF s ((2 * A s + 1 + G s:Nat):Int)=some (pl s):=by
 have hG:=h.G64;have hn:=h.n;have hA:=h.A6;unfold m75;obtain ⟨v,hv,hh⟩:=Pi (L:=Kz s) (mk:=λi (v:Int×LG)=>(v.1,(i:Int),v.2)) (N:=n s) (I:=λi v=>v=(((2 * A s + 1 + G s + cts s i:Nat):Int),(List.range i).map λk=>if W s k=true then (((dat s).L (.tm k):Nat):Int) else -1)) (λm i v hi hI=>by
  subst hI;have hc:=Mw (s:=s) (k:=i);have hcs:=cts_s (s:=s) i;rw [Kz];dsimp only;rw [show decide ((i:Int) < (s.Steps.length:Int))=true from dt_ (by unfold n at hi;omega),ct_,Am,Cz hi,ob_];by_cases hw:W s i=true
  ·have:=EJ.1 hw;rw [show ((stp s i).Wait == 0)=false by rw [beq_eq_false_iff_ne];exact this,cf_,Av so_,ob_,Aq om_,Aq om_];refine ⟨(((2 * A s + 1 + G s + cts s i + 1:Nat):Int),(List.range i).map (λk=>if W s k=true then (((dat s).L (.tm k):Nat):Int) else -1) ++ [((2 * A s + 1 + G s + cts s i:Nat):Int)]),?_,rfl⟩
   rw [HK,HD,hcs];simp only [GD,G1,if_pos hw];have e:(dat s).L (.tm i)=2 * A s + 1 + G s + cts s i:=by show 2 * A s + 1 + (G s + cts s i)=_;omega
   rw [e];rfl
  ·have:(stp s i).Wait=0:=by
    rcases Int.lt_trichotomy (stp s i).Wait 0 with e | e | e
    ·exact absurd (EJ.2 om_) hw
    ·exact e
    ·exact absurd (EJ.2 om_) hw
   rw [show ((stp s i).Wait == 0)=true by rw [beq_iff_eq];exact this,ct_,Av so_,ob_,Aq om_];refine ⟨(((2 * A s + 1 + G s + cts s i:Nat):Int),(List.range i).map (λk=>if W s k=true then (((dat s).L (.tm k):Nat):Int) else -1) ++ [-1]),?_,rfl⟩
   rw [HK,HD,hcs];simp only [GD,G1,if_neg hw];rfl) (λm v hI=>by
  rw [Kz];dsimp only;rw [show decide (((n s:Nat):Int) < (s.Steps.length:Int))=false from df_ (by unfold n;omega),cf_]) FF 0 (((2 * A s + 1 + G s:Nat):Int),[]) om_ uF rfl
 try dsimp only at hh
 rw [n0] at hh;rw [hh,ob_];subst hv;rfl
theorem Qw (h:Sq4 s):m44 FF s=some (pl s):=by
 have hG:=h.G64;have hn:=h.n;have hA:=h.A6;unfold m44;rw [Kb h,ob_,Di h,ob_,Dy,Ar om_ om_];have:=DH h;rw [show ((2 * A s + 1:Nat):Int) + (G s:Int)=((2 * A s + 1 + G s:Nat):Int) by omega,this];rfl
theorem map_rg {α β:Type} {l:List α} {d:α} {f:α->β}:((List.range l.length).map λi=>f (l.getD i d))=l.map f:=by
 refine List.ext_getElem smp_ λi h1 h2=>?_;rw [KZ,KZ,List.getElem_range,FU,gE_ (by simpa using h2)];rfl
theorem Wy (h:Sq4 s) {k:Nat} (hk:k < n s):m82 FF (stp s k)=some (((S s k).map CasD.sw).map lnx):=by
 have h6:=(h.st k hk).le;unfold m82;have:=CT (L:=Ny FF (stp s k)) (N:=(stp s k).Strokes.length) (f:=λi=>[lnx (CasD.sw (((stp s k).Strokes.getD i default).Actuator.toNat,((stp s k).Strokes.getD i default).Out))]) (acc0:=[]) om_ (λ_ _=>by simp) smp_ (λm i acc hi ha=>by
  have hx:=gE_ hi;have hac:=(h.st k hk).ac _ (GA hi);have hd:(stp s k).Strokes.getD i default=(stp s k).Strokes[i]:=by rw [FU,hx];rfl
  rw [Ny];dsimp only;rw [Ao,dt_ hi,ct_,Am,hx,ob_,ob_,Aq om_,hd];rw [Ar (x:=2 * (stp s k).Strokes[i].Actuator) om_ om_];cases ho:(stp s k).Strokes[i].Out with
  | true=>
   rw [ct_,Ar om_ om_,ob_,show 2 * (stp s k).Strokes[i].Actuator + 1=((CasD.sw ((stp s k).Strokes[i].Actuator.toNat,true):Nat):Int) by unfold CasD.sw;show _=((2 * (stp s k).Strokes[i].Actuator.toNat + 1:Nat):Int);omega,Bn,ob_,Av so_,ob_]
  | false=>
   rw [cf_,ob_,show 2 * (stp s k).Strokes[i].Actuator=((CasD.sw ((stp s k).Strokes[i].Actuator.toNat,false):Nat):Int) by unfold CasD.sw;show _=((2 * (stp s k).Strokes[i].Actuator.toNat + 0:Nat):Int);omega,Bn,ob_,Av so_,ob_]) (λm acc=>by
  rw [Ny];dsimp only;rw [Ao,df_ om_,cf_])
 rw [this,Pp,ob_];unfold S;rw [JR,JR,JM];exact congrArg some (map_rg (l:=(stp s k).Strokes) (d:=default) (f:=λy=>lnx (CasD.sw (y.Actuator.toNat,y.Out))))
theorem Ka (h:Sq4 s) {k:Nat} (hk:k < n s):m78 FF (pl s) (k:Int)=some (((dat s).en k).map lnx):=by
 unfold m78;show (idx (tms s) (k:Int)).bind _=_;rw [Am,Qf hk,ob_];unfold CasD.en;by_cases hw:W s k=true
 ·rw [if_pos hw,if_pos (show (dat s).W k=true from hw),dt_ om_,ct_];show (idx (tms s) (k:Int)).bind _=_;rw [Am,Qf hk,if_pos hw,ob_,Bn];rfl
 ·rw [if_neg hw,if_neg (show ¬ (dat s).W k=true from hw),df_ om_,cf_];show (idx s.Steps (k:Int)).bind _=_;rw [Am,Cz hk,ob_,Wy h hk];rfl
theorem Qp (h:Sq4 s) {j:Nat} (hj:j < G s):m79 FF s (cin (dv s)) (j:Int)=some ((las s j:Nat):Int):=by
 have hG:=h.G64;have hn:=h.n;have h0:=h.q.n0;have hGe:=FP (s:=s);unfold m79 las;rw [Aq om_,Dy,Ao];by_cases h1:j + 1 < G s
 ·rw [dt_ h1,ct_,if_pos h1,Am,Gr];obtain ⟨b,h2,h3,h4,_,_⟩:=Ue (s:=s) (j:=j + 1) (k:=n s - 1) om_;have h5:(dv s)[j + 1]?=some b:=h2;have hb:0 < b:=by
   rcases JV b with e | e
   ·subst e;have:g s 0=0:=rfl;omega
   ·exact e
  rw [h5,FU,h5];show some (wr ((b:Int) - 1))=some ((b - 1:Nat):Int);rw [Ar om_ om_];congr 1;omega
 ·rw [df_ h1,cf_,if_neg h1];show some (wr (((n s:Nat):Int) - 1))=_;rw [Ar om_ om_];congr 1;omega
theorem Zy {a b:Nat} (h:0 < b):rem (a:Int) (b:Int)=some ((a % b:Nat):Int):=by
 unfold rem;rw [if_neg om_,Int.tmod_eq_emod_of_nonneg om_];congr 1
theorem Fu (h:Sq4 s) {j:Nat} (hj:j < G s):las s j < n s:=(la_ok h.q.n0 hj).1
theorem DR (h:Sq4 s):m46 FF (pl s)=some (sgG nmS s):=by
 have hG:=h.G64;have hn:=h.n;have h0:=h.q.n0;have h2:=h.q.g2;unfold m46;show (m43 FF s).bind _=_;rw [Di h,ob_];show (m77 FF s).bind _=_;rw [Qq h,ob_,Dy];unfold sgG;by_cases e:G s=2
 ·rw [show ((G s:Int) == 2)=true by rw [beq_iff_eq];omega,ct_,if_pos e];have a0:=Qp h (j:=0) om_;have a1:=Qp h (j:=1) om_;have b0:=Ka h (Fu h (j:=0) om_);have b1:=Ka h (Fu h (j:=1) om_);have l1:=Mo (s:=s) (j:=1) om_;rw [← Am] at l1;show (m79 FF s (cin (dv s)) ((0:Nat):Int)).bind _=_;rw [a0,ob_,b0,ob_];show (m79 FF s (cin (dv s)) ((1:Nat):Int)).bind _=_;rw [a1,ob_,b1,ob_,Df,ob_,Df,ob_];show (idx (cin (lnz s)) ((1:Nat):Int)).bind _=_;rw [l1,ob_,Bn];rfl
 ·rw [show ((G s:Int) == 2)=false by rw [beq_eq_false_iff_ne];omega,cf_,if_neg e];have:=CT (L:=Og FF (pl s) (cin (dv s)) (cin (lnz s))) (N:=G s) (f:=λj=>[(⟨nmS (.gl j),1,Ec 3 ((dat s).L (.gl ((dat s).pv j)) :: (dat s).en (las s ((dat s).pv j))),lnx ((dat s).L (.gl ((dat s).nx j))),0,decide (j=0)⟩:Ae)]) (acc0:=[]) om_ (λ_ _=>by simp) smp_ (λm i acc hi ha=>by
   have hp:(dat s).pv i < G s:=CasD.pvl (q:=dat s) h2 hi;have hx:(dat s).nx i < G s:=CasD.nxl (q:=dat s) h2;have ep:(i + G s - 1) % G s=(dat s).pv i:=by
    show _=if i=0 then G s - 1 else i - 1
    by_cases e0:i=0
    ·subst e0;rw [if_pos rfl,HV,KF om_]
    ·rw [if_neg e0,show i + G s - 1=(i - 1) + G s by omega,Nat.add_mod_right,KF om_]
   have ex:(i + 1) % G s=(dat s).nx i:=by
    show _=if i + 1 < G s then i + 1 else 0
    by_cases e0:i + 1 < G s
    ·rw [if_pos e0,KF e0]
    ·rw [if_neg e0,show i + 1=G s by omega,Nat.mod_self]
   rw [Og];dsimp only;rw [Dy,Ao,dt_ hi,ct_,Ar (x:=(i:Int) + (G s:Int)) om_ om_,Ar om_ om_,show (i:Int) + (G s:Int) - 1=((i + G s - 1:Nat):Int) by omega,Zy om_,ep,ob_,Am,Mo hp,ob_,Bn,ob_];show (m79 FF s (cin (dv s)) (((dat s).pv i:Nat):Int)).bind _=_;rw [Qp h hp,ob_,Ka h (Fu h hp),ob_,Av (by
    have:((dat s).en (las s ((dat s).pv i))).length<=6:=by
     unfold CasD.en;split
     ·simp
     ·rw [GC];show ((stp s (las s ((dat s).pv i))).Strokes.map _).length<=6;rw [GC];exact (h.st _ (Fu h hp)).le
    simp;omega),ob_,(Qu (k:=i) om_).1,ob_,show [lnx ((dat s).L (.gl ((dat s).pv i)))] ++ ((dat s).en (las s ((dat s).pv i))).map lnx=(((dat s).L (.gl ((dat s).pv i))) :: (dat s).en (las s ((dat s).pv i))).map lnx from rfl,Df,ob_,Aq om_,Zy om_,ex,ob_,Am,Mo hx,ob_,Bn,ob_,Av so_,ob_,show ((i:Int) == 0)=decide (i=0) by rw [GU];simp]
   rfl) (λm acc=>by
   rw [Og];dsimp only;rw [Dy,Ao,df_ om_,cf_])
  rw [this,Pp];rfl
end Go.Pn
namespace Go.Pn
open Go
open Csc
variable {s:Ai}
def bls (s:Ai):LJ:=(List.range (n s)).map λk=>(dat s).L (.gl (g s k))
def sts (s:Ai):LJ:=(List.range (n s)).map λk=>(dat s).L (.sg k)
theorem bls_get {k:Nat} (hk:k < n s):(cin (bls s))[k]?=some (((dat s).L (.gl (g s k)):Nat):Int):=by
 rw [Gr];unfold bls;rw [F9,GN hk];rfl
theorem sts_get {k:Nat} (hk:k < n s):(cin (sts s))[k]?=some (((dat s).L (.sg k):Nat):Int):=by
 rw [Gr];unfold sts;rw [F9,GN hk];rfl
theorem tstep {k:Nat} (hk:k < n s):decide ((k:Int) < ((tms s).length:Int))=true:=dt_ (by rw [Zm];omega)
theorem tstop:decide (((n s:Nat):Int) < ((tms s).length:Int))=false:=df_ (by rw [Zm];omega)
theorem D9 {k:Nat} (hk:k < n s):decide ((k:Int) < (s.Steps.length:Int))=true:=dt_ (by unfold n at hk;omega)
theorem D8:decide (((n s:Nat):Int) < (s.Steps.length:Int))=false:=df_ (by unfold n;omega)
theorem DP (h:Sq4 s):m48 FF s=some (cin (bls s)):=by
 have hn:=h.n;unfold m48;have:=CT (L:=Oe FF s) (N:=n s) (f:=λk=>[(((dat s).L (.gl (g s k)):Nat):Int)]) (acc0:=[]) om_ (λ_ _=>by simp) smp_ (λm i acc hi ha=>by
  rw [Oe];dsimp only;rw [D9 hi,ct_,Qq h,ob_,Di h,ob_,Wx h hi,ob_,Am,Mo (g_lt h hi),ob_,Av so_,ob_,Aq om_]) (λm acc=>by
  rw [Oe];dsimp only;rw [D8,cf_])
 rw [this,Pp];unfold bls cin;rw [JR];rfl
theorem CM (h:Sq4 s) {k:Nat} (hk:k < n s):((S s k).map CasD.sw).length<=6:=by
 rw [GC];show ((stp s k).Strokes.map _).length<=6;rw [GC];exact (h.st k hk).le
theorem FA (h:Sq4 s) {k:Nat} (hk:k < n s):((dat s).en k).length<=6:=by
 unfold CasD.en;split
 ·simp
 ·exact CM h hk
theorem DQ (h:Sq4 s):m47 FF (pl s) (cin (bls s))=some (((List.range (n s)).filter (W s)).map (sT nmS s)):=by
 have hn:=h.n;unfold m47;have:=CT (L:=Of FF (pl s) (cin (bls s))) (N:=n s) (f:=λk=>if W s k=true then [sT nmS s k] else []) (acc0:=[]) om_ (λi _=>by split <;> simp) smp_ (λm i acc hi ha=>by
  have hS:=CM h hi;rw [Of];dsimp only;rw [show decide ((i:Int) < ((pl s).Timers.length:Int))=true from tstep hi,ct_];simp only [pl_S,pl_T];rw [Am,Qf hi,ob_];by_cases hw:W s i=true
  ·rw [if_pos hw,if_pos hw,dt_ om_,ct_,Am,bls_get hi,ob_,Bn,ob_];rw [Am,Cz hi,ob_,Wy h hi,ob_,Av (by simp at hS ⊢;omega),ob_,(Qu (k:=i) om_).2.1,ob_,show [lnx ((dat s).L (.gl (g s i)))] ++ ((S s i).map CasD.sw).map lnx=((dat s).L (.gl (g s i)) :: (S s i).map CasD.sw).map lnx from rfl,Df,ob_,ob_,Av so_,ob_,ob_,Aq om_];rfl
  ·rw [if_neg hw,if_neg hw,df_ om_,cf_,ob_,Aq om_,G2]) (λm acc=>by
  rw [Of];dsimp only;rw [show decide (((n s:Nat):Int) < ((pl s).Timers.length:Int))=false from tstop,cf_])
 rw [this,fm_if];rfl
theorem Xm {k:Nat} (hk:0 < k):(gb s k).1=k↔g s (k - 1)≠g s k:=by
 obtain ⟨k,rfl⟩:∃ k',k=k' + 1:=⟨k - 1,by omega⟩;have hb:=D4 (s:=s) k;rw [HH,gb_s,g_s];by_cases h:brk s (gb s k).1 (k + 1)=true
 ·rw [if_pos h,if_pos h];exact ⟨λ_=>by omega,λ_=>rfl⟩
 ·rw [if_neg h,if_neg h];exact ⟨λe=>by omega,λe=>absurd rfl e⟩
theorem AQ (h:Sq4 s) {k:Nat} (hk:k < n s):m50 FF (pl s) (k:Int)=some (Ec 3 ((dat s).L (.gl (g s k)) :: (dat s).bg k)):=by
 have hn:=h.n;have hA:=h.A6;have hg:=g_lt h hk;unfold m50;show (m43 FF s).bind _=_;rw [Di h,ob_];show (m77 FF s).bind _=_;rw [Qq h,ob_,Wx h hk,ob_,Am,Mo hg,ob_,Bn,ob_];unfold CasD.bg;by_cases h0:k=0
 ·subst h0;rw [show (((0:Nat):Int) == 0)=true from rfl,ct_,if_pos rfl];show (m81 FF (wr (2 * s.Actuators))).bind _=_;rw [h.Ac,Ar om_ om_,show 2 * ((A s:Nat):Int)=((2 * A s:Nat):Int) by omega,Bn,ob_];show (m80 FF 3 ([(dat s).L (.gl (g s 0)),2 * A s].map lnx)).bind _=_;rw [Df];rfl
 ·rw [show ((k:Int) == 0)=false by rw [beq_eq_false_iff_ne];omega,cf_,if_neg h0];obtain ⟨b,h1,_,h3,_⟩:=dv_le (s:=s) hg hk;have h4:=h3 rfl;rw [ob_,Am,Gr,h1,h4];show (bif ((((gb s k).1:Nat):Int) == (k:Int)) then _ else _)=_;by_cases hf:g s (k - 1)=g s k
  ·have hne:(gb s k).1≠k:=λe=>(Xm om_).1 e hf;rw [show ((((gb s k).1:Nat):Int) == (k:Int))=false by rw [Ye,beq_eq_false_iff_ne];exact hne,cf_,if_pos (show (dat s).g (k - 1)=(dat s).g k from hf),Ar om_ om_,show (k:Int) - 1=((k - 1:Nat):Int) by omega,Ka h om_,ob_,Av (by
    have:=FA h (show k - 1 < n s by omega);simp;omega),ob_]
   show (m80 FF 3 (((dat s).L (.gl (g s k)) :: (dat s).en (k - 1)).map lnx)).bind _=_;rw [Df];rfl
  ·have he:(gb s k).1=k:=(Xm om_).2 hf;rw [show ((((gb s k).1:Nat):Int) == (k:Int))=true by rw [Ye,beq_iff_eq];exact he,ct_,if_neg (show ¬ (dat s).g (k - 1)=(dat s).g k from hf)];rfl
theorem Vg (h:Sq4 s) {acc:List Ae} (ha:acc.length<=1000):Lm FF s (pl s) FF ((0:Int),acc)=some ((n s:Int),acc ++ (List.range (n s)).map (sS nmS s)):=by
 have hn:=h.n;have:=CT (L:=Lm FF s (pl s)) (N:=n s) (f:=λk=>[sS nmS s k]) (acc0:=acc) om_ (λ_ _=>by simp) om_ (λm i acc hi ha=>by
  rw [Lm];dsimp only;rw [D9 hi,ct_,(Qu (k:=i) om_).2.2,ob_,AQ h hi,ob_,Av so_,ob_,Aq om_];rfl) (λm acc=>by
  rw [Lm];dsimp only;rw [D8,cf_])
 rw [this,Pp]
theorem Xb (h:Sq4 s):m45 FF (pl s)=some ((cts s (n s):Nat):Int):=by
 have hn:=h.n;unfold m45;obtain ⟨v,hv,hh⟩:=Pi (L:=Oh (pl s)) (mk:=λi (v:Int)=>(v,(i:Int))) (N:=n s) (I:=λi v=>v=((cts s i:Nat):Int)) (λm i v hi hI=>by
  subst hI;have hc:=Mw (s:=s) (k:=i);rw [Oh];dsimp only;refine ⟨_,rfl,?_⟩;rw [show decide ((i:Int) < ((pl s).Timers.length:Int))=true from tstep hi,ct_];simp only [pl_S,pl_T];rw [Am,Qf hi,ob_,cts_s];by_cases hw:W s i=true
  ·rw [if_pos hw,if_pos hw,dt_ om_,ct_,Aq om_,ob_,Aq om_]
  ·rw [if_neg hw,if_neg hw,df_ om_,cf_,ob_,Aq om_];rfl) (λm v _=>by
  rw [Oh];dsimp only;rw [show decide (((n s:Nat):Int) < ((pl s).Timers.length:Int))=false from tstop,cf_]) FF 0 0 om_ uF rfl
 try dsimp only at hh
 rw [n0] at hh;rw [hh,hv];rfl
theorem AP (h:Sq4 s):m52 FF s=some (cin (sts s)):=by
 have hn:=h.n;have hG:=h.G64;have hA:=h.A6;have hc:=Mw (s:=s) (k:=n s);unfold m52;rw [Qw h,ob_];have:=CT (L:=Oa FF s (pl s)) (N:=n s) (f:=λk=>[(((dat s).L (.sg k):Nat):Int)]) (acc0:=[]) om_ (λ_ _=>by simp) smp_ (λm i acc hi ha=>by
  rw [Oa];dsimp only;rw [D9 hi,ct_,Kb h,ob_,Di h,ob_,Xb h,ob_,Dy,Ar (x:=((2 * A s + 1:Nat):Int) + (G s:Int)) om_ om_,Ar (x:=((2 * A s + 1:Nat):Int) + (G s:Int) + (cts s (n s):Int)) om_ om_,Ar om_ om_,Av so_,ob_,Aq om_];congr 4;rw [L_eq];show _=((2 * A s + 1 + (G s + cts s (n s) + i):Nat):Int);omega) (λm acc=>by
  rw [Oa];dsimp only;rw [D8,cf_])
 rw [this,Pp];unfold sts cin;rw [JR];rfl
theorem B0 {α:Type} {e:α} {p:Nat->Bool}:∀ {N:Nat},(∀ i j,i < N->j < N->p i=true->p j=true->i=j)->((List.range N).flatMap λi=>if p i=true then [e] else [])=if ((List.range N).any p)=true then [e] else []
 | 0,_=>rfl
 | N + 1,h=>by
  rw [HK,JA,B0 λi j hi hj=>h i j om_ om_,List.any_append];cases hN:p N with
  | true=>
   have:(List.range N).any p=false:=by
    rw [GR];intro i hi hp;have:=h i N (by have:=F6.1 hi;omega) om_ hp hN;have:=F6.1 hi;omega
   rw [this];simp [hN]
  | false=>simp [hN]
theorem Uz (h:Sq4 s) {a k:Nat} {o:Bool} (hk:k < n s) (z1:Int×List Ae) (hz1:z1.1=(a:Int)) (z7:Int×List Expr) (hz7:z7.1=(k:Int)) {acc:List Expr} (ha:acc.length<=10000) :
  Le FF (pl s) (cin (sts s)) z1 o z7 FF ((0:Int),acc)=some (((stp s k).Strokes.length:Int),acc ++ if decide ((a,o)∈S s k)=true then [lnx ((dat s).L (.sg k))] else []):=by
 have hS:=h.st k hk;have h6:=hS.le;have:=CT (L:=Le FF (pl s) (cin (sts s)) z1 o z7) (N:=(stp s k).Strokes.length) (f:=λi=>if (((stp s k).Strokes.getD i default).Actuator == (a:Int) && (((stp s k).Strokes.getD i default).Out == o))=true then [lnx ((dat s).L (.sg k))] else []) (acc0:=acc) om_ (λi _=>by split <;> simp) om_ (λm i acc hi ha=>by
  have hx:=gE_ hi;have hd:(stp s k).Strokes.getD i default=(stp s k).Strokes[i]:=by rw [FU,hx];rfl
  rw [Le];dsimp only;simp only [pl_S,pl_T];rw [hz7,hz1,Am,Cz hk,ob_,Ao,dt_ hi,ct_,ob_,Am,hx,ob_,hd];unfold Jx;dsimp only;rw [JH];cases ((stp s k).Strokes[i].Actuator == (a:Int)) && ((stp s k).Strokes[i].Out == o) with
  | true=>rw [ct_,if_pos rfl,Am,sts_get hk,ob_,Bn,ob_,Av so_,ob_,ob_,Aq om_]
  | false=>rw [cf_,if_neg (by decide),ob_,Aq om_,G2]) (λm acc=>by
  rw [Le];dsimp only;simp only [pl_S,pl_T];rw [hz7,Am,Cz hk,ob_,Ao,df_ om_,cf_])
 rw [this];congr 3;have hget:∀ i,i < (stp s k).Strokes.length->(stp s k).Strokes[i]?=some ((stp s k).Strokes.getD i default):=λi hi=>by
  rw [FU,gE_ hi];rfl
 rw [B0 (λi j hi hj h1 h2=>by
  rw [F0,beq_iff_eq] at h1 h2;rcases JN i j with e | e | e
  ·have:=hS.asc e (hget i hi) (hget j hj);omega
  ·exact e
  ·have:=hS.asc e (hget j hj) (hget i hi);omega)]
 congr 1;rw [eq_iff_iff,F8,decide_eq_true_iff];constructor
 ·rintro ⟨i,hi,hp⟩;have hi:=F6.1 hi;rw [F0,beq_iff_eq,beq_iff_eq] at hp;exact GE.2 ⟨_,GF (hget i hi),by rw [hp.1,hp.2];rfl⟩
 ·intro hm;obtain ⟨y,hy,he⟩:=GE.1 hm;obtain ⟨he1,he2⟩:=Prod.mk.inj he;obtain ⟨i,hi⟩:=HE hy;have hil:=(FT.1 hi).1;have hac:=hS.ac y hy;refine ⟨i,F6.2 hil,?_⟩;have:=(hget i hil).symm.trans hi;rw [Option.some.inj this,F0,beq_iff_eq,beq_iff_eq];exact ⟨by omega,he2⟩
theorem Vb (h:Sq4 s) {a:Nat} {o:Bool} (z1:Int×List Ae) (hz1:z1.1=(a:Int)):Lf FF (pl s) (cin (sts s)) z1 o FF ((0:Int),[])=some ((n s:Int),(((dat s).at_ a o).map λk=>(dat s).L (.sg k)).map lnx):=by
 have hn:=h.n;have:=CT (L:=Lf FF (pl s) (cin (sts s)) z1 o) (N:=n s) (f:=λk=>if decide ((a,o)∈S s k)=true then [lnx ((dat s).L (.sg k))] else []) (acc0:=[]) om_ (λi _=>by split <;> simp) smp_ (λm i acc hi ha=>by
  rw [Lf];dsimp only;rw [show decide ((i:Int) < ((pl s).S.Steps.length:Int))=true from D9 hi,ct_];have hl:acc.length<=6400:=by have:=ha.2;simp at this;omega
  rw [Uz h hi z1 hz1 _ rfl om_,ob_,Aq om_]) (λm acc=>by
  rw [Lf];dsimp only;rw [show decide (((n s:Nat):Int) < ((pl s).S.Steps.length:Int))=false from D8,cf_])
 rw [this,fm_if];unfold CasD.at_;rw [JR];rfl
theorem Vc (h:Sq4 s) {a:Nat} (ha:a < A s) (z1:Int×List Ae) (hz1:z1.1=(a:Int)) {acc:List Ae} (hl:acc.length<=10000):Ef FF (pl s) (cin (sts s)) z1 FF ((0:Int),acc)=some (2,acc ++ [sP nmS s true a,sP nmS s false a]):=by
 have hA:=h.A6;have key:∀ (m:Nat) (i:Nat) (o:Bool) (acc:List Ae),i < 2->([true,false]:LH)[i]?=some o->acc.length<=20000->Ef FF (pl s) (cin (sts s)) z1 (m + 1) ((i:Int),acc)=Ef FF (pl s) (cin (sts s)) z1 m (((i + 1:Nat):Int),acc ++ [sP nmS s o a]):=λm i o acc hi ho hl=>by
  obtain ⟨x,hx,hx2⟩:=EH (show a < 6 by omega) o;rw [Ef];dsimp only;rw [show decide ((i:Int) < (([true,false]:LH).length:Int))=true from dt_ (by show (i:Int) < 2;omega),ct_,Am,ho,ob_,Vb h z1 hz1,ob_,hz1,hx,ob_];have e:(bif o then (cat x (⟨#[112]⟩:LL)).bind λx22=>some x22 else (cat x (⟨#[109]⟩:LL)).bind λx23=>some x23)=some (nmS (.pl a o)):=by
   cases o
   ·rw [cf_] at hx2 ⊢;rw [hx2];rfl
   ·rw [ct_] at hx2 ⊢;rw [hx2];rfl
  rw [e,ob_,Df,ob_,Av so_,ob_,Aq om_];rfl
 have k1:=key 99999 0 true acc om_ rfl om_;have k2:=key 99998 1 false (acc ++ [sP nmS s true a]) om_ rfl so_;show Ef FF (pl s) (cin (sts s)) z1 (99999 + 1) (((0:Nat):Int),acc)=_;rw [k1];show Ef FF (pl s) (cin (sts s)) z1 (99998 + 1) (((1:Nat):Int),acc ++ [sP nmS s true a])=_;rw [k2];show Ef FF (pl s) (cin (sts s)) z1 (99997 + 1) ((2:Int),acc ++ [sP nmS s true a] ++ [sP nmS s false a])=_;rw [Ef];dsimp only;rw [show decide ((2:Int) < (([true,false]:LH).length:Int))=false from rfl,cf_,GG];rfl
theorem DO (h:Sq4 s):m51 FF (pl s) (cin (sts s))=some ((List.range (A s)).flatMap λa=>[sP nmS s true a,sP nmS s false a]):=by
 have hA:=h.A6;unfold m51;have:=CT (L:=Ob FF (pl s) (cin (sts s))) (N:=A s) (f:=λa=>[sP nmS s true a,sP nmS s false a]) (acc0:=[]) om_ (λ_ _=>by simp) smp_ (λm i acc hi ha=>by
  have hl:acc.length<=600:=by have:=ha.2;simp at this;omega
  rw [Ob];dsimp only;rw [show decide ((i:Int) < (pl s).S.Actuators)=true from dt_ (by show (i:Int) < s.Actuators;rw [h.Ac];omega),ct_,Vc h hi _ rfl om_,ob_,Aq om_]) (λm acc=>by
  rw [Ob];dsimp only;rw [show decide (((A s:Nat):Int) < (pl s).S.Actuators)=false from df_ (by show ¬ ((A s:Nat):Int) < s.Actuators;rw [h.Ac];omega),cf_])
 rw [this];rfl
abbrev cbl (s:Ai):Aa:=blt nmS ⟨#[115,116,97,114,116]⟩ s
theorem DN (h:Sq4 s):Yp FF s.Actuators [⟨#[115,116,97,114,116]⟩] (sgs nmS s)=some (cbl s,[⟨#[115,116,97,114,116]⟩],sgs nmS s):=by
 have hA:=h.A6;have hG:=h.G64;have hn:=h.n;have hc:=Mw (s:=s) (k:=n s);have hl:=Cm (N:=nmS) (s:=s);unfold Yp;have h92:m84 FF (⟨s.Actuators,[⟨#[115,116,97,114,116]⟩],sgs nmS s,[],[]⟩:Aa)=some ((2 * A s + 1 + (G s + cts s (n s) + n s + 2 * A s):Nat):Int):=by
  unfold m84;dsimp only;rw [hl,h.Ac];show some (wr (wr (wr (2 * ((A s:Nat):Int)) + 1) + _))=_;rw [Ar (x:=2 * ((A s:Nat):Int)) om_ om_,Ar (x:=2 * ((A s:Nat):Int) + 1) om_ om_,Ar om_ om_];congr 1
 rw [h92,ob_];obtain ⟨v,hv,hh⟩:=Pi (L:=Ew s.Actuators ((2 * A s + 1 + (G s + cts s (n s) + n s + 2 * A s):Nat):Int)) (mk:=λi (v:LG×LG)=>((i:Int),v.1,v.2)) (N:=A s) (I:=λi v=>v=((List.range i).map (λa=>(((dat s).L (.pl a true):Nat):Int)),(List.range i).map (λa=>(((dat s).L (.pl a false):Nat):Int)))) (λm i v hi hI=>by
  subst hI;rw [Ew];dsimp only;rw [show decide ((i:Int) < s.Actuators)=true from dt_ (by rw [h.Ac];omega),ct_,h.Ac,Ar (x:=2 * ((A s:Nat):Int)) om_ om_,Ar (x:=2 * (i:Int)) om_ om_,Ar (x:=((2 * A s + 1 + (G s + cts s (n s) + n s + 2 * A s):Nat):Int) - 2 * ((A s:Nat):Int)) om_ om_,Ar (x:=((2 * A s + 1 + (G s + cts s (n s) + n s + 2 * A s):Nat):Int) - 2 * ((A s:Nat):Int) + 2 * (i:Int)) om_ om_,Ar om_ om_,Av so_,ob_,Av so_,ob_,Aq om_];refine ⟨((List.range i).map (λa=>(((dat s).L (.pl a true):Nat):Int)) ++ [((2 * A s + 1 + (G s + cts s (n s) + n s + 2 * A s):Nat):Int) - 2 * ((A s:Nat):Int) + 2 * (i:Int)],(List.range i).map (λa=>(((dat s).L (.pl a false):Nat):Int)) ++ [((2 * A s + 1 + (G s + cts s (n s) + n s + 2 * A s):Nat):Int) - 2 * ((A s:Nat):Int) + 2 * (i:Int) + 1]),?_,rfl⟩;rw [HK,HD,HD];have e1:(((dat s).L (.pl i true):Nat):Int)=((2 * A s + 1 + (G s + cts s (n s) + n s + 2 * A s):Nat):Int) - 2 * ((A s:Nat):Int) + 2 * (i:Int):=by
   rw [L_eq];show ((2 * A s + 1 + (G s + cts s (n s) + n s + 2 * i + (if true=true then 0 else 1)):Nat):Int)=_
   rw [if_pos rfl];omega
  have e2:(((dat s).L (.pl i false):Nat):Int)=((2 * A s + 1 + (G s + cts s (n s) + n s + 2 * A s):Nat):Int) - 2 * ((A s:Nat):Int) + 2 * (i:Int) + 1:=by
   rw [L_eq];show ((2 * A s + 1 + (G s + cts s (n s) + n s + 2 * i + (if false=true then 0 else 1)):Nat):Int)=_
   rw [if_neg (by decide)];omega
  simp only [GD,G1];rw [e1,e2]) (λm v _=>by
  rw [Ew];dsimp only;rw [show decide (((A s:Nat):Int) < s.Actuators)=false from df_ (by rw [h.Ac];omega),cf_]) FF 0 ([],[]) om_ uF rfl
 try dsimp only at hh
 rw [n0] at hh;rw [hh,hv];rfl
theorem DY (h:Sq4 s):m24 FF s=some (cbl s):=by
 have hA:=h.A6;have hG:=h.G64;have hn:=h.n;have hc:=Mw (s:=s) (k:=n s);have hT:(((List.range (n s)).filter (W s)).map (sT nmS s)).length=cts s (n s):=by rw [GC];rfl
 have hS:((List.range (n s)).map (sS nmS s)).length=n s:=by rw [GC,G9]
 have hP:((List.range (A s)).flatMap λa=>[sP nmS s true a,sP nmS s false a]).length=2 * A s:=Hu;have hGl:=Db (N:=nmS) (s:=s);unfold m24;rw [Qw h,ob_,DR h,ob_,DP h,ob_,DQ h,ob_,Av om_,ob_,Vg h (by rw [FR];omega),ob_,AP h,ob_,DO h,ob_];dsimp only;rw [Av (by rw [FR,FR];omega),ob_,GG,GG];show (Yp FF s.Actuators [⟨#[115,116,97,114,116]⟩] (sgs nmS s)).bind _=_;rw [DN h];rfl
end Go.Pn
namespace Go.Pn
open Go
theorem Rm {E:Nat->Int}:∀ {k i:Nat},(∀ j,i<=j->j < i + k->E j=0)->Xp E k i=0
 | 0,_,_=>rfl
 | k + 1,i,h=>by
  unfold Xp;rw [if_pos (h i om_ om_)];exact Rm λj h1 h2=>h j om_ om_
theorem EB {c:Aa} (hw:Fw c) (hs:c.Signals.length<=16\/64 < c.Signals.length):∃ e,m54 FF c=some e/\m20042 FF c=some e/\(e=0->Rt c)/\(Bd_ c->(∀ i,i < c.Inputs.length->nme c (2 * cA c + i)=0)->(∀ i,i < c.Signals.length->sgE c i=0)->plE c=0->e=0):=by
 unfold m54 m85 m20042;by_cases hA:c.Actuators < 1\/c.Actuators > 6
 ·have:(decide (c.Actuators < 1) || decide (c.Actuators > 6))=true:=by simpa using hA
  rw [this];exact ⟨2,rfl,rfl,by simp,λh=>by have:=h.a1;have:=h.a6;omega⟩
 have:(decide (c.Actuators < 1) || decide (c.Actuators > 6))=false:=by simp;omega
 rw [this,cf_,cf_];by_cases hI:c.Inputs.length > 16\/c.Signals.length > 64
 ·have:(decide ((c.Inputs.length:Int) > 16) || decide ((c.Signals.length:Int) > 64))=true:=by simp;omega
  rw [this];exact ⟨5,rfl,rfl,by simp,λh=>by have:=h.i;have:=h.s;omega⟩
 have:(decide ((c.Inputs.length:Int) > 16) || decide ((c.Signals.length:Int) > 64))=false:=by simp;omega
 rw [this,cf_,cf_];have h:Bd_ c:=⟨by omega,by omega,by omega,by omega⟩;have ha:=h.a';have h2:=h.i;have h3:=h.s;have hS:cS c=2 * cA c + c.Inputs.length:=rfl;have hL:cL c=cS c + c.Signals.length:=rfl;have hF:600<=FF:=by unfold FF;omega
 obtain ⟨z,m1,e1,k1⟩:=Ky h FF 0 [] om_ uF (Yi.zero c);rw [n0] at e1;rw [e1,ob_];dsimp only;have A1:=fnzI (L:=Nv FF c) (mk:=λi m=>((i:Int),m)) (N:=c.Inputs.length) (E:=λi=>nme c (2 * cA c + i)) (r:=λe=>Sum.inl e) (I:=λi m=>Yi c (2 * cA c + i) m) (λn i m hi hm=>by
  have hnm:nmF c (2 * cA c + i)=c.Inputs[i]:=by
   unfold nmF;rw [if_neg om_,if_pos om_,show 2 * cA c + i - 2 * cA c=i by omega];simp [gE_ hi]
  obtain ⟨m',hm',hk'⟩:=Tn h (hw.nm (2 * cA c + i)) hF hm c.Actuators c.Inputs c.Signals c.Plus c.Minus;rw [hnm] at hm';rw [Nv];dsimp only;rw [Ao,dt_ hi,ct_,Am,gE_ hi,ob_,hm',ob_];dsimp only;refine ⟨λh0=>⟨m',hk' h0,?_⟩,λh0=>?_⟩
  ·rw [h0,zf_,cf_,Aq om_]
  ·rw [show (nme c (2 * cA c + i) != 0)=true by simpa using h0,ct_]) (λn m _=>by
  rw [Nv];dsimp only;rw [Ao,df_ om_,cf_]) c.Inputs.length FF 0 m1 om_ uF k1
 have B1:=fnzI (L:=En FF c) (mk:=λi (_:Unit)=>(i:Int)) (N:=c.Inputs.length) (E:=λi=>nme c (2 * cA c + i)) (r:=λe=>e) (I:=λ_ _=>True) (λn i _ hi _=>by
  rw [En,Ao,dt_ hi,ct_,h.wa,Ar om_ om_,show ((2 * cA c:Nat):Int) + (i:Int)=((2 * cA c + i:Nat):Int) by omega,Ly h om_ (hw.nm _) hF,ob_];refine ⟨λh0=>⟨(),trivial,?_⟩,λh0=>?_⟩
  ·rw [h0,zf_,cf_,Aq om_]
  ·rw [show (nme c (2 * cA c + i) != 0)=true by simpa using h0,ct_]) (λn _ _=>by
  rw [En,Ao,df_ om_,cf_]) c.Inputs.length FF 0 () om_ uF trivial
 try dsimp only at A1 B1
 rw [n0] at A1 B1;have hzA:(∀ i,i < c.Inputs.length->nme c (2 * cA c + i)=0)->Xp (λi=>nme c (2 * cA c + i)) c.Inputs.length 0=0:=λh=>Rm λj _ hj=>h j om_;generalize Xp (λi=>nme c (2 * cA c + i)) c.Inputs.length 0=E1 at A1 B1 hzA;rcases A1 with ⟨z1,m2,k2,A1⟩ | ⟨z1,A1⟩
 case inr=>
  rcases B1 with ⟨z2,_⟩ | ⟨_,B1⟩
  ·exact absurd z2 z1
  rw [A1,B1];exact ⟨E1,rfl,rfl,λh=>absurd h z1,λ_ h _ _=>absurd (hzA h) z1⟩
 rcases B1 with ⟨_,_,_,B1⟩ | ⟨z2,_⟩
 case inr=>exact absurd z1 z2
 rw [A1,B1,ob_,ob_];dsimp only;have hget:∀ i,i < c.Signals.length->∃ x,c.Signals[i]?=some x/\sgE c i=sge c i x:=λi hi=>⟨c.Signals[i],gE_ hi,by unfold sgE;rw [gE_ hi]⟩;have A2:=fnzI (L:=Nu FF c) (mk:=λi m=>((i:Int),m)) (N:=c.Signals.length) (E:=sgE c) (r:=λe=>Sum.inl e) (I:=λi m=>Yi c (cS c + i) m) (λn i m hi hm=>by
  obtain ⟨x,hx,hsg⟩:=hget i hi;obtain ⟨m',hm',hk'⟩:=BK h hw hx hm;rw [Nu,hsg];dsimp only;rw [Ao,dt_ hi,ct_,hm',ob_];dsimp only;refine ⟨λh0=>⟨m',hk' h0,?_⟩,λh0=>?_⟩
  ·rw [h0,zf_,cf_,Aq om_]
  ·rw [show (sge c i x != 0)=true by simpa using h0,ct_]) (λn m _=>by
  rw [Nu];dsimp only;rw [Ao,df_ om_,cf_]) c.Signals.length FF 0 m2 om_ uF k2
 have B2:=fnzI (L:=Em FF c) (mk:=λi (_:Unit)=>(i:Int)) (N:=c.Signals.length) (E:=sgE c) (r:=λe=>e) (I:=λ_ _=>True) (λn i _ hi _=>by
  obtain ⟨x,hx,hsg⟩:=hget i hi;rw [Em,Ao,dt_ hi,ct_,Vo h hw hx,ob_,hsg];refine ⟨λh0=>⟨(),trivial,?_⟩,λh0=>?_⟩
  ·rw [h0,zf_,cf_,Aq om_]
  ·rw [show (sge c i x != 0)=true by simpa using h0,ct_]) (λn _ _=>by
  rw [Em,Ao,df_ om_,cf_]) c.Signals.length FF 0 () om_ uF trivial
 try dsimp only at A2 B2
 rw [n0] at A2 B2;have hz:Xp (sgE c) c.Signals.length 0=0->∀ j,j < c.Signals.length->sgE c j=0:=λh j hj=>Tz h j om_ om_;have hzB:(∀ i,i < c.Signals.length->sgE c i=0)->Xp (sgE c) c.Signals.length 0=0:=λh=>Rm λj _ hj=>h j om_;generalize Xp (sgE c) c.Signals.length 0=E2 at A2 B2 hz hzB;rcases A2 with ⟨z1,m20017,k3,A2⟩ | ⟨z1,A2⟩
 case inr=>
  rcases B2 with ⟨z2,_⟩ | ⟨_,B2⟩
  ·exact absurd z2 z1
  rw [A2,B2];exact ⟨E2,rfl,rfl,λh=>absurd h z1,λ_ _ h _=>absurd (hzB h) z1⟩
 rcases B2 with ⟨_,_,_,B2⟩ | ⟨z2,_⟩
 case inr=>exact absurd z1 z2
 rw [A2,B2,ob_,ob_];dsimp only;rw [Vn h];refine ⟨plE c,?_,rfl,λh0=>?_,λ_ _ _ h=>h⟩
 ·unfold plE;by_cases h1:(c.Plus.length:Int)≠c.Actuators\/(c.Minus.length:Int)≠c.Actuators
  ·rw [if_pos h1,show (((c.Plus.length:Int) != c.Actuators) || ((c.Minus.length:Int) != c.Actuators))=true by simpa using h1,ct_];rfl
  ·rw [if_neg h1,show (((c.Plus.length:Int) != c.Actuators) || ((c.Minus.length:Int) != c.Actuators))=false by simp;omega,cf_];have h6:=h.a6;rw [Qo om_ om_,ob_,BJ h so_,ob_];cases (c.Plus ++ c.Minus).any (bad (cL c)) <;> rfl
 ·unfold plE at h0;split at h0
  ·contradiction
  ·split at h0
   ·contradiction
   ·rename_i h1 h2;have h6:=h.a;have hsz:∀ x∈c.Signals,(0<=x.Kind/\x.Kind < 3/\okE 16 (cL c) x.On/\(x.Kind=1->okE 16 (cL c) x.Off))/\(x.Kind=2->x.Init=false):=λx hx=>by
     obtain ⟨i,hi⟩:=HE hx;have h5:=hz z1 i (FT.1 hi).1;have:sge c i x=0:=by
      unfold sgE at h5;rw [hi] at h5;exact h5
     exact CZ hw hi this
    refine ⟨h,λx hx=>(hsz x hx).1,by omega,by omega,λl hl=>?_,λx hx=>(hsz x hx).2⟩
    ·have h5:(c.Plus ++ c.Minus).any (bad (cL c))=false:=by simpa using h2
     have:=GR.1 h5 l hl;unfold bad at this;simp at this;omega
end Go.Pn
namespace Go.Pn
open Go
structure Fla (x:Expr):Prop where
 l:x.Args.length<=100
 a:∀ y∈x.Args,y.Args=[]
theorem Fla.lnx (n:Nat):Fla (lnx n):=⟨by unfold Pn.lnx;simp,λy h=>by cases h⟩
theorem Fla.sev {op:Int}:∀ {l:LJ},l.length<=100->Fla (Ec op l)
 | [],_=>⟨by unfold Ec;simp,λy h=>by cases h⟩
 | [n],_=>Fla.lnx n
 | a :: b :: t,h=>⟨by show ((a :: b :: t).map Pn.lnx).length<=100;rw [GC];exact h,λy hy=>by
   have hy:y∈(a :: b :: t).map Pn.lnx:=hy;obtain ⟨n,_,rfl⟩:=GE.1 hy;rfl⟩
theorem Fla.not {n:Nat}:Fla ⟨2,0,[Pn.lnx n]⟩:=⟨by simp,λy hy=>by
 obtain rfl:=HQ.1 hy;rfl⟩
theorem Fla.zxp:Fla zxp:=⟨by simp,λy h=>by cases h⟩
theorem Vm {f:Nat} {y:Expr} {v:Int} (h:y.Args=[]):m20141 (f + 2) y v=some 1:=by
 show (Bi (m20141 (f + 1)) y v (f + 1) (1,0)).bind _=_;rw [Bi];dsimp only;rw [h];rfl
theorem Vk {f:Nat} {y:Expr} {v:Int} (h:y.Args=[]) (hv:2<=v):m20142 (f + 2) y v=some true:=by
 show (bif decide (v < 1) then some false else bif v == 1 then _ else (Bb (m20142 (f + 1)) y v (f + 1) 0).bind _)=_;rw [df_ om_,cf_,show (v == 1)=false by rw [beq_eq_false_iff_ne];omega,cf_,Bb,h];rfl
theorem Vq {x:Expr} (h:Fla x):m20078 FF x=some true:=by
 have hl:=h.l;have h30:m20141 FF x 256=some ((1 + x.Args.length:Nat):Int):=by
  have key:∀ (m i:Nat),i<=x.Args.length->x.Args.length - i < m->Bi (m20141 99999) x 256 m (((1 + i:Nat):Int),(i:Int))=some (((1 + x.Args.length:Nat):Int),(x.Args.length:Int)):=by
   intro m
   induction m with
   | zero=>intro i _ h;omega
   | succ m ih=>
    intro i h1 h2;rw [Bi];dsimp only;by_cases hi:i < x.Args.length
    ·rw [Ao,dt_ hi,dt_ (by omega:((1 + i:Nat):Int)<=256),JH,ct_,Am,gE_ hi,ob_];have:=Vm (f:=99997) (v:=wr (256 - ((1 + i:Nat):Int))) (h.a _ (GA hi));rw [this,ob_,Aq om_,Aq om_];exact ih (i + 1) om_ om_
    ·obtain rfl:i=x.Args.length:=by omega
     rw [Ao,df_ om_,J7,cf_]
  show (Bi (m20141 99999) x 256 99999 (((1 + 0:Nat):Int),((0:Nat):Int))).bind _=_;rw [key 99999 0 om_ om_];rfl
 have h31:m20142 FF x 16=some true:=by
  have key:∀ (m i:Nat),i<=x.Args.length->x.Args.length - i < m->Bb (m20142 99999) x 16 m (i:Int)=some (.brk (x.Args.length:Int)):=by
   intro m
   induction m with
   | zero=>intro i _ h;omega
   | succ m ih=>
    intro i h1 h2;rw [Bb];by_cases hi:i < x.Args.length
    ·rw [Ao,dt_ hi,ct_,Am,gE_ hi,ob_,show wr ((16:Int) - 1)=15 from rfl,Vk (f:=99997) (h.a _ (GA hi)) om_,ob_,H1,cf_,Aq om_];exact ih (i + 1) om_ om_
    ·obtain rfl:i=x.Args.length:=by omega
     rw [Ao,df_ om_,cf_]
  show (Bb (m20142 99999) x 16 99999 ((0:Nat):Int)).bind _=_;rw [key 99999 0 om_ om_];rfl
 unfold m20078;rw [h30,ob_,dt_ (by omega:((1 + x.Args.length:Nat):Int)<=256),ct_,h31];rfl
theorem CO {x:Expr} (h:Fla x):Lt_ x/\m20078 FF x=some true:=by
 have h1:=Vq h;obtain ⟨b,hb,hb2⟩:=Vp (f:=FF) uF x;rw [h1] at hb;exact ⟨hb2 (Option.some.inj hb).symm,h1⟩
theorem nod_lnx {N n:Nat} (h:n < N):nod (N:Int) (lnx n)=0:=by
 unfold nod lnx;simp;rw [df_ om_,df_ om_];rfl
theorem Rv {d N n:Nat} (h:n < N):chE (d + 1) (N:Int) (lnx n)=0:=by
 unfold chE;rw [if_pos (nod_lnx h)];rfl
theorem Vy:∀ {l:LG},(∀ a∈l,a=0)->fnz l=0
 | [],_=>rfl
 | a :: l,h=>by
  unfold fnz;rw [if_pos (h a smp_)];exact Vy λb hb=>h b (by simp [hb])
theorem Jj {d N:Nat} {op:Int} (ho:op=3\/op=4):∀ {l:LJ},l≠[]->(∀ n∈l,n < N)->chE (d + 2) (N:Int) (Ec op l)=0
 | [],h,_=>absurd rfl h
 | [n],_,h=>Rv (h n smp_)
 | a :: b :: t,_,h=>by
  have hn:nod (N:Int) (Ec op (a :: b :: t))=0:=by
   show nod (N:Int) ⟨op,0,(a :: b :: t).map lnx⟩=0;unfold nod;rcases ho with rfl | rfl <;> simp <;> (rw [df_ om_]; rfl)
  show (if nod (N:Int) (Ec op (a :: b :: t))=0 then fnz (((a :: b :: t).map lnx).map (chE (d + 1) (N:Int))) else _)=0
  rw [if_pos hn];refine Vy λe he=>?_;obtain ⟨y,hy,rfl⟩:=GE.1 he;obtain ⟨n,hn,rfl⟩:=GE.1 hy;exact Rv (h n hn)
theorem chE_not {d N n:Nat} (h:n < N):chE (d + 2) (N:Int) ⟨2,0,[lnx n]⟩=0:=by
 have hn:nod (N:Int) ⟨2,0,[lnx n]⟩=0:=by unfold nod;simp
 show (if nod (N:Int) ⟨2,0,[lnx n]⟩=0 then fnz (([lnx n]).map (chE (d + 1) (N:Int))) else _)=0
 rw [if_pos hn];refine Vy λe he=>?_;obtain ⟨y,hy,rfl⟩:=GE.1 he;obtain rfl:=HQ.1 hy;exact Rv h
theorem Ut {d n:Nat} {k:Int} (h:occ (d + 1) k (lnx n)=true):k=(n:Int):=by
 unfold occ lnx at h;simp at h;omega
theorem AL {d:Nat} {op:Int} {k:Int} (ho:op=3\/op=4):∀ {l:LJ},occ (d + 2) k (Ec op l)=true->∃ n∈l,k=(n:Int)
 | [],h=>by
  unfold Ec occ at h;rcases ho with rfl | rfl <;> simp at h
 | [n],h=>⟨n,by simp,Ut h⟩
 | a :: b :: t,h=>by
  have h:occ (d + 2) k ⟨op,0,(a :: b :: t).map lnx⟩=true:=h;unfold occ at h;rw [if_neg (by show ¬ op=1;omega),F8] at h;obtain ⟨y,hy,h⟩:=h;obtain ⟨n,hn,rfl⟩:=GE.1 hy;exact ⟨n,hn,Ut h⟩
theorem occ_not {d n:Nat} {k:Int} (h:occ (d + 2) k ⟨2,0,[lnx n]⟩=true):k=(n:Int):=by
 unfold occ at h;rw [if_neg (by show ¬ (2:Int)=1;omega),F8] at h;obtain ⟨y,hy,h⟩:=h;obtain rfl:=HQ.1 hy;exact Ut h
end Go.Pn
namespace Go.Pn
open Go
open Csc
variable {s:Ai}
structure Sq5 (s:Ai):Prop extends Sq4 s where
 n4:Csc.n s<=4
 A2:A s<=2
def nml (A G n:Nat) (w:Nat->Bool):List LL:=(List.range (2 * A)).map fx ++ ([⟨#[115,116,97,114,116]⟩] ++ ((if G=2 then [nbr 103 1,nbr 103 0] else (List.range G).map (nbr 103)) ++ (((List.range n).filter w).map (nbr 119) ++ ((List.range n).map (nbr 115) ++ (List.range A).flatMap λa=>[nmS (.pl a true),nmS (.pl a false)]))))
def okN (l:List LL):Bool:=(List.range l.length).all λi=>wd (l.getD i ⟨#[]⟩) && (decide ((l.getD i ⟨#[]⟩).size<=24) && !((List.range i).any λj=>(l.getD j ⟨#[]⟩).data.toList == (l.getD i ⟨#[]⟩).data.toList))
def wf (a b c d:Bool):Nat->Bool
 | 0=>a
 | 1=>b
 | 2=>c
 | _=>d
theorem okN_tab:([1,2].all λA=>[2,3,4].all λG=>[1,2,3,4].all λn=>[true,false].all λa=>[true,false].all λb=>[true,false].all λc=>[true,false].all λd=>okN (nml A G n (wf a b c d)))=true:=by kernel_rfl
theorem EG {p:Bool->Bool} (h:[true,false].all p=true) (b:Bool):p b=true:=by
 rw [F4] at h;exact h b (by cases b <;> simp)
theorem C7 {A G n:Nat} {w:Nat->Bool} (hA:1<=A) (hA2:A<=2) (hG:2<=G) (hG4:G<=4) (hn:1<=n) (hn4:n<=4):okN (nml A G n w)=true:=by
 have e:(List.range n).filter w=(List.range n).filter (wf (w 0) (w 1) (w 2) (w 3)):=by
  refine List.filter_congr λk hk=>?_;have:=F6.1 hk;rcases (show k=0\/k=1\/k=2\/k=3 by omega) with rfl | rfl | rfl | rfl <;> rfl
 unfold nml;rw [e];have h:=okN_tab;rw [F4] at h;have h:=h A (by rcases (show A=1\/A=2 by omega) with rfl | rfl <;> simp)
 rw [F4] at h;have h:=h G (by rcases (show G=2\/G=3\/G=4 by omega) with rfl | rfl | rfl <;> simp)
 rw [F4] at h;have h:=h n (by rcases (show n=1\/n=2\/n=3\/n=4 by omega) with rfl | rfl | rfl | rfl <;> simp)
 exact EG (EG (EG (EG h (w 0)) (w 1)) (w 2)) (w 3)
theorem Ws:(sgs nmS s).map (·.Name)=(if G s=2 then [nbr 103 1,nbr 103 0] else (List.range (G s)).map (nbr 103)) ++ (((List.range (n s)).filter (W s)).map (nbr 119) ++ ((List.range (n s)).map (nbr 115) ++ (List.range (A s)).flatMap λa=>[nmS (.pl a true),nmS (.pl a false)])):=by
 unfold sgs;rw [HD,HD,HD,JR,JR,List.map_flatMap];congr 1;unfold sgG;split
 ·rfl
 ·rw [JR];rfl
theorem EY (h:Sq4 s) {i:Nat} (hi:i < cL (cbl s)):nmF (cbl s) i=(nml (A s) (G s) (n s) (W s)).getD i ⟨#[]⟩:=by
 have hl:=Cm (N:=nmS) (s:=s);have hcS:cS (cbl s)=2 * A s + 1:=rfl;have hcL:cL (cbl s)=cS (cbl s) + (sgs nmS s).length:=rfl;unfold nmF nml;rw [← Ws]
 conv=>rhs;rw [FU]
 show (if i < 2 * A s then fx i else if i < cS (cbl s) then _ else _)=_
 by_cases h1:i < 2 * A s
 ·rw [if_pos h1,FY (by simpa using h1),F9,GN h1];rfl
 ·rw [if_neg h1,F5 so_,GC,G9];by_cases h2:i < cS (cbl s)
  ·obtain rfl:i=2 * A s:=by omega
   rw [if_pos h2,JU];show ([⟨#[115,116,97,114,116]⟩]:List LL).getD (2 * A s - 2 * A s) _=_;rw [JU];rfl
  ·rw [if_neg h2,F5 so_];show (((sgs nmS s)[i - cS (cbl s)]?).map (·.Name)).getD _=((((sgs nmS s).map (·.Name))[i - 2 * A s - 1]?)).getD _;rw [F9,show i - cS (cbl s)=i - 2 * A s - 1 by omega]
theorem Wr (h:Sq5 s) {i:Nat} (hi:i < cL (cbl s)):nme (cbl s) i=0:=by
 have hq:=h.q;have hG:=h.G64;have hl:=Cm (N:=nmS) (s:=s);have hn4:=h.n4;have ok:=C7 (A:=A s) (G:=G s) (n:=n s) (w:=W s) (by have:=hq.a0;unfold A;omega) h.A2 hq.g2 om_ hq.n0 hn4;have hlen:(nml (A s) (G s) (n s) (W s)).length=cL (cbl s):=by
  show _=2 * A s + 1 + (sgs nmS s).length;unfold nml;rw [← Ws,FR,FR,GC,G9,GC];simp;omega
 unfold okN at ok;rw [F4] at ok;have ok:=ok i (F6.2 om_);rw [F0,F0,decide_eq_true_iff] at ok;obtain ⟨o1,o2,o3⟩:=ok;unfold nme;rw [EY h.toSq4 hi,if_pos o1,if_neg om_];have:((List.range i).any λj=>(nmF (cbl s) j).data.toList == ((nml (A s) (G s) (n s) (W s)).getD i ⟨#[]⟩).data.toList)=false:=by
  rw [GR];intro j hj he;have hj:=F6.1 hj;rw [EY h.toSq4 om_] at he;have:((List.range i).any λj=>((nml (A s) (G s) (n s) (W s)).getD j ⟨#[]⟩).data.toList == ((nml (A s) (G s) (n s) (W s)).getD i ⟨#[]⟩).data.toList)=true:=F8.2 ⟨j,F6.2 hj,he⟩;rw [this] at o3;cases o3
 rw [this,if_neg (by decide)]
theorem L_lt {x:Sg} (hx:no s x < (sgs nmS s).length):(dat s).L x < cL (cbl s):=by
 show 2 * A s + 1 + no s x < 2 * A s + 1 + (sgs nmS s).length;omega
theorem no_lt (h:Sq4 s) {x:Sg} (hx:(dat s).ok x):no s x < (sgs nmS s).length:=by
 have h2:=h.q.g2;rw [Cm];cases x with
 | gl j=>
  have hj:j < G s:=hx;show (if G s=2 then 1 - j else j) < _
  split <;> omega
 | tm k=>
  have hk:k < n s:=hx.1;have h1:=(FT.1 (Cv hk hx.2)).1;show G s + cts s k < G s + cts s (n s) + n s + 2 * A s;have:cts s k < cts s (n s):=h1;omega
 | sg k=>
  have hk:k < n s:=hx;show G s + cts s (n s) + k < _;omega
 | pl a o=>
  have ha:a < A s:=hx;show G s + cts s (n s) + n s + 2 * a + (if o=true then 0 else 1) < _
  split <;> omega
theorem sw_lt (h:Sq4 s) {k:Nat} (hk:k < n s):∀ m∈(S s k).map CasD.sw,m < 2 * A s:=by
 intro m hm;obtain ⟨x,hx,rfl⟩:=GE.1 hm;have:=(h.q.cas (N:=nmS) (i:=⟨#[]⟩)).Sa k hk x hx;have hb:x.2.toNat<=1:=by cases x.2 <;> decide
 have:x.1 < A s:=this;unfold CasD.sw;omega
def Yu (s:Ai) (m:Nat):Prop:=m < 2 * A s + 1 + (G s + cts s (n s))
theorem Xv (h:Sq4 s) {k:Nat} (hk:k < n s):∀ m∈(dat s).en k,Yu s m:=by
 intro m hm;unfold CasD.en at hm;split at hm
 ·rename_i hw;obtain rfl:=HQ.1 hm;have h1:=(FT.1 (Cv (p:=W s) hk hw)).1;have:cts s k < cts s (n s):=h1;show 2 * A s + 1 + (G s + cts s k) < _;omega
 ·have:=sw_lt h hk m hm;unfold Yu;omega
theorem Tu (h:Sq4 s) {j:Nat} (hj:j < G s):(dat s).L (.gl j) < 2 * A s + 1 + G s:=by
 have:=h.q.g2;show 2 * A s + 1 + (if G s=2 then 1 - j else j) < _
 split <;> omega
theorem bg_low (h:Sq4 s) {k:Nat} (hk:k < n s):∀ m∈(dat s).bg k,Yu s m:=by
 intro m hm;unfold CasD.bg at hm;split at hm
 ·obtain rfl:=HQ.1 hm;show 2 * A s < _;omega
 ·split at hm
  ·exact Xv h om_ m hm
  ·cases hm
theorem Hk {m:Nat} (h:Yu s m):m < cL (cbl s):=by
 have hl:=Cm (N:=nmS) (s:=s);unfold Yu at h;show m < 2 * A s + 1 + (sgs nmS s).length;omega
theorem en_ne (h:Sq4 s) {k:Nat} (hk:k < n s):(dat s).en k≠[]:=by
 unfold CasD.en;split
 ·simp
 ·intro e;have:=KJ.1 e;exact h.q.sq.ne k hk this
theorem at_ne (h:Sqc s) {a:Nat} (ha:a < A s) (o:Bool):(dat s).at_ a o≠[]:=by
 have hsq:=h.sq;obtain ⟨k,o',hk,hm⟩:=h.mv a ha;have key:∀ o,(∃ k,k < n s/\(a,o)∈S s k)->(dat s).at_ a o≠[]:=λo ⟨k,hk,hm⟩ e=>by
  have:k∈(dat s).at_ a o:=by
   unfold CasD.at_;rw [HC,F6];exact ⟨hk,dt_ hm⟩
  rw [e] at this;cases this
 refine key o ?_;by_cases e:o=o'
 ·subst e;exact ⟨k,hk,hm⟩
 ·-- otherwise the actuator would not come back
  rcases Classical.em (∃ k,k < n s/\(a,o)∈S s k) with hx | hx
  ·exact hx
  ·exfalso;have hno:∀ i,i < n s->(a,o) ∉ S s i:=λi hi hm=>hx ⟨i,hi,hm⟩;cases o' with
   | true=>
    obtain rfl:o=false:=by cases o <;> simp_all
    have:∀ d,k + 1 + d<=n s->(dat s).pos (k + 1 + d) a=true:=by
     intro d
     induction d with
     | zero=>intro _;exact hsq.pos_in hk hm
     | succ d ih=>
      intro hd;have h1:=ih om_;show (if (a,true)∈S s (k + 1 + d) then true else if (a,false)∈S s (k + 1 + d) then false else (dat s).pos (k + 1 + d) a)=true
      rw [if_neg (hno (k + 1 + d) om_),h1]; split <;> rfl
    have:=this (n s - (k + 1)) om_;rw [show k + 1 + (n s - (k + 1))=n s by omega,h.back a] at this;cases this
   | false=>
    obtain rfl:o=true:=by cases o <;> simp_all
    have:∀ d,d<=n s->(dat s).pos d a=false:=by
     intro d
     induction d with
     | zero=>intro _;rfl
     | succ d ih=>
      intro hd;have h1:=ih om_;show (if (a,true)∈S s d then true else if (a,false)∈S s d then false else (dat s).pos d a)=false
      rw [if_neg (hno d om_),h1]; split <;> rfl
    have h2:=h.fits k hk a false hm;rw [this k om_] at h2;cases h2
theorem BQ {c:Aa} {i:Nat} {x:Ae} (h:∀ k,occ 16 ((cS c + k:Nat):Int) x.On=true->k < i):late c i x=false:=by
 unfold late;rw [GR];intro k _ hk;rw [F0,F0,decide_eq_true_iff] at hk;have:=h k hk.2.2;omega
theorem Qg {c:Aa} {i:Nat} {N:LL} {on:Expr} (hx:c.Signals[i]?=some ⟨N,0,on,zxp,0,false⟩) (hn:nme c (cS c + i)=0) (ho:chE 16 (cL c) on=0) (hl:∀ k,occ 16 ((cS c + k:Nat):Int) on=true->k < i):sgE c i=0:=by
 unfold sgE;rw [hx];show sge c i ⟨N,0,on,zxp,0,false⟩=0;unfold sge;rw [if_neg (by rw [hn];simp),if_neg (by show ¬ ((0:Int) < 0\/3<=(0:Int));omega),if_neg (by show ¬ chE 16 (cL c) on≠0;rw [ho];simp),if_neg (by show ¬ (0:Int)=1;omega),if_pos rfl,BQ hl];rfl
theorem Zp {c:Aa} {i:Nat} {N:LL} {on off:Expr} {b:Bool} (hx:c.Signals[i]?=some ⟨N,1,on,off,0,b⟩) (hn:nme c (cS c + i)=0) (ho:chE 16 (cL c) on=0) (hf:chE 16 (cL c) off=0):sgE c i=0:=by
 unfold sgE;rw [hx];show sge c i ⟨N,1,on,off,0,b⟩=0;unfold sge;rw [if_neg (by rw [hn];simp),if_neg (by show ¬ ((1:Int) < 0\/3<=(1:Int));omega),if_neg (by show ¬ chE 16 (cL c) on≠0;rw [ho];simp),if_pos rfl,if_neg (by show ¬ chE 16 (cL c) off≠0;rw [hf];simp),if_neg (by show ¬ (0:Int)≠0;simp)]
theorem sgE_tim {c:Aa} {i:Nat} {N:LL} {on:Expr} {d:Int} (hx:c.Signals[i]?=some ⟨N,2,on,zxp,d,false⟩) (hn:nme c (cS c + i)=0) (ho:chE 16 (cL c) on=0) (h1:1<=d) (h2:d<=1000000):sgE c i=0:=by
 unfold sgE;rw [hx];show sge c i ⟨N,2,on,zxp,d,false⟩=0;unfold sge;rw [if_neg (by rw [hn];simp),if_neg (by show ¬ ((2:Int) < 0\/3<=(2:Int));omega),if_neg (by show ¬ chE 16 (cL c) on≠0;rw [ho];simp),if_neg (by show ¬ (2:Int)=1;omega),if_neg (by show ¬ (2:Int)=0;omega),if_neg (by show ¬ (d < 1\/d > 1000000);omega)];rfl
theorem C0 (h:Sq5 s) {i:Nat} (hi:i < (sgs nmS s).length):sgE (cbl s) i=0:=by
 have h4:=h.toSq4;have hcas:=h.q.cas (N:=nmS) (i:=⟨#[115,116,97,114,116]⟩);have h2:=h.q.g2;have hcS:cS (cbl s)=2 * A s + 1:=rfl;have hnm:nme (cbl s) (cS (cbl s) + i)=0:=Wr h (by show _ + i < _ + (sgs nmS s).length;omega);obtain ⟨x,hx,he⟩:=hcas.sur i hi;have hl:=Cm (N:=nmS) (s:=s);cases x with
 | gl j=>
  have hj:j < G s:=hx;have he:(if G s=2 then 1 - j else j)=i:=he
  by_cases e:G s=2
  ·rw [if_pos e] at he;rcases (show j=0\/j=1 by omega) with rfl | rfl
   ·obtain rfl:i=1:=by omega
    have hg:(cbl s).Signals[1]?=some ⟨nmS (.gl 0),0,⟨2,0,[lnx ((dat s).L (.gl 1))]⟩,zxp,0,false⟩:=by
     show (sgs nmS s)[1]?=_;rw [Sk om_];unfold sgG;rw [if_pos e];rfl
    refine Qg hg hnm (chE_not (Hk (by have:=Tu h4 (j:=1) om_;unfold Yu;omega))) λk hk=>?_;have:=occ_not hk;have h5:(dat s).L (.gl 1)=2 * A s + 1 + (if G s=2 then 1 - 1 else 1):=rfl
    rw [if_pos e] at h5;omega
   ·obtain rfl:i=0:=by omega
    have hg:(cbl s).Signals[0]?=some ⟨nmS (.gl 1),1,Ec 3 ((dat s).en (las s 0)),Ec 3 ((dat s).en (las s 1)),0,false⟩:=by
     show (sgs nmS s)[0]?=_;rw [Sk om_];unfold sgG;rw [if_pos e];rfl
    have l0:=Fu h4 (j:=0) om_;have l1:=Fu h4 (j:=1) om_;exact Zp hg hnm (Jj (.inl rfl) (en_ne h4 l0) λm hm=>Hk (Xv h4 l0 m hm)) (Jj (.inl rfl) (en_ne h4 l1) λm hm=>Hk (Xv h4 l1 m hm))
  ·rw [if_neg e] at he;subst he;have hg:(cbl s).Signals[j]?=some ⟨nmS (.gl j),1,Ec 3 ((dat s).L (.gl ((dat s).pv j)) :: (dat s).en (las s ((dat s).pv j))),lnx ((dat s).L (.gl ((dat s).nx j))),0,decide (j=0)⟩:=by
    show (sgs nmS s)[j]?=_;rw [Sk hj];unfold sgG;rw [if_neg e,F9,GN hj];rfl
   have hp:(dat s).pv j < G s:=CasD.pvl (q:=dat s) h2 hj;have hn:(dat s).nx j < G s:=CasD.nxl (q:=dat s) h2;have lp:=Fu h4 hp;exact Zp hg hnm (Jj (.inl rfl) smp_ λm hm=>by
    rcases GH.1 hm with rfl | hm
    ·exact Hk (by have:=Tu h4 hp;unfold Yu;omega)
    ·exact Hk (Xv h4 lp m hm)) (Rv (Hk (by have:=Tu h4 hn;unfold Yu;omega)))
 | tm k=>
  have hk:k < n s:=hx.1;have hw:W s k=true:=hx.2;have he:G s + cts s k=i:=he;subst he;have hg:=sgs_T (N:=nmS) hk hw;have hwt:=(h.st k hk).w;have:=EJ.1 hw;exact sgE_tim hg hnm (Jj (.inl rfl) smp_ λm hm=>by
   rcases GH.1 hm with rfl | hm
   ·exact Hk (by have:=Tu h4 (g_lt h4 hk);unfold Yu;omega)
   ·exact Hk (by have:=sw_lt h4 hk m hm;unfold Yu;omega)) om_ hwt.2
 | sg k=>
  have hk:k < n s:=hx;have he:G s + cts s (n s) + k=i:=he;subst he;have hg:=sgs_S (N:=nmS) hk;have hlow:∀ m∈((dat s).L (.gl (g s k)) :: (dat s).bg k),Yu s m:=λm hm=>by
   rcases GH.1 hm with rfl | hm
   ·have:=Tu h4 (g_lt h4 hk);unfold Yu;omega
   ·exact bg_low h4 hk m hm
  refine Qg hg hnm (Jj (.inl rfl) smp_ λm hm=>Hk (hlow m hm)) λj hj=>?_;obtain ⟨m,hm,he⟩:=AL (.inl rfl) hj;have:=hlow m hm;unfold Yu at this;omega
 | pl a o=>
  have ha:a < A s:=hx;have he:G s + cts s (n s) + n s + 2 * a + (if o=true then 0 else 1)=i:=he
  have hg:=sgs_P (N:=nmS) (o:=o) ha;rw [he] at hg;have hlow:∀ m∈((dat s).at_ a o).map λk=>(dat s).L (.sg k),m < 2 * A s + 1 + (G s + cts s (n s) + n s):=λm hm=>by
   obtain ⟨k,hk,rfl⟩:=GE.1 hm;unfold CasD.at_ at hk;have hk:k < n s:=F6.1 (HC.1 hk).1;show 2 * A s + 1 + (G s + cts s (n s) + k) < _;omega
  refine Qg hg hnm (Jj (.inr rfl) (by
   intro e;exact at_ne h.q ha o (KJ.1 e)) λm hm=>?_) λj hj=>?_
  ·have:=hlow m hm;show m < 2 * A s + 1 + (sgs nmS s).length;omega
  ·obtain ⟨m,hm,hme⟩:=AL (.inr rfl) hj;have:=hlow m hm;have:i>=G s + cts s (n s) + n s:=by rw [← he];omega
   omega
theorem fw_cbl (h:Sq5 s):Fw (cbl s):=by
 have h4:=h.toSq4;have hn4:=h.n4;have hA2:=h.A2;have hG:=h.G64;have hnames:∀ x∈(sgs nmS s),x.Name.size<=200/\Fla x.On/\Fla x.Off:=by
  intro x hx;have hnb:∀ p k,(nbr p k).size<=3:=λp k=>by
   unfold nbr;split
   ·show 2<=3;omega
   ·show 3<=3;omega
  have hen:∀ k,k < n s->((dat s).en k).length<=6:=λk hk=>FA h4 hk;unfold sgs at hx;rcases GL.1 hx with hx | hx
  ·unfold sgG at hx;split at hx
   ·rcases GH.1 hx with rfl | hx
    ·have l0:=hen _ (Fu h4 (j:=0) (by have:=h.q.g2;omega));have l1:=hen _ (Fu h4 (j:=1) (by have:=h.q.g2;omega));exact ⟨by have:=hnb 103 1;show (nbr 103 1).size<=200;omega,Fla.sev om_,Fla.sev om_⟩
    ·obtain rfl:=HQ.1 hx;exact ⟨by have:=hnb 103 0;show (nbr 103 0).size<=200;omega,Fla.not,Fla.zxp⟩
   ·obtain ⟨j,hj,rfl⟩:=GE.1 hx;have hj:=F6.1 hj;have l0:=hen _ (Fu h4 (CasD.pvl (q:=dat s) h.q.g2 hj));exact ⟨by have:=hnb 103 j;show (nbr 103 j).size<=200;omega,Fla.sev so_,Fla.lnx _⟩
  ·rcases GL.1 hx with hx | hx
   ·obtain ⟨k,hk,rfl⟩:=GE.1 hx;have hk:=F6.1 (HC.1 hk).1;have:=CM h4 hk;exact ⟨by have:=hnb 119 k;show (nbr 119 k).size<=200;omega,Fla.sev (by simp at this ⊢;omega),Fla.zxp⟩
   ·rcases GL.1 hx with hx | hx
    ·obtain ⟨k,hk,rfl⟩:=GE.1 hx;have hk:=F6.1 hk;have hb:((dat s).bg k).length<=6:=by
      unfold CasD.bg;split
      ·simp
      ·split
       ·exact hen _ om_
       ·simp
     exact ⟨by have:=hnb 115 k;show (nbr 115 k).size<=200;omega,Fla.sev so_,Fla.zxp⟩
    ·obtain ⟨a,ha,hx⟩:=KA.1 hx;have key:∀ o,(sP nmS s o a).Name.size<=200/\Fla (sP nmS s o a).On/\Fla (sP nmS s o a).Off:=λo=>by
      refine ⟨by show (2:Nat)<=200;omega,Fla.sev ?_,Fla.zxp⟩;rw [GC];unfold CasD.at_;have:=J9 (λk=>decide ((a,o)∈(dat s).S k)) (List.range (dat s).n);rw [G9] at this;have:(dat s).n=n s:=rfl;omega
     rcases GH.1 hx with rfl | hx
     ·exact key true
     ·obtain rfl:=HQ.1 hx;exact key false
 exact ⟨λx hx=>by obtain rfl:=HQ.1 hx;decide,λx hx=>(hnames x hx).1,λx hx=>CO (hnames x hx).2.1,λx hx=>CO (hnames x hx).2.2⟩
theorem sig_16 (h:Sq5 s):(sgs nmS s).length<=16:=by
 have:=h.n4;have:=h.A2;have:=h.G64;have:=Mw (s:=s) (k:=n s);rw [Cm];omega
theorem EV (h:Sq5 s):Rc (cbl s):=by
 have h4:=h.toSq4;have hw:=fw_cbl h;have hsg:=sig_16 h;have ha:=h4.Ac;obtain ⟨e,e1,e2,e3,e4⟩:=EB hw (.inl hsg);have hb:Bd_ (cbl s):=⟨h.q.a0,h.q.a6,by show 1<=16;omega,hsg⟩;have hl:=Cm (N:=nmS) (s:=s);have hp:∀ l∈(cbl s).Plus ++ (cbl s).Minus,bad (cL (cbl s)) l=false:=λl hl'=>by
  have:∃ a o,a < A s/\l=(((dat s).L (.pl a o):Nat):Int):=by
   rcases GL.1 hl' with h | h <;> obtain ⟨a,ha,rfl⟩:=GE.1 h
   ·exact ⟨a,true,F6.1 ha,rfl⟩
   ·exact ⟨a,false,F6.1 ha,rfl⟩
  obtain ⟨a,o,ha,rfl⟩:=this;have:=L_lt (no_lt h4 (x:=.pl a o) ha);unfold bad;rw [H6,decide_eq_false_iff_not,decide_eq_false_iff_not];omega
 have h0:e=0:=e4 hb (λi hi=>Wr h (by
  have hi:i < 1:=hi;show 2 * A s + i < 2 * A s + 1 + (sgs nmS s).length;omega)) (λi hi=>C0 h hi) (by
  unfold plE;have l1:(cbl s).Plus.length=A s:=by show ((List.range (A s)).map _).length=_;rw [GC,G9]
  have l2:(cbl s).Minus.length=A s:=by show ((List.range (A s)).map _).length=_;rw [GC,G9]
  rw [if_neg (by rw [l1,l2];show ¬ (((A s:Nat):Int)≠s.Actuators\/((A s:Nat):Int)≠s.Actuators);omega),if_neg (by
   intro hh;obtain ⟨l,hl,hb⟩:=F8.1 hh;rw [hp l hl] at hb;cases hb)])
 subst h0;exact ⟨e3 rfl,hw,e1,e2⟩
end Go.Pn
namespace Go.Pn
open Go
theorem Uv {S:List Ad} (h:Nd S):S.Pairwise (·≠·):=by
 rw [List.pairwise_iff_getElem];intro i j hi hj hij e;have:=h i j S[i] (gE_ hi) (by rw [gE_ hj,e]);omega
theorem pair_le {α:Type} {l:List α} (h:l.Pairwise (·≠·)) (he:∀ a∈l,∀ b∈l,a=b):l.length<=1:=by
 match l,h with
 | [],_=>simp
 | [a],_=>simp
 | a :: b :: t,h=>
  have h1:=List.rel_of_pairwise_cons h (a':=b) smp_;exact absurd (he a smp_ b smp_) h1
theorem Xs {α:Type} (p:α->Bool):∀ (S:List α),S.length=(S.filter p).length + (S.filter λa=>!p a).length
 | []=>rfl
 | a :: S=>by
  have:=Xs p S;cases h:p a <;> simp [h] <;> omega
theorem CB (b:Bool):Wc b≠1/\Wc b≠3:=by cases b <;> decide
theorem Xz {α β:Type} {D:β->α->Prop} (hD:∀ c a b,D c a->D c b->a=b):∀ {L:List β} {S:List α},S.Pairwise (·≠·)->(∀ a∈S,∃ c∈L,D c a)->S.length<=L.length
 | [],S,_,h=>by
  match S,h with
  | [],_=>simp
  | a :: S,h=>obtain ⟨c,hc,_⟩:=h a smp_;cases hc
 | c :: L,S,hS,h=>by
  classical
  have h1:=Xs (λa=>decide (D c a)) S;have h2:(S.filter λa=>decide (D c a)).length<=1:=pair_le (hS.filter _) λa ha b hb=>hD c a b (of_decide_eq_true (HC.1 ha).2) (of_decide_eq_true (HC.1 hb).2);have h3:(S.filter λa=>!decide (D c a)).length<=L.length:=Xz hD (hS.filter _) λa ha=>by
   obtain ⟨ha1,ha2⟩:=HC.1 ha;obtain ⟨c',hc',hd⟩:=h a ha1;rcases GH.1 hc' with rfl | hc'
   ·rw [dt_ hd] at ha2;cases ha2
   ·exact ⟨c',hc',hd⟩
  rw [JD];omega
theorem EL {c:Aa} {most B i:Nat} {s:Ad} {P:Ad->Prop} (hB:∀ S:List Ad,Nd S->(∀ t∈S,P t)->S.length<=B) (hm:B < most):∀ (l:List Af) (z:Zt),(∀ x∈l,(aft c s x).2=0/\P (aft c s x).1)->Nd (zS z)->(∀ t∈zS z,P t) ->
  ∃ z',Nj c most i s l z=.inr z'/\Nd (zS z')/\∀ t∈zS z',P t
 | [],z,_,h2,h3=>⟨z,rfl,h2,h3⟩
 | x :: l,z,h1,h2,h3=>by
  obtain ⟨a0,aP⟩:=h1 x smp_;have hl:=hB _ h2 h3;have hzl:(zS z).length=z.N.length:=by unfold zS;rw [GC]
  unfold Nj;rw [if_pos a0,if_neg (by intro e;have:=e.2;omega)];refine EL hB hm l _ (λy hy=>h1 y (by simp [hy])) ?_ ?_
  ·unfold Ck;by_cases hp:plc (zS z) (aft c s x).1 < 0
   ·rw [if_pos hp];show Nd (zS ⟨_,_,_,_⟩);unfold zS;rw [HD];exact h2.put (Us hp)
   ·rw [if_neg hp];exact h2
  ·unfold Ck;by_cases hp:plc (zS z) (aft c s x).1 < 0
   ·rw [if_pos hp];intro t ht;unfold zS at ht;rw [HD] at ht;rcases GL.1 ht with ht | ht
    ·exact h3 t ht
    ·obtain rfl:t=(aft c s x).1:=by simpa using ht
     exact aP
   ·rw [if_neg hp];exact h3
theorem EO {c:Aa} {most B:Nat} {p:Bool} {P:Ad->Prop} (hB:∀ S:List Ad,Nd S->(∀ t∈S,P t)->S.length<=B) (hm:B < most) (hcl:∀ t,P t->∀ x∈tld p t,(aft c t x).2=0/\P (aft c t x).1):∀ (n i:Nat) (z:Zt) (M:List LG),B + 1<=n + i->Nd (zS z)->(∀ t∈zS z,P t)->0 < n ->
  ∃ r,Uk c most p n i z M=.inr r/\Nd (zS r.1)/\∀ t∈zS r.1,P t
 | 0,i,z,M,h,_,_,h0=>by omega
 | n + 1,i,z,M,h1,h2,h3,_=>by
  have hl:=hB _ h2 h3;have hzl:(zS z).length=z.N.length:=by unfold zS;rw [GC]
  unfold Uk;cases hy:z.N[i]? with
  | none=>exact ⟨_,rfl,h2,h3⟩
  | some y=>
   have hi:=(FT.1 hy).1;have hP:P y.state:=h3 _ (GE.2 ⟨y,GF hy,rfl⟩);obtain ⟨z',g1,g2,g3⟩:=EL (i:=i) hB hm (tld p y.state) { z with mv:=[] } (hcl _ hP) h2 h3;dsimp only;rw [g1];dsimp only;rcases JV n with e | e
   ·subst e;omega
   ·exact EO hB hm hcl n (i + 1) z' _ om_ g2 g3 e
theorem srF_P {c:Aa} {most B:Nat} {p:Bool} {P:Ad->Prop} {s:Ad} (hB:∀ S:List Ad,Nd S->(∀ t∈S,P t)->S.length<=B) (hm:B < most) (hB2:B<=1000) (hcl:∀ t,P t->∀ x∈tld p t,(aft c t x).2=0/\P (aft c t x).1) (hs:P s) (hf:Fit c s) (hq:Qt c s) :
  ∃ r,Sr c s p most r/\Nd (zS r.1)/\∀ t∈zS r.1,P t:=by
 obtain ⟨r,h1,h2,h3⟩:=EO (p:=p) hB hm hcl FF 0 (z0t s) [] uF (by
  intro i j t hi hj;have h1:=(FT.1 hi).1;have h2:=(FT.1 hj).1;simp [zS,z0t] at h1 h2;omega) (λt ht=>by
  obtain rfl:t=s:=by simpa [zS,z0t] using ht
  exact hs) uF
 exact ⟨r,Sr.of hf hq om_ h1,h2,h3⟩
variable {c:Aa} {q:CasD} {s:Ad} {st:Bool}
def Cst (c:Aa) (q:CasD) (s:Ad):Prop:=(∃ k mv t st,RunS c q s k mv t st)\/Jl c q s
theorem Bs.rg (hc:CasP c q) {E:Nat->Int} {V M:Nat->Bool} {T:Nat->Int} (h:Bs c q s E V M T st) {i:Nat} (hi:s.Timers.getD i 0=1):∃ k,k < q.n/\q.W k=true/\i=q.no (.tm k)/\T k=1:=by
 have hlt:i < c.Signals.length:=by
  rw [← h.fit.t];rcases G5 i s.Timers.length with h1 | h1
  ·exact h1
  ·rw [FU,GY h1] at hi;cases hi
 have hk2:c.Signals[i].Kind=2:=by
  rcases Classical.em (c.Signals[i].Kind=2) with e | e
  ·exact e
  ·have h1:i < s.Timers.length:=by rw [h.fit.t];exact hlt
   have h2:i < s.Values.length:=by rw [h.fit.x];exact hlt
   have:=(h.fit.k i _ _ _ (gE_ hlt) (gE_ h1) (gE_ h2)).1 e;rw [FU,gE_ h1] at hi;have hi:s.Timers[i]=1:=hi;omega
 obtain ⟨x,hx,rfl⟩:=hc.sur i hlt;have hg:=gE_ hlt;cases x with
 | gl j=>
  exfalso;by_cases h2:q.G=2
  ·by_cases e:j=1
   ·subst e;obtain ⟨y,h1,h3,_⟩:=hc.glT h2;rw [hg] at h1;rw [Option.some.inj h1] at hk2;omega
   ·obtain rfl:j=0:=by have:j < q.G:=hx;omega
    obtain ⟨y,h1,h3,_⟩:=hc.glU h2;rw [hg] at h1;rw [Option.some.inj h1] at hk2;omega
  ·obtain ⟨y,h1,h3,_⟩:=hc.glS h2 j hx;rw [hg] at h1;rw [Option.some.inj h1] at hk2;omega
 | tm k=>exact ⟨k,hx.1,hx.2,rfl,by rw [← (h.t k hx.1 hx.2).1];exact hi⟩
 | sg k=>exfalso;obtain ⟨y,h1,h3,_⟩:=hc.sgS k hx;rw [hg] at h1;rw [Option.some.inj h1] at hk2;omega
 | pl a o=>exfalso;obtain ⟨y,h1,h3,_⟩:=hc.plS a o hx;rw [hg] at h1;rw [Option.some.inj h1] at hk2;omega
theorem RunS.pend (hc:CasP c q) {k:Nat} {mv:Nat->Bool} {t:Int} (h:RunS c q s k mv t st) {x:Af} (hx:x∈Pn.pend s):(∃ a,a < q.A/\mv a=true/\x=⟨0,(a:Int),false⟩)\/(t=1/\q.W k=true/\x=⟨1,(q.no (.tm k):Int),false⟩):=by
 unfold Pn.pend at hx;rcases GL.1 hx with hx | hx
 ·obtain ⟨a,ha,he⟩:=HW.1 hx;have ha:=F6.1 ha;have ha':a < q.A:=by rw [← hc.a,← h.at_.b.fit.e];exact ha
  unfold Ym at he;split at he
  ·rename_i hE;rw [h.at_.b.e a ha'] at hE;refine .inl ⟨a,ha',?_,(Option.some.inj he).symm⟩;cases hm:mv a with
   | true=>rfl
   | false=>
    exfalso;unfold CasD.Ek at hE;rw [if_neg (by rw [hm];decide)] at hE;have:=CB (q.pos (k + 1) a);rcases hE with e | e
    ·exact this.1 e
    ·exact this.2 e
  ·cases he
 ·obtain ⟨i,hi,he⟩:=HW.1 hx;unfold CS at he;split at he
  ·rename_i hT;obtain ⟨k',h1,h2,rfl,h4⟩:=h.at_.b.rg hc hT;have he:=(Option.some.inj he).symm;unfold CasD.Tk at h4;split at h4
   ·rename_i e;subst e;exact .inr ⟨h4,h2,he⟩
   ·split at h4
    ·cases h4
    ·cases h4
  ·cases he
theorem RunS.pend_end (hc:CasP c q) {k:Nat} {mv:Nat->Bool} {t:Int} (h:RunS c q s k mv t st) {a:Nat} (ha:a < q.A) (hm:mv a=true):(⟨0,(a:Int),false⟩:Af)∈Pn.pend s:=by
 unfold Pn.pend;refine GK _ (HW.2 ⟨a,F6.2 (by rw [h.at_.b.fit.e,hc.a];exact ha),?_⟩);unfold Ym;rw [if_pos];rw [h.at_.b.e a ha];unfold CasD.Ek;rw [if_pos hm];cases q.pos (k + 1) a
 ·exact .inr rfl
 ·exact .inl rfl
theorem RunS.pend_tim (hc:CasP c q) {k:Nat} {mv:Nat->Bool} (h:RunS c q s k mv 1 st) (hw:q.W k=true):(⟨1,(q.no (.tm k):Int),false⟩:Af)∈Pn.pend s:=by
 obtain ⟨x,hx,_⟩:=hc.tmS k h.hk hw;have hlt:=(FT.1 hx).1;unfold Pn.pend;refine GJ _ (HW.2 ⟨q.no (.tm k),F6.2 (by rw [h.at_.b.fit.t];exact hlt),?_⟩);unfold CS;rw [if_pos (by rw [(h.at_.b.t k h.hk hw).1,Mz])]
theorem RunS.pend_ne (hc:CasP c q) {k:Nat} {mv:Nat->Bool} {t:Int} (h:RunS c q s k mv t st):Pn.pend s≠[]:=by
 intro e;rcases h.hr with ⟨⟨a,o,ha,hm⟩,_⟩ | ⟨_,hw,ht⟩
 ·have:=h.pend_end hc (hc.Sa k h.hk _ ha) hm;rw [e] at this;cases this
 ·subst ht;have:=h.pend_tim hc hw;rw [e] at this;cases this
theorem Jl.pend (hc:CasP c q) (h:Jl c q s):Pn.pend s=[]:=by
 have hb:Bs c q s _ _ _ _ _:=h.b;rw [List.eq_nil_iff_forall_not_mem];intro x hx;unfold Pn.pend at hx;rcases GL.1 hx with hx | hx
 ·obtain ⟨a,ha,he⟩:=HW.1 hx;have ha:=F6.1 ha;have ha':a < q.A:=by rw [← hc.a,← hb.fit.e];exact ha
  unfold Ym at he;rw [if_neg (by
   rw [hb.e a ha'];have:=CB (q.pos 0 a);rintro (e | e)
   ·exact this.1 e
   ·exact this.2 e)] at he
  cases he
 ·obtain ⟨i,hi,he⟩:=HW.1 hx;unfold CS at he;split at he
  ·rename_i hT;obtain ⟨k',h1,h2,_,h4⟩:=hb.rg hc hT;rw [Pz (λ_ _ _=>G3 _) h1] at h4;cases h4
  ·cases he
end Go.Pn
namespace Go.Pn
open Go
variable {c:Aa} {q:CasD} {s:Ad} {st:Bool}
theorem Nxt.cst {u:Ad} {k:Nat} (h:Nxt c q u k st):Cst c q u:=by
 rcases h with ⟨h,_⟩ | ⟨_,_,h⟩
 ·exact .inl ⟨_,_,_,_,h⟩
 ·exact .inr h
theorem RunS.next (hc:CasP c q) (hs:SqP q) (hp:TmP q) {k:Nat} {mv:Nat->Bool} {t:Int} (h:RunS c q s k mv t st) {x:Af} (hx:x∈Pn.pend s) :
  ∃ u,aft c s x=(u,0)/\((∃ a t',a < q.A/\mv a=true/\RunS c q u k (CasD.un mv a) t' st)\/Nxt c q u k st):=by
 rcases h.pend hc hx with ⟨a,ha,hm,rfl⟩ | ⟨rfl,hw,rfl⟩
 ·obtain ⟨u,h1,_,h2⟩:=E9 hc hs h ha hm;refine ⟨u,h1,?_⟩;rcases h2 with ⟨t',h2⟩ | ⟨_,h2⟩
  ·exact .inl ⟨a,t',ha,hm,h2⟩
  ·exact .inr h2
 ·obtain ⟨u,h1,_,h2⟩:=B6 hc hs hp h;exact ⟨u,h1,.inr h2⟩
theorem At_.inp {E:Nat->Int} {V M:Nat->Bool} {T:Nat->Int} (h:At_ c q s E V M T st):s.Inputs.getD 0 false=st:=h.b.i
theorem Cst.clo (hc:CasP c q) (hs:SqP q) (hp:TmP q) {p:Bool} (h:Cst c q s):∀ x∈tld p s,(aft c s x).2=0/\Cst c q (aft c s x).1:=by
 intro x hx;unfold tld at hx;rcases GL.1 hx with hx | hx
 ·rcases h with ⟨k,mv,t,st,h⟩ | h
  ·obtain ⟨u,h1,h2⟩:=h.next hc hs hp hx;rw [h1];refine ⟨rfl,?_⟩;rcases h2 with ⟨a,t',_,_,h2⟩ | h2
   ·exact .inl ⟨_,_,_,_,h2⟩
   ·exact h2.cst
  ·rw [h.pend hc] at hx;cases hx
 ·split at hx
  ·obtain ⟨i,hi,rfl⟩:=GE.1 hx;have hi:=F6.1 hi;rcases h with ⟨k,mv,t,st,h⟩ | h
   ·obtain rfl:i=0:=by have:=h.at_.b.fit.i;rw [hc.i] at this;omega
    obtain ⟨u,h1,_,h2⟩:=ev_in hc hs h;have e:prs s 0=⟨2,0,!st⟩:=by unfold prs;rw [h.at_.inp];rfl
    rw [e,h1];exact ⟨rfl,.inl ⟨_,_,_,_,h2⟩⟩
   ·have hb:Bs c q s _ _ _ _ _:=h.b;obtain rfl:i=0:=by have:=hb.fit.i;rw [hc.i] at this;omega
    obtain ⟨u,h1,_,h2⟩:=Kk hc hs h;have e:prs s 0=⟨2,0,true⟩:=by unfold prs;rw [hb.i];rfl
    rw [e,h1];exact ⟨rfl,.inl ⟨_,_,_,_,h2⟩⟩
  ·cases hx
def mvf (a b:Bool) (x:Nat):Bool:=if x=0 then a else if x=1 then b else false
theorem mvf_eq {mv:Nat->Bool} (hc:CasP c q) (hA:q.A<=2) {k:Nat} (hk:k < q.n) (h:q.mvs k mv):mv=mvf (mv 0) (mv 1):=by
 funext x
 unfold mvf;by_cases h0:x=0
 ·rw [if_pos h0,h0]
 ·by_cases h1:x=1
  ·rw [if_neg h0,if_pos h1,h1]
  ·rw [if_neg h0,if_neg h1];cases e:mv x with
   | false=>rfl
   | true=>obtain ⟨o,ho⟩:=h x e;have:=hc.Sa k hk _ ho;have:x < q.A:=this;omega
def cfg:List (Option (Nat×Bool×Bool×Bool)):=none :: [0,1,2,3].flatMap λk=>[true,false].flatMap λa=>[true,false].flatMap λb=>[true,false].map λd=>some (k,a,b,d)
def Dcf (c:Aa) (q:CasD):Option (Nat×Bool×Bool×Bool)->Ad->Prop
 | none,s=>Jl c q s
 | some (k,a,b,d),s=>∃ t,RunS c q s k (mvf a b) t d
theorem run_t {k:Nat} {mv:Nat->Bool} {t t':Int} (h:q.run k mv t) (h':q.run k mv t'):t=t':=by
 rcases h with ⟨⟨a,o,ha,hm⟩,rfl⟩ | ⟨h,_,rfl⟩ <;> rcases h' with ⟨⟨a',o',ha',hm'⟩,rfl⟩ | ⟨h',_,rfl⟩
 ·rfl
 ·rw [h' a o ha] at hm;cases hm
 ·rw [h a' o' ha'] at hm';cases hm'
 ·rfl
theorem Dcf.fn (hc:CasP c q):∀ x a b,Dcf c q x a->Dcf c q x b->a=b
 | none,a,b,ha,hb=>Bs.eq hc (At_.b ha) (At_.b hb) (At_.g ha) (At_.g hb)
 | some (k,x,y,d),a,b,⟨t,ha⟩,⟨t',hb⟩=>by
  have:=run_t ha.hr hb.hr;subst this;exact Bs.eq hc ha.at_.b hb.at_.b ha.at_.g hb.at_.g
theorem cfg_len:cfg.length=33:=rfl
theorem Cst.few (hc:CasP c q) (hA:q.A<=2) (hn:q.n<=4) (S:List Ad) (hS:Nd S) (h:∀ t∈S,Cst c q t):S.length<=33:=by
 rw [← cfg_len];refine Xz (Dcf.fn hc) (Uv hS) λt ht=>?_;rcases h t ht with ⟨k,mv,t',d,hr⟩ | hi
 ·refine ⟨some (k,mv 0,mv 1,d),?_,t',?_⟩
  ·unfold cfg;refine GO _ ?_;rw [KA];refine ⟨k,?_,?_⟩
   ·have:=hr.hk;rcases (show k=0\/k=1\/k=2\/k=3 by omega) with rfl | rfl | rfl | rfl <;> simp
   ·cases mv 0 <;> cases mv 1 <;> cases d <;> simp
  ·rw [← mvf_eq hc hA hr.hk hr.hm];exact hr
 ·exact ⟨none,by unfold cfg;simp,hi⟩
def cnm (mv:Nat->Bool):Nat:=(mv 0).toNat + (mv 1).toNat
theorem cn_un {mv:Nat->Bool} {a:Nat} (ha:a < 2) (hm:mv a=true):cnm (CasD.un mv a) + 1=cnm mv:=by
 unfold cnm CasD.un;rcases (show a=0\/a=1 by omega) with rfl | rfl
 ·rw [hm]; cases mv 1 <;> rfl
 ·rw [hm]; cases mv 0 <;> rfl
theorem cn_le {mv:Nat->Bool}:cnm mv<=2:=by unfold cnm; cases mv 0 <;> cases mv 1 <;> decide
theorem drive (hc:CasP c q) (hs:SqP q) (hp:TmP q) (hA:q.A<=2) {p:Bool} {S:List Ad} (hS:∀ t∈S,∀ x∈tld p t,(aft c t x).1∈S):∀ (m:Nat) {s:Ad} {k:Nat} {mv:Nat->Bool} {t:Int},cnm mv<=m->RunS c q s k mv t st->s∈S ->
  ∃ s' mv' t' x u,s'∈S/\RunS c q s' k mv' t' st/\x∈tld p s'/\aft c s' x=(u,0)/\u∈S/\Nxt c q u k st:=by
 intro m
 induction m with
 | zero=>
  intro s k mv t hcn h hmem;have hno:∀ a o,(a,o)∈q.S k->mv a=false:=λa o ha=>by
   have:a < q.A:=hc.Sa k h.hk _ ha;unfold cnm at hcn;rcases (show a=0\/a=1 by omega) with rfl | rfl
   ·cases e:mv 0 with
    | false=>rfl
    | true=>rw [e] at hcn;simp at hcn
   ·cases e:mv 1 with
    | false=>rfl
    | true=>rw [e] at hcn;simp at hcn
  rcases h.hr with ⟨⟨a,o,ha,hm⟩,_⟩ | ⟨_,hw,ht⟩
  ·rw [hno a o ha] at hm;cases hm
  ·subst ht;obtain ⟨u,h1,_,h2⟩:=B6 hc hs hp h;have hx:(⟨1,(q.no (.tm k):Int),false⟩:Af)∈tld p s:=by unfold tld;exact GK _ (h.pend_tim hc hw)
   have hu:=hS s hmem _ hx;rw [h1] at hu;exact ⟨s,mv,1,_,u,hmem,h,hx,h1,hu,h2⟩
 | succ m ih=>
  intro s k mv t hcn h hmem;rcases h.hr with ⟨⟨a,o,ha,hm⟩,_⟩ | ⟨_,hw,ht⟩
  ·have haA:a < q.A:=hc.Sa k h.hk _ ha;obtain ⟨u,h1,_,h2⟩:=E9 hc hs h haA hm;have hx:(⟨0,(a:Int),false⟩:Af)∈tld p s:=by unfold tld;exact GK _ (h.pend_end hc haA hm)
   have hu:=hS s hmem _ hx;rw [h1] at hu;rcases h2 with ⟨t',h2⟩ | ⟨_,h2⟩
   ·have:=cn_un (mv:=mv) (show a < 2 by omega) hm;exact ih om_ h2 hu
   ·exact ⟨s,mv,t,_,u,hmem,h,hx,h1,hu,h2⟩
  ·subst ht;obtain ⟨u,h1,_,h2⟩:=B6 hc hs hp h;have hx:(⟨1,(q.no (.tm k):Int),false⟩:Af)∈tld p s:=by unfold tld;exact GK _ (h.pend_tim hc hw)
   have hu:=hS s hmem _ hx;rw [h1] at hu;exact ⟨s,mv,1,_,u,hmem,h,hx,h1,hu,h2⟩
theorem Ud (hc:CasP c q) (hs:SqP q) (hp:TmP q) (hA:q.A<=2) {p:Bool} {S:List Ad} (hS:∀ t∈S,∀ x∈tld p t,(aft c t x).1∈S) {s:Ad} {mv:Nat->Bool} {t:Int} (h:RunS c q s 0 mv t false) (hmem:s∈S) :
  (∀ k,k < q.n->∃ s' mv' t',s'∈S/\RunS c q s' k mv' t' false)/\(∀ k,k + 1 < q.n->∃ s' mv' t' x u,s'∈S/\RunS c q s' k mv' t' false/\x∈tld p s'/\aft c s' x=(u,0)/\RunS c q u (k + 1) (q.ms (k + 1)) 0 false)/\∃ u,u∈S/\Jl c q u:=by
 have step:∀ k,k + 1 < q.n->(∃ s' mv' t',s'∈S/\RunS c q s' k mv' t' false)->∃ s' mv' t' x u,s'∈S/\RunS c q s' k mv' t' false/\x∈tld p s'/\aft c s' x=(u,0)/\u∈S/\RunS c q u (k + 1) (q.ms (k + 1)) 0 false:=λk hk ⟨s',mv',t',h1,h2⟩=>by
  obtain ⟨s2,mv2,t2,x,u,g1,g2,g3,g4,g5,g6⟩:=drive hc hs hp hA hS (cnm mv') (GB _) h2 h1;have hnk:q.nk k=k + 1:=by unfold CasD.nk;rw [if_pos hk]
  rcases g6 with ⟨g6,_⟩ | ⟨g6,_,_⟩
  ·rw [hnk] at g6;exact ⟨s2,mv2,t2,x,u,g1,g2,g3,g4,g5,g6⟩
  ·omega
 have all:∀ k,k < q.n->∃ s' mv' t',s'∈S/\RunS c q s' k mv' t' false:=by
  intro k
  induction k with
  | zero=>intro _;exact ⟨s,mv,t,hmem,h⟩
  | succ k ih=>
   intro hk;obtain ⟨_,_,_,_,u,_,_,_,_,g5,g6⟩:=step k hk (ih om_);exact ⟨u,_,_,g5,g6⟩
 refine ⟨all,λk hk=>?_,?_⟩
 ·obtain ⟨s',mv',t',x,u,g1,g2,g3,g4,_,g6⟩:=step k hk (all k om_);exact ⟨s',mv',t',x,u,g1,g2,g3,g4,g6⟩
 ·have h0:=hs.n0;obtain ⟨s',mv',t',g1,g2⟩:=all (q.n - 1) om_;obtain ⟨_,_,_,_,u,_,_,_,_,g5,g6⟩:=drive hc hs hp hA hS (cnm mv') (GB _) g2 g1;have hnk:q.nk (q.n - 1)=0:=by unfold CasD.nk;rw [if_neg om_]
  rcases g6 with ⟨_,g6⟩ | ⟨_,_,g6⟩
  ·have:=g6 hnk;cases this
  ·exact ⟨u,g5,g6⟩
theorem Tw (hc:CasP c q) (hs:SqP q) {u:Ad} {k:Nat} {E:Nat->Int} {V M V' M':Nat->Bool} {T T':Nat->Int} {st st':Bool} (hk:k < q.n) (h1:Bs c q s E V M T st) (h2:Bs c q u (q.Ek k (q.ms k)) V' M' T' st') {a:Nat} {w:Bool} (ha:(a,w)∈q.S k) (hE:E a≠if w=true then 1 else 3):(⟨(a:Int),w⟩:Ab)∈frs s u:=by
 have haA:a < q.A:=hc.Sa k hk _ ha;unfold frs;refine HW.2 ⟨a,F6.2 (by rw [h1.fit.e,hc.a];exact haA),?_⟩;unfold frE;rw [h1.e a haA,h2.e a haA];have he:q.Ek k (q.ms k) a=if w=true then 1 else 3:=by
  unfold CasD.Ek;rw [if_pos (Kv.2 ⟨w,ha⟩),hs.pos_in hk ha]
 rw [he,if_pos ⟨by cases w;exact .inr rfl;exact .inl rfl,hE⟩];cases w <;> rfl
theorem Ek_ne (hs:SqP q) {k a:Nat} {mv:Nat->Bool} {w:Bool} (hk:k + 1 < q.n) (ha:(a,w)∈q.S (k + 1)):q.Ek k mv a≠if w=true then 1 else 3:=by
 have h1:=hs.fits (k + 1) hk a w ha;unfold CasD.Ek;rw [h1];cases mv a <;> cases w <;> decide
theorem Ep_ne (hs:SqP q) {a:Nat} {w:Bool} (ha:(a,w)∈q.S 0):q.Ep 0 a≠if w=true then 1 else 3:=by
 have h1:=hs.fits 0 hs.n0 a w ha;unfold CasD.Ep;rw [h1];cases w <;> decide
theorem CJ (hc:CasP c q) (hs:SqP q) (hp:TmP q) (hA:q.A<=2) {S:List Ad} (hS:∀ t∈S,∀ x∈tld true t,(aft c t x).1∈S) {s:Ad} {mv:Nat->Bool} {t:Int} (h:RunS c q s 0 mv t false) (hmem:s∈S) {k a:Nat} {w:Bool} (hk:k < q.n) (ha:(a,w)∈q.S k):(⟨(a:Int),w⟩:Ab)∈bgi c true S:=by
 obtain ⟨_,h2,u,hu,hi⟩:=Ud hc hs hp hA hS h hmem;unfold bgi;rw [KA];cases k with
 | zero=>
  obtain ⟨v,g1,_,g2⟩:=Kk hc hs hi;have hb:Bs c q u _ _ _ _ _:=hi.b;refine ⟨u,hu,?_⟩;unfold bgr;rw [KA];refine ⟨⟨2,0,true⟩,?_,?_⟩
  ·unfold tld;refine GJ _ ?_;rw [if_pos rfl];refine GE.2 ⟨0,F6.2 (by rw [hb.fit.i,hc.i];omega),?_⟩;unfold prs;rw [hb.i];rfl
  ·rw [g1];exact Tw hc hs hk hb g2.at_.b ha (Ep_ne hs ha)
 | succ k=>
  obtain ⟨s',mv',t',x,v,g1,g2,g3,g4,g5⟩:=h2 k hk;refine ⟨s',g1,?_⟩;unfold bgr;rw [KA];refine ⟨x,g3,?_⟩;rw [g4];exact Tw hc hs hk g2.at_.b g5.at_.b ha (Ek_ne hs hk ha)
end Go.Pn
namespace Go.Pn
open Go
theorem Sr.sp3 {c:Aa} {s:Ad} {most:Nat} {r:Zt×List LG} (h:Sr c s false most r) (hm:(zS r.1).length<=120):Sp_ c s ⟨zS r.1,r.2⟩:=by
 have hx:=EM FF 0 (z0t s) [] (c:=c) (most:=most);rw [show Uk c most false FF 0 (z0t s) []=.inr r from h.eq] at hx;refine ⟨h.zi.al,?_,Zh FF 0 _ [] ⟨rfl,by simp [zS,z0t],rfl,?_,λj s mv hj=>by omega,λk h1 h2=>by simp [zS,z0t] at h2;omega⟩ hx⟩
 ·exact hm
 ·intro i j t hi hj;have h1:=(FT.1 hi).1;have h2:=(FT.1 hj).1;simp [zS,z0t] at h1 h2;omega
theorem Yj {c:Aa} {s:Ad} {most:Nat} {r:Zt×List LG} (hr:Sr c s false most r) (hm:(zS r.1).length<=120) {i:Nat} {f:Aj} {l:LG} (hf:r.1.F[i]?=some f) (hl:r.2[i]?=some l):((l.length:Int) == 0)=Sd f.State:=by
 have hS:=hr.sp3 hm;have hs:(zS r.1)[i]?=some f.State:=by rw [← hr.zi.fs,F9,hf];rfl
 have hR:=hS.fd.row i _ _ (FT.1 hs).1 hs hl;unfold Sd;rw [hR.len]
theorem m12_any {c:Aa} {s:Ad} {most:Int} {r:Zt×List LG} (hc:Rc c) (hf:Fit c s) (hq:Qt c s) (h1:1<=most) (h2:most<=16384) (hr:Sr c s false most.toNat r) (h3:(zS r.1).length<=40) :
  m12 FF c s most=some (stF r.1.F,0):=by
 have hb:=hc.rt.bd;have hS:=hr.sp3 om_;have hml:r.2.length=(zS r.1).length:=hS.fd.ml;have hle:(zS r.1).length<=120:=hS.le;have hFl:r.1.F.length=(zS r.1).length:=by rw [← hr.zi.fs];simp
 have hFt:∀ f∈r.1.F,Fit c f.State:=λf hf=>(hr.zi.al _ (by rw [← hr.zi.fs];exact GE.2 ⟨f,hf,rfl⟩)).1;have h98:=Qz hc hf hq false h1 om_;rw [hr.eq] at h98;obtain ⟨m',g',h98,_⟩:=h98;unfold m12;rw [h98,ob_];dsimp only;rw [zf,cf_];obtain ⟨v,hv,h⟩:=Pi (L:=Pc FF (0,c.Actuators,false,most,0,c.Inputs,c.Signals,c.Plus,c.Minus,r.1.N,m',r.2,g')) (mk:=λi (v:List Ad)=>((i:Int),v)) (N:=r.2.length) (I:=λi v=>v=stF (r.1.F.take i)) (λn i v hi hI=>by
  subst hI;refine ⟨_,rfl,?_⟩;have hx:r.2[i]?=some r.2[i]:=gE_ hi;have hiF:i < r.1.F.length:=by omega
  have hiN:i < r.1.N.length:=by rw [← hr.zi.len];omega
  have hfx:r.1.F[i]?=some r.1.F[i]:=gE_ hiF;have hnx:r.1.N[i]?=some r.1.N[i]:=gE_ hiN;have hst:r.1.N[i].state=r.1.F[i].State:=by
   have:=congrArg (·[i]?) hr.zi.fs;unfold zS at this;rw [F9,F9,hfx,hnx] at this;exact (Option.some.inj this).symm
  have hre:=Yj hr om_ hfx hx;have hsm:=(hFt _ (GA hiF)).sm hb;have h1:=Zo (F:=r.1.F.take i);rw [HO] at h1;rw [Pc];simp only [Ao,dt_ hi,ct_,Am,hx,hnx,ob_,hre,hst,Ex hsm.e,Ex hsm.t,Bv hsm.v,Bv hsm.i,Bv hsm.x];rw [Aq om_,CY hiF];cases Sd r.1.F[i].State with
  | true=>rw [ct_,Av so_,if_pos rfl];rfl
  | false=>rw [cf_,if_neg smp_,G2];rfl) (λn v _=>by
  rw [Pc];simp only [Ao,df_ (JJ _),cf_]) FF 0 [] om_ uF rfl
 try dsimp only at h
 rw [n0] at h;rw [h,hv,HZ om_];rfl
theorem m13_any {c:Aa} {s:Ad} {most:Int} {r:Zt×List LG} (hc:Rc c) (hf:Fit c s) (hq:Qt c s) (h1:1<=most) (h2:most<=16384) (hr:Sr c s false most.toNat r) (h3:(zS r.1).length<=40) :
  (∃ d:Nat,Lg r.2 0 d/\m13 FF c s most=some ((d:Int),0))\/(Cy_ r.2 0/\m13 FF c s most=some (0,20)):=by
 have hS:=hr.sp3 om_;have hml:r.2.length=(zS r.1).length:=hS.fd.ml;have hle:(zS r.1).length<=120:=hS.le;have hp:0 < (zS r.1).length:=hS.pos;have h98:=Qz hc hf hq false h1 om_;rw [hr.eq] at h98;obtain ⟨m',g',h98,_⟩:=h98;obtain ⟨w1,w2,w3⟩:=fr_rep (g:=r.2);have hM:=M_ok hc.rt hS;obtain ⟨b,F',e1,e2⟩:=Xc hM (λl hl=>by have:=(hS.rows hc.rt.bd l hl).1;omega) om_ c.Actuators false most 0 c.Inputs c.Signals c.Plus c.Minus r.1.N m' g' FF (List.replicate r.2.length (-1)) 0 w1 om_ (by rw [w2];unfold FF;omega) (λj hj=>absurd hj (w3 j));obtain ⟨b',F'',e1',f1,f2⟩:=Ez hM FF (List.replicate r.2.length (-1)) 0 w1 om_ (by rw [w2];unfold FF;omega) (λj hj=>absurd hj (w3 j));rw [e1] at e1';obtain ⟨rfl,rfl⟩:b=b'/\F'=F'':=by simpa using e1'
 have hN:r.1.N.length=r.2.length:=by rw [hml,Ko]
 rw [n0] at e2;unfold m13;rw [h98,ob_];dsimp only;rw [zf,cf_,hN,C2 om_ om_,ob_,e2,ob_];cases b with
 | false=>exact .inr ⟨f2 rfl,rfl⟩
 | true=>
  obtain ⟨_,t2,d,t3,t4⟩:=f1 rfl;refine .inl ⟨d,t4,?_⟩;have:=Xk (G:=F') (i:=0) (by rw [t2.len];omega);rw [n0,t3] at this;dsimp only;rw [H1,cf_,this];rfl
theorem m14_any {c:Aa} {s:Ad} {most:Int} {r:Zt×List LG} (hc:Rc c) (hf:Fit c s) (hq:Qt c s) (h1:1<=most) (h2:most<=16384) (hr:Sr c s true most.toNat r) (h3:(zS r.1).length<=40) :
  m14 FF c s most=some (nvF (cA c) (bgi c true (zS r.1)),0):=by
 have hb:=hc.rt.bd;have h6:=hb.a';have h98:=Qz hc hf hq true h1 om_;rw [hr.eq] at h98;obtain ⟨m',g',h98,hG⟩:=h98;rw [hr.bg] at hG;unfold m14;rw [h98,ob_];dsimp only;rw [zf,cf_];obtain ⟨v,hv,h⟩:=Pi (L:=Pb FF c (0,c.Actuators,true,most,0,c.Inputs,c.Signals,c.Plus,c.Minus,r.1.N,m',r.2,g')) (mk:=λi (v:List Ab)=>((i:Int),v)) (N:=cA c) (I:=λi v=>v=nvF i (bgi c true (zS r.1))) (λn i v hi hI=>by
  subst hI;refine ⟨_,rfl,?_⟩;have hle:=nvF_len (n:=i) (B:=bgi c true (zS r.1));rw [Pb];dsimp only;obtain ⟨k,h4⟩:=Vr hG 0 c.Actuators true most 0 c.Inputs c.Signals c.Plus c.Minus r.1.N m' r.2 i (nvF i (bgi c true (zS r.1))) om_;rw [hb.a,Ao,dt_ hi,ct_,← hb.a,h4,ob_,Aq om_,Qm]) (λn v _=>by
  rw [Pb];dsimp only;rw [hb.a,Ao,df_ (JJ _),cf_]) FF 0 [] om_ uF rfl
 try dsimp only at h
 rw [n0] at h;rw [h,hv];rfl
def Rkz (c:Aa) (q:CasD) (s:Ad) (m:Nat):Prop:=(∃ k mv t,RunS c q s k mv t false/\m=(q.n - k) * 10 + cnm mv)\/(Jl c q s/\m=0)
variable {c:Aa} {q:CasD}
theorem Rkz.step (hc:CasP c q) (hs:SqP q) (hp:TmP q) (hA:q.A<=2) {s:Ad} {m:Nat} (h:Rkz c q s m) {x:Af} (hx:x∈pend s):∃ m',m' < m/\Rkz c q (aft c s x).1 m':=by
 rcases h with ⟨k,mv,t,h,rfl⟩ | ⟨h,rfl⟩
 ·obtain ⟨u,h1,h2⟩:=h.next hc hs hp hx;rw [h1];have hk:=h.hk;rcases h2 with ⟨a,t',ha,hm,h2⟩ | h2
  ·have:=cn_un (mv:=mv) (show a < 2 by omega) hm;exact ⟨(q.n - k) * 10 + cnm (CasD.un mv a),by omega,.inl ⟨_,_,_,h2,rfl⟩⟩
  ·rcases h2 with ⟨h2,h3⟩ | ⟨_,_,h2⟩
   ·have hnk:q.nk k=k + 1:=by
     unfold CasD.nk at h3 ⊢;by_cases e:k + 1 < q.n
     ·rw [if_pos e]
     ·rw [if_neg e] at h3;have:=h3 rfl;cases this
    rw [hnk] at h2;have:=cn_le (mv:=q.ms (k + 1));have hk2:=h2.hk;refine ⟨(q.n - (k + 1)) * 10 + cnm (q.ms (k + 1)),?_,.inl ⟨_,_,_,h2,rfl⟩⟩;omega
   ·exact ⟨0,by omega,.inr ⟨h2,rfl⟩⟩
 ·rw [h.pend hc] at hx;cases hx
theorem Wl.rk (hc:CasP c q) (hs:SqP q) (hp:TmP q) (hA:q.A<=2) {s0:Ad} {S:List Ad} {M:List LG} (hS:Sp_ c s0 ⟨S,M⟩) {a b n:Nat} (h:Wl M a b n):∀ {s:Ad} {m:Nat},S[a]?=some s->Rkz c q s m->∃ s' m',S[b]?=some s'/\Rkz c q s' m'/\m' + n<=m:=by
 induction h with
 | nil=>intro s m h1 h2;exact ⟨s,m,h1,h2,by omega⟩
 | @cons a b c' n e w ih=>
  intro s m h1 h2;obtain ⟨l,hl,hb⟩:=e;have hR:=hS.fd.row _ _ _ (FT.1 h1).1 h1 hl;obtain ⟨j,hj⟩:=HE hb;have hjl:=(FT.1 hj).1;rw [hR.len] at hjl;obtain ⟨_,k,g1,g2⟩:=hR.ev j _ (gE_ hjl);rw [hj] at g1;obtain ⟨m',h3,h4⟩:=h2.step hc hs hp hA (GA hjl);have hk:=Option.some.inj g1;have g2':S[k]?=some (aft c s (pend s)[j]).1:=g2;obtain rfl:b=k:=by omega
  obtain ⟨s',m2,h5,h6,h7⟩:=ih g2' h4;exact ⟨s',m2,h5,h6,by omega⟩
theorem Yv (hc':Rc c) (hc:CasP c q) (hs:SqP q) (hp:TmP q) (hA:q.A<=2) {s:Ad} {most:Int} {r:Zt×List LG} (hf:Fit c s) (hq:Qt c s) (h1:1<=most) (h2:most<=16384) (hr:Sr c s false most.toNat r) (h3:(zS r.1).length<=40) {mv:Nat->Bool} {t:Int} (h:RunS c q s 0 mv t false):∃ d:Nat,1<=d/\m13 FF c s most=some ((d:Int),0):=by
 have hS:=hr.sp3 om_;have hd:(zS r.1)[0]?=some s:=hr.hd;have hrk:Rkz c q s ((q.n - 0) * 10 + cnm mv):=.inl ⟨0,mv,t,h,rfl⟩;rcases m13_any hc' hf hq h1 h2 hr h3 with ⟨d,hL,hm⟩ | ⟨⟨x,n,m,w1,w2⟩,_⟩
 ·refine ⟨d,?_,hm⟩;have hml:r.2.length=(zS r.1).length:=hS.fd.ml;have hpos:0 < r.2.length:=by rw [hml];exact (FT.1 hd).1
  have hrow:=gE_ hpos;have hR:=hS.fd.row 0 _ _ (FT.1 hd).1 hd hrow;have hne:=h.pend_ne hc;have hlen:0 < r.2[0].length:=by
   rw [hR.len];exact J0.2 hne
  obtain ⟨_,k,g1,_⟩:=hR.ev 0 _ (gE_ (by rw [← hR.len];exact hlen));have:Wl r.2 0 k 1:=.cons ⟨_,hrow,GF g1⟩ .nil;exact hL.2 _ _ this
 ·exfalso;obtain ⟨s1,m1,e1,e2,_⟩:=w1.rk hc hs hp hA hS hd hrk;have:∀ (j:Nat) (u:Ad),(zS r.1)[x]?=some u->Rkz c q u j->False:=by
   intro j
   induction j using Nat.strongRecOn with
   | _ j ih=>
    intro u hu hj;obtain ⟨s2,m2,f1,f2,f3⟩:=w2.rk hc hs hp hA hS hu hj;exact ih m2 om_ s2 f1 f2
  exact this m1 s1 e1 e2
theorem A3 {s:Ad} (hc:Rc c) (hf:Fit c s) (hq:Qt c s):m18 FF c s=some (((pend s).length:Int) == 0,0):=by
 unfold m18;rw [Qx hc hf hq,ob_];rfl
theorem Nm (hc':Rc c) (hc:CasP c q) (hs:SqP q) {s:Ad} (h:Jl c q s):m9 FF c s=some ([0],0):=by
 have hb:Bs c q s _ _ _ _ _:=h.b;have hf:=hb.fit;have hq:Qt c s:=At_.qt hc h;obtain ⟨u,g1,_,g2⟩:=Kk hc hs h;have hu:=g2.at_.b.fit;have hq2:Qt c u:=g2.at_.qt hc;have hin:s.Inputs[0]?=some false:=by
  have h1:0 < s.Inputs.length:=by rw [hf.i,hc.i];omega
  have:=hb.i;rw [FU,gE_ h1] at this;rw [gE_ h1];exact congrArg some this
 have hil:s.Inputs.length=1:=by rw [hf.i,hc.i]
 obtain ⟨l,e1⟩:=Ki (x:=⟨2,0,true⟩) hc' hf hq;rw [g1] at e1;unfold m9;rw [A3 hc' hf hq,h.pend hc,ob_];dsimp only;rw [zf,cf_,show (!(((([]:List Af).length:Nat):Int) == 0))=false by rfl,cf_];have step:Td FF c s (99999 + 1) (((0:Nat):Int),[])=some (.brk (1,[0])):=by
  rw [Td];dsimp only;rw [hil,show decide (((0:Nat):Int) < ((1:Nat):Int))=true by rfl,ct_,Am,hin,ob_];show (m11 FF c s ⟨2,0,true⟩).bind _=_;rw [e1,ob_];dsimp only;rw [zf,cf_,A3 hc' hu hq2,ob_];dsimp only;have hne:=g2.pend_ne hc;have hb0:(((pend u).length:Int) == 0)=false:=by
   rw [beq_eq_false_iff_ne];have:=J0.2 hne;omega
  rw [zf,cf_,hb0,JL,ct_,Av smp_,ob_,ob_,Aq om_];show Td FF c s (99998 + 1) ((1:Int),[0])=_;rw [Td];dsimp only;rw [hil,show decide ((1:Int) < ((1:Nat):Int))=false by rfl,cf_]
 show ((Td FF c s (99999 + 1) (((0:Nat):Int),[])).bind _)=_;rw [step];rfl
end Go.Pn
namespace Go.Pn
open Go
open Csc
theorem CG:m6 FF=some true:=by kernel_rfl
theorem D7 (s:Ai):∃ b,m4 FF s=some b:=by
 unfold m4;by_cases h:s.Steps.length > 128
 ·rw [dt_ (by omega:(s.Steps.length:Int) > 128),ct_];exact ⟨_,rfl⟩
 ·rw [df_ (by omega:¬ (s.Steps.length:Int) > 128),cf_];have h1:=Gz (L:=Yq s) (N:=s.Steps.length) (Q:=λi=>match s.Steps[i]? with | some x=>decide ((x.Strokes.length:Int) > 40) | none=>false) (r:=λ_=>false) (λn i hi=>by
   rw [Yq,Ao,dt_ hi,ct_,Am,gE_ hi,ob_,Aq om_]) (λn=>by
   rw [Yq,Ao,df_ om_,cf_]) FF 0 om_ uF
  rw [n0] at h1;rcases h1 with ⟨_,_,_,_,h1⟩ | ⟨h1,_⟩ <;> rw [h1] <;> exact ⟨_,rfl⟩
theorem has0:m10 FF [0] 0=some true:=by kernel_rfl
theorem EE {s:Ai} (h:Sq5 s) (h0:m5 FF s=some 0):m7 FF s=some (cbl s,0):=by
 have h4:=h.toSq4;have hn:=h.n4;have hA:=h.A2;have hG:=h.G64;have hc:=Mw (s:=s) (k:=n s);have hs:s.Steps.length=n s:=rfl;unfold m7 m23;rw [h0,ob_,zf,cf_,Di h4,ob_,Qw h4,ob_,Xb h4,ob_,Dy,hs,h4.Ac];rw [Ar (x:=(G s:Int) + (cts s (n s):Int)) om_ om_,Ar (x:=(G s:Int) + (cts s (n s):Int) + (n s:Int)) om_ om_,Ar (x:=2 * (A s:Int)) om_ om_,Ar om_ om_,df_ om_,cf_,ob_,zf,cf_,DY h4];rfl
theorem CX {s:Ai} (h:Sq5 s):∃ u l,m8 FF (cbl s)=some (u,0,l)/\Jl (cbl s) (dat s) u:=by
 have hc':=EV h;have hc:=h.q.cas (N:=nmS) (i:=⟨#[115,116,97,114,116]⟩);have hs:=h.q.sq;have hb:=(h.q.ini (N:=nmS) (i:=⟨#[115,116,97,114,116]⟩) (Vu hc'.rt)).gates hc;have hR:=Wm hc hs;obtain ⟨u,g1,g2,_⟩:=idle_ hc hs hb (.fix hR.fM hR.fT hR.fn) om_;have h8:=m8_spec hc';rw [g1] at h8;obtain ⟨l,h8,_⟩:=h8;exact ⟨u,l,h8,g2⟩
theorem sd_idle {c:Aa} {q:CasD} (hc:CasP c q) {t:Ad} (h:Cst c q t) (hd:Sd t=true):Jl c q t:=by
 rcases h with ⟨k,mv,t',st,h⟩ | h
 ·exfalso;have hne:=h.pend_ne hc;unfold Sd at hd;have:=J0.2 hne;have hd:((pend t).length:Int)=0:=by simpa using hd
  omega
 ·exact h
theorem idle_sd {c:Aa} {q:CasD} (hc:CasP c q) {t:Ad} (h:Jl c q t):Sd t=true:=by
 unfold Sd;rw [h.pend hc];rfl
theorem nvF_nil {n:Nat} {B:List Ab} (h:∀ a,a < n->∀ w,(⟨(a:Int),w⟩:Ab)∈B):nvF n B=[]:=by
 induction n with
 | zero=>rfl
 | succ n ih=>
  rw [Qm,ih λa ha=>h a om_];unfold nv1;rw [if_pos (h n om_ false),if_pos (h n om_ true)];rfl
theorem Rx (s:Ai):m3 FF s=some true:=by
 unfold m3;obtain ⟨b,hb⟩:=D7 s;obtain ⟨e,he,hst⟩:=m5_spec s;rw [hb,ob_];by_cases hx:(((!b) || (decide ((s.Steps.length:Int) > 4))) || (decide (s.Actuators > 2)))=true
 ·rw [hx,ct_,ob_,ct_,CG];rfl
 ·have hx':(((!b) || (decide ((s.Steps.length:Int) > 4))) || (decide (s.Actuators > 2)))=false:=by simpa using hx
  rw [hx',cf_,he,ob_,ob_];by_cases h0:e=0
  ·subst h0;rw [zf,cf_];rw [H6,H6,decide_eq_false_iff_not,decide_eq_false_iff_not] at hx';obtain ⟨hq,hn,hk⟩:=hst rfl;have h5:Sq5 s:=⟨⟨hq,hn,hk⟩,by unfold Csc.n;omega,by unfold A;omega⟩;have hc':=EV h5;have hc:=hq.cas (N:=nmS) (i:=⟨#[115,116,97,114,116]⟩);have hs:=hq.sq;have hp:TmP (dat s):=Sqc.tmp;have hA:(dat s).A<=2:=h5.A2;have hn4:(dat s).n<=4:=h5.n4;obtain ⟨u0,l0,e0,i0⟩:=CX h5;obtain ⟨u1,g1,_,r1⟩:=Kk hc hs i0;obtain ⟨u2,g2,_,r2⟩:=ev_in hc hs r1;have g2:aft (cbl s) u1 ⟨2,0,false⟩=(u2,0):=g2;have r2:RunS (cbl s) (dat s) u2 0 ((dat s).ms 0) 0 false:=r2;have b0:Bs (cbl s) (dat s) u0 _ _ _ _ _:=i0.b;have f1:=r1.at_.b.fit;have q1:=r1.at_.qt hc;have f2:=r2.at_.b.fit;have q2:=r2.at_.qt hc;rw [EE h5 he,ob_];dsimp only;rw [zf,cf_,e0,ob_,Nm hc' hc hs i0,ob_];dsimp only;rw [show (((0:Int) != 0) || ((0:Int) != 0))=false by rfl,cf_,has0,ob_,ob_,nt_,cf_];obtain ⟨la1,n1⟩:=Ki (x:=⟨2,0,true⟩) hc' b0.fit (At_.qt hc i0);obtain ⟨la2,n2⟩:=Ki (x:=⟨2,0,false⟩) hc' f1 q1;rw [g1] at n1;rw [g2] at n2;have loop:Nf FF (cbl s,0) FF ((0:Int),(0:Int),u0)=some (.brk ((0:Int),(2:Int),u2)):=by
    show Nf FF (cbl s,0) (99999 + 1) ((0:Int),((0:Nat):Int),u0)=_;rw [Nf];dsimp only;rw [show decide (((0:Nat):Int) < (([true,false]:LH).length:Int))=true by rfl,ct_,Am,show ([true,false]:LH)[0]?=some true by rfl,ob_,n1,ob_];dsimp only;rw [zf,cf_,Aq om_];show Nf FF (cbl s,0) (99998 + 1) ((0:Int),((1:Nat):Int),u1)=_;rw [Nf];dsimp only;rw [show decide (((1:Nat):Int) < (([true,false]:LH).length:Int))=true by rfl,ct_,Am,show ([true,false]:LH)[1]?=some false by rfl,ob_,n2,ob_];dsimp only;rw [zf,cf_,Aq om_];show Nf FF (cbl s,0) (99997 + 1) ((0:Int),((2:Nat):Int),u2)=_;rw [Nf];dsimp only;rw [show decide (((2:Nat):Int) < (([true,false]:LH).length:Int))=false by rfl,cf_];rfl
   rw [loop,ob_];dsimp only
   -- the searches
   have few:∀ S:List Ad,Nd S->(∀ t∈S,Cst (cbl s) (dat s) t)->S.length<=33:=λS h1 h2=>Cst.few hc hA hn4 S h1 h2;obtain ⟨rA,sA,ndA,pA⟩:=srF_P (p:=false) (most:=300) few om_ om_ (λt ht=>ht.clo hc hs hp) (.inl ⟨_,_,_,_,r2⟩) f2 q2;obtain ⟨rB,sB,ndB,pB⟩:=srF_P (p:=true) (most:=300) few om_ om_ (λt ht=>ht.clo hc hs hp) (.inl ⟨_,_,_,_,r2⟩) f2 q2;have lA:=few _ ndA pA;have lB:=few _ ndB pB;have hm:(300:Int).toNat=300:=rfl;have hAl:=m12_any (most:=300) hc' f2 q2 om_ om_ (by rw [hm];exact sA) om_;obtain ⟨d,hd1,hLo⟩:=Yv (most:=300) hc' hc hs hp hA f2 q2 om_ om_ (by rw [hm];exact sA) om_ r2;have hNe:=m14_any (most:=300) hc' f2 q2 om_ om_ (by rw [hm];exact sB) om_;have clA:∀ t∈zS rA.1,∀ x∈tld false t,(aft (cbl s) t x).1∈zS rA.1:=λt ht x hx=>(sA.cl t ht x hx).2;have clB:∀ t∈zS rB.1,∀ x∈tld true t,(aft (cbl s) t x).1∈zS rB.1:=λt ht x hx=>(sB.cl t ht x hx).2;have memA:u2∈zS rA.1:=GF sA.hd;have memB:u2∈zS rB.1:=GF sB.hd;obtain ⟨_,_,v,hv,hvi⟩:=Ud hc hs hp hA clA r2 memA;have hall:∀ x∈stF rA.1.F,Jl (cbl s) (dat s) x:=λx hx=>by
    unfold stF at hx;obtain ⟨f,hf,rfl⟩:=GE.1 hx;obtain ⟨hf1,hf2⟩:=HC.1 hf;refine sd_idle hc (pA _ ?_) hf2;rw [← sA.zi.fs];exact GE.2 ⟨f,hf1,rfl⟩
   have hne:(stF rA.1.F).length≠0:=by
    intro hz;have hz:=HB hz;rw [← sA.zi.fs] at hv;obtain ⟨f,hf,rfl⟩:=GE.1 hv;have:f.State∈stF rA.1.F:=by
     unfold stF;exact GE.2 ⟨f,HC.2 ⟨hf,idle_sd hc hvi⟩,rfl⟩
    rw [hz] at this;cases this
   have hlen:(stF rA.1.F).length<=100:=by
    have h1:=Zo (F:=rA.1.F);have h2:rA.1.F.length=(zS rA.1).length:=by rw [← sA.zi.fs];simp
    omega
   have hnev:nvF (cA (cbl s)) (bgi (cbl s) true (zS rB.1))=[]:=nvF_nil λa ha w=>by
    have hne:=at_ne hq (show a < A s from ha) w;obtain ⟨k,hk⟩:=KW _ hne;unfold CasD.at_ at hk;rw [HC,F6] at hk;exact CJ hc hs hp hA clB r2 memB hk.1 (of_decide_eq_true hk.2)
   have loop2:Vd FF (cbl s,0) (stF rA.1.F,0) FF (0:Int)=some (.brk ((stF rA.1.F).length:Int)):=by
    have h1:=Gz (L:=Vd FF (cbl s,0) (stF rA.1.F,0)) (N:=(stF rA.1.F).length) (Q:=λ_=>false) (r:=λ_=>false) (λn i hi=>by
     have hx:=gE_ hi;rw [Vd];dsimp only;rw [Ao,dt_ hi,ct_,Am,hx,ob_,Nm hc' hc hs (hall _ (GA hi)),ob_];dsimp only;rw [zf,cf_,has0,ob_,ob_,nt_,cf_,Aq om_];rfl) (λn=>by
     rw [Vd];dsimp only;rw [Ao,df_ om_,cf_]) FF 0 om_ uF
    rw [n0] at h1;rcases h1 with ⟨_,_,_,hq,_⟩ | ⟨h1,_⟩
    ·cases hq
    ·exact h1
   rw [hAl,ob_,hLo,ob_];dsimp only;rw [show (((0:Int) != 0) || ((0:Int) != 0))=false by rfl,HX,show (((stF rA.1.F).length:Int) == 0)=false by rw [beq_eq_false_iff_ne];omega,HX,df_ om_,cf_,loop2,ob_];dsimp only;rw [hNe,ob_,hnev];dsimp only;rw [show ((((0:Int) == 0) && ((([]:List Ab).length:Int) == 0)) || ((0:Int) == 12))=true by rfl,ct_,CG];rfl
  ·rw [show (e != 0)=true by simpa using h0,ct_,CG];rfl
end Go.Pn

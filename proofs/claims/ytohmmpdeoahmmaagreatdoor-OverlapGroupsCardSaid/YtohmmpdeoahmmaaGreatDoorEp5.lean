import Derived.Test.YtohmmpdeoahmmaaGreatDoorEp4
set_option synthInstance.checkSynthOrder false
set_option synthInstance.maxSize 10000
set_option synthInstance.maxHeartbeats 400000
set_option maxRecDepth 100000
set_option maxHeartbeats 4000000
set_option linter.unusedVariables false
set_option linter.unusedSimpArgs false
set_option linter.defProp false
namespace Go.Pn
open Go Go.RowKit
theorem Kn.put {c:Aa} {S:List Ad} {m:List (Key×Int)} {t:Ad} {k:Key} (hb:Bd_ c) (h:Kn c S m) (ht:Fit c t) (hk:UF FF t=some k) (hn:S.findIdx? (λx=>bf t x)=none):Kn c (S ++ [t]) (Pg Bv m k (S.length:Int)):=by
 intro s hs j hj;rw [C0,List.findIdx?_append];by_cases e:s=t
 ·subst e;rw [hk] at hj;obtain rfl:=Option.some.inj hj;rw [if_pos (Sq.2 rfl),hn];simp [Eg]
 ·have hne:¬ Bv j k=true:=λe2=>by
   have:=Sq.1 e2;subst this;exact e (f9 hb hs ht hj hk)
  have hst:bf s t=false:=by
   cases hx:bf s t with
   | false=>rfl
   | true=>exact absurd (Eh.1 hx) e
  rw [if_neg hne,h s hs j hj];cases S.findIdx? (λx=>bf s x) with
  | some q=>rfl
  | none=>simp [hst]
def Lm (c:Aa) (most:Nat) (s:Ad):List Af->List Ad->QP->Int ⊕ (List Ad×QP)
 | [],S,mv=>.inr (S,mv)
 | x :: l,S,mv=>if (ai c s x).2=0 then (if cX S (ai c s x).1 < 0 then (if S.length=most then .inl 12 else Lm c most s l (S ++ [(ai c s x).1]) (mv ++ [(S.length:Int)])) else Lm c most s l S (mv ++ [cX S (ai c s x).1])) else .inl (ai c s x).2
def Wg (c:Aa) (most:Nat):Nat->Nat->List Ad->List QP->Int ⊕ Ah
 | 0,_,_,_=>.inl 99
 | n + 1,i,S,M=>match S[i]? with
  | none=>.inr ⟨S,M⟩
  | some s=>match Lm c most s (pend s) S [] with
   | .inl e=>.inl e
   | .inr r=>Wg c most n (i + 1) r.1 (M ++ [r.2])
def Al (c:Aa) (S:List Ad):Prop:=∀ s∈S,Fit c s/\Qt c s
theorem HO {c:Aa} {s:Ad} {x:Af} (hf:Fit c s) (h:(ai c s x).2=0):Fit c (ai c s x).1/\Qt c (ai c s x).1:=by
 unfold ai at h ⊢;by_cases hk:x.Kind < 0\/3<=x.Kind
 ·rw [if_pos hk] at h;cases h
 ·rw [if_neg hk] at h ⊢;cases ha:bB s x with
  | none=>rw [ha] at h;cases h
  | some s'=>
   rw [ha] at h;dsimp only at h ⊢;cases ht:rst c 65 s' with
   | none=>rw [ht] at h;cases h
   | some t=>
    have:=Wl (Jm hf ha) ht;exact ⟨this.1,this.2.2⟩
theorem Pv {c:Aa} {most:Nat} {s:Ad} (hf:Fit c s):∀ (l:List Af) (S:List Ad) (mv:QP) {r:List Ad×QP},Al c S->S.length<=most->Lm c most s l S mv=.inr r ->
  Al c r.1/\r.1.length<=most/\r.2.length=mv.length + l.length/\∃ X,r.1=S ++ X
 | [],S,mv,r,h1,h2,h=>by
  unfold Lm at h;obtain rfl:=Sum.inr.inj h;exact ⟨h1,h2,rfl,[],by simp⟩
 | x :: l,S,mv,r,h1,h2,h=>by
  unfold Lm at h;split at h
  ·rename_i h0;split at h
   ·split at h
    ·cases h
    ·let ⟨a1,a2,a3,X,a4⟩:=Pv hf l _ _ (λt ht=>by
      rcases MC.1 ht with ht | ht
      ·exact h1 t ht
      ·obtain rfl:t=_:=by simpa using ht
       exact HO hf h0) ay h
     refine ⟨a1,a2,by rw [a3];simp;omega,(ai c s x).1 :: X,by rw [a4];simp⟩
   ·let ⟨a1,a2,a3,X,a4⟩:=Pv hf l _ _ h1 h2 h;exact ⟨a1,a2,by rw [a3];simp;omega,X,a4⟩
  ·cases h
theorem Wq {S:List Ad} {t:Ad} (h:¬ cX S t < 0):∃ j,j < S.length/\cX S t=(j:Int)/\S.findIdx? (λx=>bf t x)=some j:=by
 unfold cX at h ⊢;cases hf:S.findIdx? (λx=>bf t x) with
 | none=>rw [hf] at h;simp at h
 | some j=>exact ⟨j,(MW.1 hf).1,rfl,rfl⟩
theorem EA {S:List Ad} {t:Ad} (h:cX S t < 0):S.findIdx? (λx=>bf t x)=none:=by
 unfold cX at h;cases hf:S.findIdx? (λx=>bf t x) with
 | none=>rfl
 | some j=>rw [hf] at h;simp at h;omega
abbrev mI:Ah:=⟨[],[]⟩
theorem Hu {c:Aa} (hc:Rt c) {most:Nat} (hmo:most<=16384) {s:Ad} (hf:Fit c s) (i0:Nat) (z6:Int×List Ad×List QP) (hz:z6.1=i0) (x9:Ad) (l:List Af) (hl:l.length<=2000) :
  ∀ (k n j:Nat) (S:List Ad) (mv:QP),j + k=l.length->k < n->Al c S->S.length<=most->S[i0]?=some s->mv.length<=j ->
   match Lm c most s (l.drop j) S mv with
   | .inl e=>Nn FF c (most:Int) z6 x9 l n ((j:Int),S,mv)=some (.ret (mI,e))
   | .inr r=>Nn FF c (most:Int) z6 x9 l n ((j:Int),S,mv)=some (.brk ((l.length:Int),r.1,r.2))
 | _,0,_,_,_,_,h,_,_,_,_=>by omega
 | 0,n + 1,j,S,mv,h1,_,_,_,_,_=>by
  obtain rfl:j=l.length:=by omega
  rw [List.drop_length];unfold Lm Nn;dsimp only;rw [Am,aq aa,ae]
 | k + 1,n + 1,j,S,mv,h1,h2,hA,hS,hi,hm=>by
  have hb:=hc.bd;have hj:j < l.length:=by omega
  rw [MN hj];unfold Lm Nn;dsimp only;let ⟨q,e1⟩:=Ye (x:=l[j]) hc hf;rw [Am,ar hj,af,hz,Ak,hi,ab,Ak,ak hj,ab,e1,ab];dsimp only;by_cases h0:(ai c s l[j]).2=0
  ·have hfa:=HO hf h0;rw [if_pos h0,h0,bc,ae,GJ (n:=1000) (λx hx=>(hA x hx).1.sm hb) uF aa uF aa,ab,An aa];by_cases hp:cX S (ai c s l[j]).1 < 0
   ·rw [if_pos hp,ar hp,af];by_cases hM:S.length=most
    ·rw [if_pos hM,show ((S.length:Int) == (most:Int))=true by rw [Cm];simpa using hM,af]
    ·rw [if_neg hM,show ((S.length:Int) == (most:Int))=false by rw [Cm];simpa using hM,ae,Ar ay,ab,Ar ay,ab];exact Hu hc hmo hf i0 z6 hz x9 l hl k n (j + 1) _ _ aa aa (λt ht=>by
      rcases MC.1 ht with ht | ht
      ·exact hA t ht
      ·obtain rfl:t=_:=by simpa using ht
       exact hfa) ay (by rw [L2 (LU.1 hi).1];exact hi) ay
   ·rw [if_neg hp,aq hp,ae,Ar ay,ab];exact Hu hc hmo hf i0 z6 hz x9 l hl k n (j + 1) _ _ aa aa hA hS hi ay
  ·rw [if_neg h0,show ((ai c s l[j]).2 != 0)=true by simpa using h0,af]
theorem Qi {c:Aa} (hc:Rt c) {most:Nat} (hmo:most<=16384):∀ (n i:Nat) (S:List Ad) (M:List QP),Al c S->S.length<=most->i<=S.length->most < n + i->M.length=i ->
  match Wg c most n i S M with
  | .inl e=>Tp FF c (most:Int) n ((i:Int),S,M)=some (.ret (mI,e))
  | .inr sp=>∃ z,Tp FF c (most:Int) n ((i:Int),S,M)=some (.brk (z,sp.States,sp.Moves))
 | 0,i,S,M,_,h1,h2,h3,_=>by omega
 | n + 1,i,S,M,hA,h1,h2,h3,hM=>by
  have hb:=hc.bd;unfold Wg Tp;dsimp only;by_cases hi:i < S.length
  ·have hs:S[i]?=some S[i]:=ak hi;let ⟨hf,hq⟩:=hA S[i] (MA hi);have hpl:=Oz (hf.sm hb);rw [hs,Am,ar hi,af,Ak,hs,ab,Yf (hf.sm hb),ab];have h:=Hu hc hmo hf i ((i:Int),S,M) rfl S[i] (pend S[i]) hpl (pend S[i]).length FF 0 S [] aa uF hA h1 hs ah;rw [n0,MY] at h;dsimp only;cases hx:Lm c most S[i] (pend S[i]) S [] with
   | inl e=>rw [hx] at h;rw [h];rfl
   | inr r=>
    rw [hx] at h;let ⟨a1,a2,a3,X,a4⟩:=Pv hf _ _ _ hA h1 hx;rw [h,ab];dsimp only;rw [Ar ay,ab,An aa];exact Qi hc hmo n (i + 1) r.1 _ a1 a2 (by rw [a4];simp;omega) aa (by simp [hM])
  ·rw [M5 aa,Am,aq hi,ae];exact ⟨_,rfl⟩
theorem Zv {c:Aa} (hb:Bd_ c) {t:Ad} (ht:Fit c t) {S:List Ad} {m:List (Key×Int)} {mv:QP} (hS:S.length<=16384) (hmv:mv.length<=10000) (hK:Kn c S m) (v3:List QP) :
  if cX S t < 0 then (if S.length=16384 then Ra FF t m S v3 mv=some (12,m,S,mv) else ∃ m',Ra FF t m S v3 mv=some (0,m',S ++ [t],mv ++ [(S.length:Int)])/\Kn c (S ++ [t]) m') else Ra FF t m S v3 mv=some (0,m,S,mv ++ [cX S t]):=by let ⟨k,hk,_⟩:=Ko hb ht;have hm:=hK t ht k hk;unfold Ra;rw [hk,ab,hm];by_cases hp:cX S t < 0;have hn:=EA hp;rw [if_pos hp,hn];simp only [PA,Option.isSome_none,O0,af];by_cases hM:S.length=16384;rw [if_pos hM,show ((S.length:Int) == 16384)=true by simp;omega,af];rw [if_neg hM,show ((S.length:Int) == 16384)=false by simp;omega,ae,Ar ay,ab,Ar ay,ab];exact ⟨_,rfl,hK.put hb ht hk hn⟩;let ⟨j,hj,hpj,hfj⟩:=Wq hp;rw [if_neg hp,hfj];simp only [Option.map_some,Option.isSome_some,OC,ae,N7];rw [Ar ay,ab,hpj]
theorem Dn {c:Aa} (hc:Rc c) {s:Ad} (hf:Fit c s) (hq:Qt c s) (v4:List QP) (x1:Int×List Af) (hl:x1.2.length<=2000) :
  ∀ (k n j:Nat) (S:List Ad) (mv:QP) (m:List (Key×Int)),j + k=x1.2.length->k < n->Al c S->S.length<=16384->mv.length<=j->Kn c S m ->
   match Lm c 16384 s (x1.2.drop j) S mv with
   | .inl e=>∃ q,Cr FF c s v4 x1 n ((j:Int),m,S,mv)=some (.ret (e,q))/\e≠0
   | .inr r=>∃ z m',Cr FF c s v4 x1 n ((j:Int),m,S,mv)=some (.brk (z,m',r.1,r.2))/\Kn c r.1 m'
 | _,0,_,_,_,_,_,h,_,_,_,_=>by omega
 | 0,n + 1,j,S,mv,m,h1,_,_,_,_,hK=>by
  obtain rfl:j=x1.2.length:=by omega
  rw [List.drop_length];unfold Lm Cr;dsimp only;rw [Am,aq aa,ae];exact ⟨_,m,rfl,hK⟩
 | k + 1,n + 1,j,S,mv,m,h1,h2,hA,hS,hm,hK=>by
  have hb:=hc.rt.bd;have hj:j < x1.2.length:=by omega
  rw [MN hj];unfold Lm Cr;dsimp only;let ⟨q,e1⟩:=BS (x:=x1.2[j]) hc hf hq;rw [Am,ar hj,af,Ak,ak hj,ab,e1,ab];dsimp only;by_cases h0:(ai c s x1.2[j]).2=0
  ·have hfa:=HO hf h0;rw [if_pos h0,h0,bc,ae];have h90:=Zv hb hfa.1 hS (mv:=mv) aa hK v4;by_cases hp:cX S (ai c s x1.2[j]).1 < 0
   ·rw [if_pos hp] at h90 ⊢;by_cases hM:S.length=16384
    ·rw [if_pos hM] at h90 ⊢;rw [h90];exact ⟨_,rfl,by omega⟩
    ·rw [if_neg hM] at h90 ⊢;let ⟨m',h90,hK'⟩:=h90;rw [h90,ab];dsimp only;rw [bc,ae,An aa];exact Dn hc hf hq v4 x1 hl k n (j + 1) _ _ m' aa aa (λt ht=>by
      rcases MC.1 ht with ht | ht
      ·exact hA t ht
      ·obtain rfl:t=_:=by simpa using ht
       exact hfa) ay ay hK'
   ·rw [if_neg hp] at h90 ⊢;rw [h90,ab];dsimp only;rw [bc,ae,An aa];exact Dn hc hf hq v4 x1 hl k n (j + 1) _ _ m aa aa hA hS ay hK
  ·rw [if_neg h0,show ((ai c s x1.2[j]).2 != 0)=true by simpa using h0,af];exact ⟨_,rfl,h0⟩
theorem Oh {c:Aa} (hc:Rc c):∀ (n i:Nat) (S:List Ad) (M:List QP) (m:List (Key×Int)),Al c S->S.length<=16384->i<=S.length->16384 < n + i->M.length=i->Kn c S m ->
  match Wg c 16384 n i S M with
  | .inl e=>Mh FF c n ((i:Int),S,M,m)=some (.ret (mI,e))
  | .inr sp=>∃ z m',Mh FF c n ((i:Int),S,M,m)=some (.brk (z,sp.States,sp.Moves,m'))
 | 0,i,S,M,m,_,h1,h2,h3,_,_=>by omega
 | n + 1,i,S,M,m,hA,h1,h2,h3,hM,hK=>by
  have hb:=hc.rt.bd;unfold Wg Mh;dsimp only;by_cases hi:i < S.length
  ·have hs:S[i]?=some S[i]:=ak hi;let ⟨hf,hq⟩:=hA S[i] (MA hi);have hpl:=Oz (hf.sm hb);have h:=Dn hc hf hq M (0,pend S[i]) hpl (pend S[i]).length FF 0 S [] m (by dsimp only;omega) uF hA h1 ah hK;rw [n0,MY] at h;rw [hs,Am,ar hi,af,Ak,hs,ab];unfold BW;rw [BR hc hf hq,ab];dsimp only at h ⊢;rw [bc,ae];cases hx:Lm c 16384 S[i] (pend S[i]) S [] with
   | inl e=>
    rw [hx] at h;let ⟨q,h,he⟩:=h;rw [h,ab,ab];dsimp only;rw [show (e != 0)=true by simpa using he,af]
   | inr r=>
    rw [hx] at h;let ⟨a1,a2,a3,X,a4⟩:=Pv hf _ _ _ hA h1 hx;let ⟨z,m',h,hK'⟩:=h;rw [h,ab,ab];dsimp only;rw [bc,ae,Ar ay,ab,An aa];exact Oh hc n (i + 1) r.1 _ m' a1 a2 (by rw [a4];simp;omega) aa (by simp [hM]) hK'
  ·rw [M5 aa,Am,aq hi,ae];exact ⟨_,_,rfl⟩
theorem DN {c:Aa} {most:Nat}:∀ (n i:Nat) (S:List Ad) (M:List QP) {sp:Ah},Al c S->S.length<=most->M.length=i->i<=S.length->(∀ l∈M,l.length<=2000)->Bd_ c->Wg c most n i S M=.inr sp ->
  Al c sp.States/\sp.States.length<=most/\sp.Moves.length=sp.States.length/\(∀ l∈sp.Moves,l.length<=2000)/\∃ X,sp.States=S ++ X
 | 0,_,_,_,_,_,_,_,_,_,_,h=>by cases h
 | n + 1,i,S,M,sp,hA,h1,hM,hi,hR,hb,h=>by
  unfold Wg at h;cases hs:S[i]? with
  | none=>
   rw [hs] at h;obtain rfl:=Sum.inr.inj h;have:=List.getElem?_eq_none_iff.1 hs;exact ⟨hA,h1,by show M.length=S.length;omega,hR,[],by simp⟩
  | some s=>
   rw [hs] at h;dsimp only at h;have hf:=(hA s (L8 hs)).1;cases hx:Lm c most s (pend s) S [] with
   | inl e=>rw [hx] at h;cases h
   | inr r=>
    rw [hx] at h;let ⟨a1,a2,a3,X,a4⟩:=Pv hf _ _ _ hA h1 hx;have hil:=(LU.1 hs).1;let ⟨b1,b2,b3,b4,Y,b5⟩:=DN n (i + 1) r.1 _ a1 a2 (by simp [hM]) (by rw [a4];simp;omega) (λl hl=>by
     rcases MC.1 hl with hl | hl
     ·exact hR l hl
     ·obtain rfl:l=_:=by simpa using hl
      rw [a3];have:=Oz (hf.sm hb);simp;omega) hb h
    exact ⟨b1,b2,b3,b4,X ++ Y,by rw [b5,a4];simp⟩
def eD (c:Aa) (held:QQ) (most:Nat):Int ⊕ Ah:=Wg c most FF 0 [(Fn c held).1] []
theorem BX (c:Aa) (held:QQ):∃ b,ig FF c held=some b/\(b=true->Fw c/\(c.Signals.length<=16\/64 < c.Signals.length)/\held.length<=200/\(Rc c->held.length=c.Inputs.length->(Fn c held).2=0->eD c held 120≠.inl 12)):=by
 unfold ig;let ⟨b,hb,hfw⟩:=JR c;rw [hb,ab];cases b with
 | false=>rw [l8,PQ,af];exact ⟨false,rfl,by simp⟩
 | true=>
  let ⟨hw,hs⟩:=hfw rfl;rw [cE,N4];by_cases hl:((held.length:Int) > 200)
  ·rw [ar hl,af];exact ⟨false,rfl,by simp⟩
  ·rw [aq hl,ae];unfold mj;rcases CR hw hs held with ⟨e,he,h1,h2,h4⟩ | ⟨hc,hll,h1,h2,h3⟩
   ·rw [h2,ab];dsimp only;rw [show (e != 0)=true by simpa using he,af,ab];refine ⟨_,rfl,λ_=>⟨hw,hs,by omega,λhc hll h0=>?_⟩⟩;exact λ_=>h4 hc hll
   ·rw [h2,ab];try dsimp only
    by_cases h0:(Fn c held).2=0
    ·let ⟨hf,hq⟩:=h3 h0;have hA:Al c [(Fn c held).1]:=λt ht=>by
      obtain rfl:t=_:=by simpa using ht
      exact ⟨hf,hq⟩
     have hx:=Qi hc.rt (most:=120) aa FF 0 [(Fn c held).1] [] hA ah aa uF rfl;rw [n0] at hx;rw [h0,bc,ae];rw [show Wg c 120 FF 0 [(Fn c held).1] []=eD c held 120 from rfl] at hx;cases he:eD c held 120 with
     | inl e=>
      rw [he] at hx;rw [show (120:Int)=((120:Nat):Int) from rfl,hx];refine ⟨_,rfl,λhb=>⟨hw,hs,by omega,λ_ _ _ h12=>?_⟩⟩;obtain rfl:=Sum.inl.inj h12;simp at hb
     | inr sp=>
      rw [he] at hx;let ⟨z,hx⟩:=hx;rw [show (120:Int)=((120:Nat):Int) from rfl,hx];exact ⟨_,rfl,λhb=>⟨hw,hs,by omega,λ_ _ _ h12=>by cases h12⟩⟩
    ·rw [show ((Fn c held).2 != 0)=true by simpa using h0,af];exact ⟨_,rfl,λ_=>⟨hw,hs,by omega,λ_ _ h=>absurd h h0⟩⟩
structure Xr (c:Aa) (s:Ad) (l:List Af) (S:List Ad) (R:List Ad) (Y:QP):Prop where
 app:∃ X,R=S ++ X
 len:Y.length=l.length
 ev:∀ (j:Nat) x,l[j]?=some x->(ai c s x).2=0/\∃ k:Nat,Y[j]?=some (k:Int)/\R[k]?=some (ai c s x).1
 new:∀ k,S.length<=k->k < R.length->(k:Int)∈Y
def Nd (S:List Ad):Prop:=∀ (i j:Nat) s,S[i]?=some s->S[j]?=some s->i=j
theorem Nd.put {S:List Ad} {t:Ad} (h:Nd S) (hn:S.findIdx? (λx=>bf t x)=none):Nd (S ++ [t]):=by (rw [NC] at hn;have hno:∀ (i:Nat),S[i]?≠some t:=λi hi=>by have:=hn t (L8 hi);rw [Eg] at this;cases this);(have hg:∀ (i:Nat) s,(S ++ [t])[i]?=some s->S[i]?=some s\/(i=S.length/\s=t):=λi s hs=>by (rcases M7 i S.length with h1 | h1);rw [L2 h1] at hs;exact .inl hs;(rw [LX h1] at hs;rcases NE h1 with h2 | h2);subst h2;simp at hs;exact .inr ⟨rfl,hs.symm⟩;rw [M5 ay] at hs;cases hs);(intro i j s hi hj;rcases hg i s hi with h1 | ⟨h1,h2⟩ <;> rcases hg j s hj with h3 | ⟨h3,h4⟩);exact h i j s h1 h3;subst h4;exact absurd h1 (hno i);subst h2;exact absurd h3 (hno j);omega
theorem Ze {c:Aa} {most:Nat} {s:Ad}:∀ (l:List Af) (S:List Ad) (mv:QP) {r:List Ad×QP},Nd S->Lm c most s l S mv=.inr r->∃ Y,r.2=mv ++ Y/\Xr c s l S r.1 Y/\Nd r.1
 | [],S,mv,r,hN,h=>by
  unfold Lm at h;obtain rfl:=Sum.inr.inj h;exact ⟨[],by simp,⟨⟨[],by simp⟩,rfl,λj x hx=>by simp at hx,λk h1 h2=>by dsimp only at h2;omega⟩,hN⟩
 | x :: l,S,mv,r,hN,h=>by
  unfold Lm at h;by_cases h0:(ai c s x).2=0
  ·rw [if_pos h0] at h;by_cases hp:cX S (ai c s x).1 < 0
   ·rw [if_pos hp] at h;by_cases hM:S.length=most
    ·rw [if_pos hM] at h;cases h
    ·rw [if_neg hM] at h;let ⟨Y,e1,⟨⟨X,e2⟩,e3,e4,e5⟩,e6⟩:=Ze l _ _ (hN.put (EA hp)) h;refine ⟨(S.length:Int) :: Y,by rw [e1];simp,⟨⟨(ai c s x).1 :: X,by rw [e2];simp⟩,by simp [e3],λj y hy=>?_,λk h1 h2=>?_⟩,e6⟩
     ·cases j with
      | zero=>
       obtain rfl:x=y:=by simpa using hy
       exact ⟨h0,S.length,rfl,by rw [e2];simp⟩
      | succ j=>
       let ⟨a,k,b,d⟩:=e4 j y (by simpa using hy);exact ⟨a,k,by simpa using b,d⟩
     ·by_cases hk:k=S.length
      ·subst hk;simp
      ·exact M8 _ (e5 k ay h2)
   ·rw [if_neg hp] at h;let ⟨q,hq,hq2,hq3⟩:=Wq hp;let ⟨Y,e1,⟨⟨X,e2⟩,e3,e4,e5⟩,e6⟩:=Ze l _ _ hN h;refine ⟨(q:Int) :: Y,by rw [e1,hq2];simp,⟨⟨X,e2⟩,by simp [e3],λj y hy=>?_,λk h1 h2=>M8 _ (e5 k h1 h2)⟩,e6⟩;cases j with
    | zero=>
     obtain rfl:x=y:=by simpa using hy
     refine ⟨h0,q,rfl,?_⟩;let ⟨g1,g2,_⟩:=MW.1 hq3;rw [e2,L2 g1,ak g1,← Eh.1 g2]
    | succ j=>
     let ⟨a,k,b,d⟩:=e4 j y (by simpa using hy);exact ⟨a,k,by simpa using b,d⟩
  ·rw [if_neg h0] at h;cases h
structure Rwm (c:Aa) (S:List Ad) (s:Ad) (mv:QP):Prop where
 len:mv.length=(pend s).length
 ev:∀ (j:Nat) x,(pend s)[j]?=some x->(ai c s x).2=0/\∃ k:Nat,mv[j]?=some (k:Int)/\S[k]?=some (ai c s x).1
theorem Rwm.app {c:Aa} {S X:List Ad} {s:Ad} {mv:QP} (h:Rwm c S s mv):Rwm c (S ++ X) s mv:=
 ⟨h.len,λj x hx=>by
  let ⟨a,k,b,d⟩:=h.ev j x hx;exact ⟨a,k,b,by rw [L2 (LU.1 d).1];exact d⟩⟩
structure qa (c:Aa) (s0:Ad) (i:Nat) (S:List Ad) (M:List QP):Prop where
 ml:M.length=i
 il:i<=S.length
 hd:S[0]?=some s0
 nd:Nd S
 row:∀ (j:Nat) s mv,j < i->S[j]?=some s->M[j]?=some mv->Rwm c S s mv
 par:∀ k,0 < k->k < S.length->∃ p mv,p < k/\M[p]?=some mv/\(k:Int)∈mv
theorem DO {c:Aa} {s0:Ad} {most:Nat}:∀ (n i:Nat) (S:List Ad) (M:List QP) {sp:Ah},qa c s0 i S M->Wg c most n i S M=.inr sp->qa c s0 sp.States.length sp.States sp.Moves
 | 0,_,_,_,_,_,h=>by cases h
 | n + 1,i,S,M,sp,hF,h=>by
  unfold Wg at h;cases hs:S[i]? with
  | none=>
   rw [hs] at h;obtain rfl:=Sum.inr.inj h;have h1:=List.getElem?_eq_none_iff.1 hs;have h2:=hF.il;have:i=S.length:=by omega
   subst this;exact hF
  | some s=>
   rw [hs] at h;try dsimp only at h
   cases hx:Lm c most s (pend s) S [] with
   | inl e=>rw [hx] at h;cases h
   | inr r=>
    rw [hx] at h;let ⟨Y,e1,⟨⟨X,e2⟩,e3,e4,e5⟩,e6⟩:=Ze _ _ _ hF.nd hx;have hil:=(LU.1 hs).1;have e1:r.2=Y:=by simpa using e1
    refine DO n (i + 1) r.1 _ ⟨by simp [hF.ml],by rw [e2];simp;omega,?_,e6,?_,?_⟩ h
    ·rw [e2,L2 aa];exact hF.hd
    ·intro j t mv hj ht hm;by_cases hji:j=i
     ·subst hji;rw [LX (by rw [hF.ml];omega),hF.ml,PB] at hm;have hm:r.2=mv:=by simpa using hm
      rw [e2,L2 hil,hs] at ht;obtain rfl:=Option.some.inj ht;rw [← hm,e1];exact ⟨e3,e4⟩
     ·have hj2:j < i:=by omega
      rw [L2 (by rw [hF.ml];exact hj2)] at hm;rw [e2,L2 aa] at ht;rw [e2];exact (hF.row j t mv hj2 ht hm).app
    ·intro k h1 h2;by_cases hk:k < S.length
     ·let ⟨p,mv,a,b,d⟩:=hF.par k h1 hk;exact ⟨p,mv,a,by rw [L2 (LU.1 b).1];exact b,d⟩
     ·refine ⟨i,r.2,by omega,?_,by rw [e1];exact e5 k aa h2⟩;rw [LX (by rw [hF.ml];omega),hF.ml,PB];rfl
structure Sp_ (c:Aa) (s0:Ad) (sp:Ah):Prop where
 al:Al c sp.States
 le:sp.States.length<=120
 fd:qa c s0 sp.States.length sp.States sp.Moves
theorem gh {c:Aa} {held:QQ} {sp:Ah} (hb:Bd_ c) (hf:Fit c (Fn c held).1) (hq:Qt c (Fn c held).1) (h:eD c held 120=.inr sp):Sp_ c (Fn c held).1 sp:=by (have hA:Al c [(Fn c held).1]:=λt ht=>by (obtain rfl:t=_:=by simpa using ht);exact ⟨hf,hq⟩);let ⟨a1,a2,_⟩:=DN FF 0 _ [] hA ah rfl ah ah hb h;refine ⟨a1,a2,DO FF 0 _ [] ⟨rfl,by simp,rfl,?_,λj s mv hj=>by omega,λk h1 h2=>by simp at h2;omega⟩ h⟩;intro i j s hi hj;have h1:=(LU.1 hi).1;have h2:=(LU.1 hj).1;simp at h1 h2;omega
theorem BE {c:Aa} {s:Ad} (hb:Bd_ c) (h:Fit c s):(pend s).length<=76:=by have h1:=hb.a';have h3:=hb.s;have a:=Dr (g:=Ux s) (n:=s.Ends.length);have b:=Dr (g:=CZ s) (n:=s.Timers.length);have he:=h.e;have ht:=h.t;unfold pend;rw [LW];omega
theorem Sp_.get {c:Aa} {s0:Ad} {sp:Ah} (h:Sp_ c s0 sp) {i:Nat} (hi:i < sp.States.length):∃ s mv,sp.States[i]?=some s/\sp.Moves[i]?=some mv/\Rwm c sp.States s mv/\Fit c s/\Qt c s:=by
 have hm:i < sp.Moves.length:=by rw [h.fd.ml];exact hi
 have h1:sp.States[i]?=some sp.States[i]:=ak hi;have h2:sp.Moves[i]?=some sp.Moves[i]:=ak hm;let ⟨hf,hq⟩:=h.al _ (MA hi);exact ⟨_,_,h1,h2,h.fd.row i _ _ hi h1 h2,hf,hq⟩
theorem Rwm.mem {c:Aa} {S:List Ad} {s:Ad} {mv:QP} (h:Rwm c S s mv) {k:Int} (hk:k∈mv):0<=k/\k < S.length:=by let ⟨j,hj⟩:=NH hk;have hl:=(LU.1 hj).1;rw [h.len] at hl;let ⟨_,q,h1,h2⟩:=h.ev j _ (ak hl);rw [hj] at h1;obtain rfl:=Option.some.inj h1;have:=(LU.1 h2).1;omega
theorem Sp_.pos {c:Aa} {s0:Ad} {sp:Ah} (h:Sp_ c s0 sp):0 < sp.States.length:=(LU.1 h.fd.hd).1
theorem Sp_.rows {c:Aa} {s0:Ad} {sp:Ah} (hb:Bd_ c) (h:Sp_ c s0 sp):∀ l∈sp.Moves,l.length<=76/\∀ k∈l,0<=k/\k < sp.States.length:=by intro l hl;let ⟨i,hi⟩:=NH hl;have hil:=(LU.1 hi).1;rw [h.fd.ml] at hil;let ⟨s,mv,h1,h2,h3,h4,h5⟩:=h.get hil;rw [hi] at h2;obtain rfl:=Option.some.inj h2;exact ⟨by rw [h3.len];exact BE hb h4,λk hk=>h3.mem hk⟩
theorem Sp_.shp {c:Aa} {s0:Ad} {sp:Ah} (hb:Bd_ c) (h:Sp_ c s0 sp):shp sp=0:=by (have hp:=h.pos;have hl:=h.le;have hm:=h.fd.ml;unfold Pn.shp;rw [show (sp.States.length == 0)=false by rw [beq_eq_false_iff_ne];omega,ae,show decide (sp.States.length > 16384)=false by simp;omega,ae,show (sp.Moves.length != sp.States.length)=false by rw [hm];simp,ae];have:sp.Moves.any (λl=>l.any (aV sp.States.length))=false:=by rw [MT];intro l hl2;rw [Bool.not_eq_true,MT];intro k hk;have:=(h.rows hb l hl2).2 k hk;unfold aV;simp;omega);rw [this];rfl
theorem Sp_.rch {c:Aa} {s0:Ad} {sp:Ah} (h:Sp_ c s0 sp):∀ (n k:Nat),k < n->k < sp.States.length->Rch sp.Moves 0 (k:Int)
 | 0,k,h1,_=>by omega
 | n + 1,0,_,_=>.refl
 | n + 1,k + 1,h1,h2=>by
  let ⟨p,mv,a,b,d⟩:=h.fd.par (k + 1) aa h2;exact .step (h.rch n p aa aa) ⟨mv,by rw [Ak];exact b,d⟩
def fp (g:List QP) (i:Int):QP:=gp g (dT (bV g) i) (at_ (dT (bV g) i) 0).toNat 0
theorem zf:((0:Int) != 0)=false:=rfl
theorem GH {l:QP} (hl:l.length<=90000):∀ (n i:Nat),i<=l.length->l.length - i < n->∃ z,Rs Je l n ((i:Int),(l.take i,0))=some (.brk (z,(l,0)))
 | 0,i,_,h=>by omega
 | n + 1,i,h1,h2=>by
  unfold Rs;dsimp only;by_cases hi:i < l.length
  ·rw [Am,ar hi,af,Ak,ak hi,ab];unfold Je;dsimp only;rw [Ar ay,ab,ab];dsimp only;rw [cE,ae,An aa];have e:l.take i ++ [l[i]]=l.take (i + 1):=by rw [List.take_add_one,ak hi];rfl
   rw [e];exact GH hl n (i + 1) aa aa
  ·rw [Am,aq hi,ae,NK aa];exact ⟨_,rfl⟩
theorem JQ {l:QP} (hl:l.length<=90000):j8 FF l=cF FF l:=by unfold j8 U1 U0 UZ;let ⟨z,hz⟩:=GH hl FF 0 aa uF;rw [n0,O7] at hz;rw [hz,ab,ab];dsimp only;rw [show ((0:Nat) == 0)=true from rfl,af,ab,ab];cases cF FF l <;> rfl
theorem mL {l:QP} (hl:l.length<=90000):∃ r1 r2,mh FF l=some l/\j8 FF l=some r1/\fX FF r1=some r2/\r2.length<=l.length/\Cs r2 (·∈l):=by let ⟨r1,r2,h1,h2,h3,h4⟩:=Us (l:=l) aa;exact ⟨r1,r2,rfl,by rw [JQ hl,h1],h2,h3,h4⟩
def Bc (c:Aa) (x:Int):Prop:=0<=x/\x < cL c + cA c
theorem DX {c:Aa}:∀ {k:Nat} {s:Ad} {x:Int},Zj c k s x->Bc c x
 | 0,_,_,h=>h.elim
 | k + 1,s,x,h=>by
  rcases h with h | ⟨_,h⟩
  ·obtain ⟨k,rfl,hk⟩:=K3 h;exact ⟨by omega,by omega⟩
  ·exact DX h
theorem D4 {c:Aa}:∀ {k:Nat} {s:Ad} {x:Int},rstP c k s x->Bc c x
 | 0,_,_,h=>h.elim
 | k + 1,s,x,h=>by
  unfold rstP at h;split at h
  ·exact h.elim
  ·rcases h with (h | ⟨j,hj,rfl,_⟩) | ⟨_,h⟩
   ·exact DX h
   ·exact ⟨by omega,by omega⟩
   ·exact D4 h
theorem jT {c:Aa} {s:Ad} {x:Af} {y:Int} (h:cH c s x y):Bc c y:=let ⟨_,_,_,h⟩:=h;D4 h
theorem Cs.len {c:Aa} (hb:Bd_ c) {l:QP} {p:Int->Prop} (h:Cs l p) (hp:∀ x,p x->Bc c x):l.length<=300:=by (have h1:=hb.a';have h2:=hb.i;have h3:=hb.s;have:=Vd (cL c + cA c) (q:=l) (h.1.imp λh=>by omega) λu hu=>by have:=hp u ((h.2 u).1 hu);unfold Bc at this;omega);(have:cL c + cA c<=300:=by unfold cL cS;omega);omega
theorem Zg {c:Aa} {s:Ad} {a b:Nat} (hab:a<=b):∀ (l:List Af) (S:List Ad) (mv:QP) {r:List Ad×QP},S.length<=a->Lm c a s l S mv=.inr r->Lm c b s l S mv=.inr r/\r.1.length<=a
 | [],S,mv,r,hS,h=>by
  unfold Lm at h ⊢;obtain rfl:=Sum.inr.inj h;exact ⟨rfl,hS⟩
 | x :: l,S,mv,r,hS,h=>by
  unfold Lm at h ⊢;split at h
  ·rename_i h0;rw [if_pos h0];split at h
   ·rename_i hp;rw [if_pos hp];split at h
    ·cases h
    ·rename_i hM;rw [if_neg aa];exact Zg hab l _ _ (by rw [LW,List.length_singleton];omega) h
   ·rename_i hp;rw [if_neg hp];exact Zg hab l _ _ hS h
  ·cases h
theorem DM {c:Aa} {a b:Nat} (hab:a<=b):∀ (n i:Nat) (S:List Ad) (M:List QP) {sp:Ah},S.length<=a->Wg c a n i S M=.inr sp->Wg c b n i S M=.inr sp/\sp.States.length<=a
 | 0,_,_,_,_,_,h=>by cases h
 | n + 1,i,S,M,sp,hS,h=>by
  unfold Wg at h ⊢;cases hs:S[i]? with
  | none=>
   rw [hs] at h;obtain rfl:=Sum.inr.inj h;exact ⟨rfl,hS⟩
  | some s=>
   rw [hs] at h;dsimp only at h ⊢;cases hx:Lm c a s (pend s) S [] with
   | inl e=>rw [hx] at h;cases h
   | inr r=>
    rw [hx] at h;let ⟨e1,e2⟩:=Zg hab _ _ _ hS hx;rw [e1];exact DM hab n _ _ _ e2 h
theorem gf {c:Aa} {held:QQ} {sp:Ah} (hc:Rc c) (hm:eZ FF c held=some (Fn c held)) (h0:(Fn c held).2=0) (hf:Fit c (Fn c held).1) (hq:Qt c (Fn c held).1) (h:Wg c 16384 FF 0 [(Fn c held).1] []=.inr sp):US FF c held=some (sp,0):=by
 have hbd:=hc.rt.bd;have hA:Al c [(Fn c held).1]:=λt ht=>by
  obtain rfl:t=_:=by simpa using ht
  exact ⟨hf,hq⟩
 obtain ⟨k,hk,_⟩:=Ko hbd hf;have hK:Kn c [(Fn c held).1] (Pg Bv [] k (0:Int)):=(Kn.nil c).put hbd hf hk rfl;have hy:=Oh hc FF 0 [(Fn c held).1] [] (Pg Bv [] k (0:Int)) hA ah aa uF rfl hK;rw [n0,h] at hy;obtain ⟨z',m',hy⟩:=hy;unfold US;rw [hm,ab];try dsimp only
 rw [h0,zf,ae,hk,ab,hy];rfl
theorem nbb {e:Int} (h:e≠0):(e != 0)=true:=by simpa using h
def dG (c:Aa) (s:Ad) (x:Af):QP:=((fc FF c s x).map λr=>r.2.1).getD []
theorem CO {c:Aa} {s:Ad} {x:Af} (hc:Rc c) (hf:Fit c s) (hq:Qt c s):fc FF c s x=some ((ai c s x).1,dG c s x,(ai c s x).2)/\WS FF c s x=some ((ai c s x).1,dG c s x,(ai c s x).2)/\(dG c s x).length<=300/\Cs (dG c s x) (cH c s x):=by
 let ⟨l1,e1,_,C1⟩:=E5 (x:=x) hc hf hq;let ⟨l2,e2,C2⟩:=GK (x:=x) hc.rt hf;obtain rfl:=C1.eq C2;have e:dG c s x=l1:=by unfold dG;rw [e1];rfl
 rw [e];exact ⟨e1,e2,C1.len hc.rt.bd λx h=>jT h,C1⟩
def j0 (c:Aa) (s:Ad) (i:Nat):Nat->List Af->List Step_overlap
 | _,[]=>[]
 | k,x :: l=>⟨(i:Int),(k:Int),dG c s x⟩ :: j0 c s i (k + 1) l
def fy (c:Aa):Nat->List Ad->List Step_overlap
 | _,[]=>[]
 | i,s :: S=>j0 c s i 0 (pend s) ++ fy c (i + 1) S
def fe {α σ:Type} (gy:α->σ->Option (Bool×σ)):List α->σ->Option (Bool×σ)
 | [],s=>some (true,s)
 | a :: l,s=>(gy a s).bind λr=>bif r.1 then fe gy l r.2 else some (false,r.2)
theorem LB {α σ:Type} {gy:α->σ->Option (Bool×σ)} {b:List α}:∀ {a:List α} {s:σ},fe gy (a ++ b) s=(fe gy a s).bind λr=>bif r.1 then fe gy b r.2 else some (false,r.2)
 | [],s=>rfl
 | x :: a,s=>by
  show (gy x s).bind _=Option.bind ((gy x s).bind _) _;cases h:gy x s with
  | none=>rfl
  | some r=>
   rw [ab,ab];cases hr:r.1 with
   | true=>rw [af,af];exact LB
   | false=>rfl
theorem Of {σ:Type} (gy:Step_overlap->σ->Option (Bool×σ)) {c:Aa} {w:World_overlap} (hw:w.c=c) (hc:Rc c) (z:Int×σ) {i:Nat} (hz:z.1=i) {s:Ad} (hf:Fit c s) (hq:Qt c s) (l:List Af) (hev:∀ x∈l,(ai c s x).2=0) (hll:l.length<=5000) (e:Int) :
  ∀ (l':List Af) (n k:Nat) (u:σ),l.drop k=l'->l'.length < n->∃ zz,Ex gy FF (some w) z s (e,l) n ((k:Int),u)=(fe gy (j0 c s i k l') u).map λr=>if r.1=true then .brk (zz,r.2) else .ret r.2
 | _,0,_,_,_,h=>by omega
 | [],n + 1,k,u,hd,_=>by
  have hk:l.length<=k:=by simpa using hd
  unfold Ex;dsimp only;rw [Am,aq aa,ae];exact ⟨_,rfl⟩
 | x :: l',n + 1,k,u,hd,hn=>by
  have hi:k < l.length:=by
   rcases M7 k l.length with h | h
   ·exact h
   ·rw [ML h] at hd;cases hd
  rw [MN hi] at hd;let ⟨hb1,hd1⟩:=List.cons.inj hd;have hx:l[k]?=some x:=by rw [ak hi,hb1]
  have h0:=hev x (L8 hx);simp only [NJ] at hn;unfold Ex;dsimp only;rw [Am,ar hi,af,Ak,hx,ab,ab,hw,(CO hc hf hq).1,ab];dsimp only;rw [h0,zf,ae,hz];show ∃ zz,_=Option.map _ ((gy ⟨(i:Int),(k:Int),dG c s x⟩ u).bind _);cases hg:gy ⟨(i:Int),(k:Int),dG c s x⟩ u with
  | none=>exact ⟨0,rfl⟩
  | some r=>
   rw [ab,ab,ae];cases hr:r.1 with
   | true=>
    rw [cE,ae,af,An aa];exact Of gy hw hc z hz hf hq l hev hll e l' n (k + 1) r.2 hd1 aa
   | false=>exact ⟨0,rfl⟩
theorem Og {σ:Type} (gy:Step_overlap->σ->Option (Bool×σ)) {c:Aa} {s0:Ad} {sp:Ah} (hc:Rc c) (hS:Sp_ c s0 sp) :
  ∀ (S':List Ad) (n i:Nat) (u:σ),sp.States.drop i=S'->S'.length < n->∃ z,Gu gy FF (some ⟨c,sp⟩) ⟨c,sp⟩ n ((i:Int),u)=(fe gy (fy c i S') u).map λr=>if r.1=true then .brk (z,r.2) else .ret r.2
 | _,0,_,_,_,h=>by omega
 | [],n + 1,i,u,hd,_=>by
  have hi:sp.States.length<=i:=by simpa using hd
  unfold Gu;dsimp only;rw [Am,aq aa,ae];exact ⟨_,rfl⟩
 | s :: S',n + 1,i,u,hd,hn=>by
  have hi:i < sp.States.length:=by
   rcases M7 i sp.States.length with h | h
   ·exact h
   ·rw [ML h] at hd;cases hd
  rw [MN hi] at hd;let ⟨hb1,hd1⟩:=List.cons.inj hd;have hx:sp.States[i]?=some s:=by rw [ak hi,hb1]
  let ⟨s',mv,g1,g2,g3,g4,g5⟩:=hS.get hi;obtain rfl:=Option.some.inj (hx.symm.trans g1);have hle:=hS.le;have hp:=BE hc.rt.bd g4;simp only [NJ] at hn;unfold Gu;dsimp only;rw [Am,ar hi,af,Ak,hx,ab,ab];dsimp only;rw [BR hc g4 g5,ab];dsimp only;let ⟨zz,h2⟩:=Of gy (w:=⟨c,sp⟩) rfl hc ((i:Int),u) rfl g4 g5 (pend s) (λx hx=>by
   let ⟨j,hj⟩:=NH hx;exact (g3.ev j x hj).1) aa 0 (pend s) FF 0 u ah uF
  rw [n0] at h2;rw [zf,ae,h2];show ∃ z,_=Option.map _ (fe gy (j0 c s i 0 (pend s) ++ fy c (i + 1) S') u);rw [LB];cases hg:fe gy (j0 c s i 0 (pend s)) u with
  | none=>exact ⟨0,rfl⟩
  | some r=>
   rw [Option.map_some,ab,ab];cases hr:r.1 with
   | true=>
    rw [if_pos rfl,af,An aa];exact Og gy hc hS S' n (i + 1) r.2 hd1 aa
   | false=>exact ⟨0,rfl⟩
theorem GG {σ:Type} (gy:Step_overlap->σ->Option (Bool×σ)) {c:Aa} {s0:Ad} {sp:Ah} (hc:Rc c) (hS:Sp_ c s0 sp) (u:σ):U3 gy FF (some ⟨c,sp⟩) u=(fe gy (fy c 0 sp.States) u).map (·.2):=by
 have hle:=hS.le;let ⟨z,h⟩:=Og gy hc hS sp.States FF 0 u ah uF;rw [n0] at h;unfold U3;rw [ab,h];cases fe gy (fy c 0 sp.States) u with
 | none=>rfl
 | some r=>
  rw [Option.map_some,ab];cases hr:r.1 <;> simp
theorem D2 {c:Aa} {s:Ad} {i:Nat}:∀ {l:List Af} {k:Nat} {u:Step_overlap},u∈j0 c s i k l->∃ (j:Nat) (x:Af),l[j]?=some x/\u=⟨(i:Int),((k + j:Nat):Int),dG c s x⟩
 | [],_,_,h=>by cases h
 | x :: l,k,u,h=>by
  rcases MH.1 h with rfl | h
  ·exact ⟨0,x,rfl,rfl⟩
  ·let ⟨j,y,h1,h2⟩:=D2 h;exact ⟨j + 1,y,h1,by rw [h2];congr 1;omega⟩
theorem Zk {c:Aa}:∀ {S:List Ad} {i:Nat} {u:Step_overlap},u∈fy c i S->∃ (j:Nat) (s:Ad) (k:Nat) (x:Af),S[j]?=some s/\(pend s)[k]?=some x/\u=⟨((i + j:Nat):Int),(k:Int),dG c s x⟩
 | [],_,_,h=>by cases h
 | s :: S,i,u,h=>by
  rcases MC.1 h with h | h
  ·let ⟨k,x,h1,h2⟩:=D2 h;exact ⟨0,s,k,x,rfl,h1,by rw [h2];simp⟩
  ·let ⟨j,t,k,x,h1,h2,h3⟩:=Zk h;exact ⟨j + 1,t,k,x,h1,h2,by rw [h3];congr 1;omega⟩
theorem Sp_.pthf {c:Aa} {s0:Ad} {sp:Ah} (hb:Bd_ c) (hS:Sp_ c s0 sp) {i:Nat} (hi:i < sp.States.length):eY sp (i:Int)=(fp sp.Moves i,0)/\(fp sp.Moves i).length<=120:=by (have hsh:=hS.shp hb;have h0:=(fF hsh (s:=(i:Int)) aa aa).2 (hS.rch (i + 1) i aa hi);have h1:eY sp (i:Int)=(fp sp.Moves i,0):=by unfold eY at h0 ⊢;rw [if_neg aa] at h0 ⊢;split;rename_i h;rw [if_pos h] at h0;cases h0;rfl);have h2:=fG hsh hS.le (s:=(i:Int));rw [h1] at h2;exact ⟨h1,h2⟩
theorem Sp_.rw40 {c:Aa} {s0:Ad} {sp:Ah} (hb:Bd_ c) (hS:Sp_ c s0 sp):∀ l∈sp.Moves,l.length<=76:=λl hl=>by
 have:=(hS.rows hb l hl).1;omega
def kG (sp:Ah) (u:Step_overlap):QP:=fp sp.Moves u.state ++ [u.event]
theorem gt0 {l:QP}:decide ((l.length:Int) > 0)=!l.isEmpty:=by cases l <;> simp <;> omega
theorem K7 {c:Aa} {s0:Ad} {sp:Ah} (hc:Rc c) (hS:Sp_ c s0 sp) (e:Int) (z:Accident×Bool×Int):∀ (l:List Step_overlap),(∀ u∈l,∃ i:Nat,u.state=i/\i < sp.States.length) ->
  fe (Ns FF (some ⟨c,sp⟩,e)) l (z,0)=some (match l.find? (λu=>!u.conflicts.isEmpty) with
   | some u=>(false,((⟨kG sp u,u.conflicts⟩,true,0),1))
   | none=>(true,(z,0)))
 | [],_=>rfl
 | u :: l,h=>by
  let ⟨i,h1,h2⟩:=h u ah;have ih:=K7 hc hS e z l λv hv=>h v (by simp [hv]);let ⟨p1,p2⟩:=hS.pthf hc.rt.bd h2;show (Ns FF (some ⟨c,sp⟩,e) u (z,0)).bind _=_;unfold Ns;dsimp only;rw [gt0,List.find?_cons];cases hcf:u.conflicts.isEmpty with
  | true=>
   rw [cE,ae,ab,af];exact ih
  | false=>
   rw [l8,af,ab];dsimp only;rw [h1,BK (hS.shp hc.rt.bd) hS.le (hS.rw40 hc.rt.bd),p1,ab];dsimp only;rw [zf,ae,Ar ay,ab,ab,ae];unfold kG;rw [h1]
theorem iK {c:Aa} {s0:Ad} {sp:Ah} (hS:Sp_ c s0 sp):∀ u∈fy c 0 sp.States,∃ j:Nat,u.state=j/\j < sp.States.length:=λu hu=>by
 obtain ⟨j,s,k,x,h1,_,rfl⟩:=Zk hu;exact ⟨0 + j,rfl,by have:=(LU.1 h1).1;omega⟩
theorem BL {c:Aa} {held:QQ} {sp:Ah} {e:Int} (h:US FF c held=some (sp,e)):j9 FF c held=some (if e=0 then some ⟨c,sp⟩ else none,e):=by unfold j9;rw [h,ab];dsimp only;by_cases h0:e=0;subst h0;rw [zf,ae];rfl;rw [nbb h0,af,if_neg h0]
theorem J2:U2 FF [] []=some []:=by kernel_rfl
theorem gK {c:Aa} {s t:Ad} (hc:Rc c) (h40:jq FF c=some (s,0,[])) (hf:Fit c s) (hq:Qt c s) (ha:ai c s ⟨2,0,true⟩=(t,0)) (hn:∀ y,¬ cH c s ⟨2,0,true⟩ y):kP FF c [true]=some ([],0):=by (let ⟨l,e1,_,C1⟩:=E5 (x:=⟨2,0,true⟩) hc hf hq;obtain rfl:=C1.eq (Cs.nil hn);rw [ha] at e1;unfold kP;rw [h40,ab];dsimp only;have loop:Nm FF c [true] FF ([],(0:Int),(0:Int),s)=some ([],0,1,t):=by show Nm FF c [true] (99999 + 1) ([],(0:Int),((0:Nat):Int),s)=_;rw [Nm];dsimp only;rw [show decide (((0:Nat):Int) < (([true]:QQ).length:Int))=true by rfl,af,Ak,show ([true]:QQ)[0]?=some true from rfl,ab,zf,ae,af,show (⟨(2:Int),((0:Nat):Int),true⟩:Af)=⟨2,0,true⟩ from rfl,e1,ab];dsimp only;rw [J2,ab,ab,An aa];show Nm FF c [true] (99998 + 1) ([],(0:Int),((1:Nat):Int),t)=_;rw [Nm];dsimp only;rw [show decide (((1:Nat):Int) < (([true]:QQ).length:Int))=false by rfl,ae];rfl);rw [loop];rfl
theorem jC {c:Aa} {s0:Ad} {sp:Ah} (hc:Rc c) (hS:Sp_ c s0 sp) (h25:US FF c [true]=some (sp,0)) (hb:kP FF c [true]=some ([],0)) (hno:∀ s∈sp.States,∀ x∈Pn.pend s,∀ y,¬ cH c s x y):ew FF c [true]=some (⟨[],[]⟩,false,0):=by (have hcf:∀ u∈fy c 0 sp.States,u.conflicts.isEmpty=true:=λu hu=>by obtain ⟨j,s,k,x,h1,h2,rfl⟩:=Zk hu;let ⟨s',mv,g1,g2,g3,g4,g5⟩:=hS.get (LU.1 h1).1;obtain rfl:=Option.some.inj (h1.symm.trans g1);have hC:=(CO (x:=x) hc g4 g5).2.2.2;have:dG c s x=[]:=hC.eq (Cs.nil (hno s (L8 h1) x (L8 h2)));show (dG c s x).isEmpty=true;rw [this];rfl);(have hfd:(fy c 0 sp.States).find? (λu=>!u.conflicts.isEmpty)=none:=by rw [QL];intro u hu;rw [hcf u hu];simp);unfold ew;rw [BL h25,ab];dsimp only;rw [zf,ae,hb,ab];dsimp only;rw [zf,ae,show decide ((([]:QP).length:Int) > 0)=false by rfl,ae,if_pos rfl];unfold pK;rw [ab,GG _ hc hS,K7 hc hS 0 _ _ (iK hS),hfd];rfl
def vl (s:Ad) (j:Nat):Bool:=(vals s).getD j false
theorem fk {c:Aa} {s:Ad} (h:Fit c s) {k:Nat} (hk:k < cL c):idx (vals s) (k:Int)=some (vl s k):=by have:=h.vl;rw [Ak,ak aa];unfold vl;rw [LV,ak aa];rfl
theorem JO {c:Aa} {s:Ad} (hc:Rc c) (hf:Fit c s) {k:Nat} (hk:k < cL c):ma FF c s (k:Int)=some ((vals s).getD k false,0):=by have hb:=hc.rt.bd;have h1:=hb.a';have h2:=hb.i;have h3:=hb.s;have he:=hf.e;have hi:=hf.i;have hx:=hf.x;unfold ma;rw [Jx hc,(Ec hb).2 hf,ab,zf,ae,aq aa,ae,Kq hb,ab,ab,aq aa,ae,Xz aa aa aa,ab,Ak];have hv:=hf.vl;rw [ak aa,ab,LV,ak aa];rfl
theorem qb {c:Aa} (hb:Bd_ c):wr (wr (wr ((2:Int) * c.Actuators) + (c.Inputs.length:Int)) + (c.Signals.length:Int))=((cL c:Nat):Int):=by have h1:=hb.a';have h2:=hb.i;have h3:=hb.s;have e1:wr (((2 * cA c:Nat):Int) + (c.Inputs.length:Int))=((2 * cA c:Nat):Int) + (c.Inputs.length:Int):=Aq aa aa;rw [hb.wa,e1,Aq aa aa];unfold cL cS;omega
theorem GO {c:Aa} {s:Ad} {sp:Ah} (hc:Rc c) (hf:Fit c s):U4 FF (some ⟨c,sp⟩) s=some (vals s):=by
 have hb:=hc.rt.bd;have h1:=hb.a';have h2:=hb.i;have h3:=hb.s;have hv:=hf.vl;have hl:cL c<=1000:=by unfold cL cS;omega
 have hW:=qb hb;unfold U4;rw [ab,ab,ab];obtain ⟨acc,hl,he⟩:=Lj (L:=Mu FF (some ⟨c,sp⟩) s ⟨c,sp⟩ ⟨c,sp⟩ ⟨c,sp⟩) (mk:=λi (v:QQ)=>((i:Int),v)) (N:=cL c) (I:=λi v=>v=(vals s).take i) (λn i v hi hI=>by
  subst hI;refine ⟨_,rfl,?_⟩;rw [Mu];dsimp only;rw [hW,Am,ar hi,af,ab,JO hc hf hi,ab,Ar ay,ab,An aa];have e:(vals s).take i ++ [(vals s).getD i false]=(vals s).take (i + 1):=by
   rw [N5,LV,ak aa];rfl
  rw [e]) (λn v hI=>by
  rw [Mu];dsimp only;rw [hW,Am,aq aa,ae]) FF 0 [] aa uF ah
 rw [n0] at he;rw [he,ab,hl,NK aa]
theorem gZ {α β:Type} {L:Nat->Int->Option (Lo Int β)} {xs:List α} {q:α->Bool} {r:Nat->β}
  (h:∀ (n i:Nat) x,xs[i]?=some x->L (n + 1) (i:Int)=bif q x then some (.ret (r i)) else L n ((i + 1:Nat):Int)) (h':∀ n:Nat,L (n + 1) (xs.length:Int)=some (.brk (xs.length:Int))) :
  ∀ (n i:Nat),i<=xs.length->xs.length - i < n->L n (i:Int)=match (xs.drop i).findIdx? q with
   | some j=>some (.ret (r (i + j)))
   | none=>some (.brk (xs.length:Int))
 | 0,i,_,h1=>by omega
 | n + 1,i,h1,h2=>by
  by_cases hi:i < xs.length
  ·rw [h n i _ (ak hi),MN hi,Hb];cases hq:q xs[i] with
   | true=>rfl
   | false=>
    rw [ae,if_neg ah,gZ h h' n (i + 1) aa aa];cases (xs.drop (i + 1)).findIdx? q with
    | none=>rfl
    | some j=>
     show some (Lo.ret (r (i + 1 + j)))=some (Lo.ret (r (i + (j + 1))));rw [show i + 1 + j=i + (j + 1) by omega]
  ·obtain rfl:i=xs.length:=by omega
   rw [ML (MG _)];exact h' n
def ky (sp:Ah) (q:Ad->Bool):Bool×QP×Int:=match sp.States.findIdx? q with
 | some j=>(false,fp sp.Moves (j:Int),0)
 | none=>(true,[],0)
theorem fA {c:Aa} {s0:Ad} {sp:Ah} (hS:Sp_ c s0 sp) {q:Ad->Bool} {L:Nat->Int->Option (Lo Int (Bool×QP×Int))}
  (h:∀ (n i:Nat) s,sp.States[i]?=some s->i < sp.States.length->Fit c s->L (n + 1) (i:Int)=bif q s then some (.ret (false,fp sp.Moves (i:Int),0)) else L n (wr ((i:Int) + 1))) (h':∀ n:Nat,L (n + 1) (sp.States.length:Int)=some (.brk (sp.States.length:Int))) :
  ((L FF (0:Int)).bind λo3=>match o3 with | .brk o3s=>some (true,([]:QP),(0:Int)) | .ret r=>some r)=some (ky sp q):=by
 have hle:=hS.le;have:=gZ (L:=L) (xs:=sp.States) (q:=q) (r:=λi=>(false,fp sp.Moves (i:Int),0)) (λn i s hs=>by
  have hi:=(LU.1 hs).1;let ⟨s',mv,g1,g2,g3,g4,g5⟩:=hS.get hi;obtain rfl:=Option.some.inj (hs.symm.trans g1);rw [h n i s hs hi g4,An aa]) h' FF 0 aa uF
 rw [n0,MY] at this;rw [this];unfold ky;cases sp.States.findIdx? q with
 | none=>rfl
 | some j=>simp
def dq (each:QP) (s:Ad):QP:=each.filter λx=>vl s x.toNat
theorem HW {c:Aa} {s:Ad} (h:Fit c s) {x:Int} (hx:aV (cL c) x=false):idx (vals s) x=some (vl s x.toNat):=by unfold aV at hx;simp at hx;have:=fk h (k:=x.toNat) aa;rwa [Int.toNat_of_nonneg hx.1] at this
theorem JP {c:Aa} {s:Ad} (hf:Fit c s) {each:QP} (hl:each.length<=1000) (hb:∀ x∈each,aV (cL c) x=false):me FF (vals s) each=some (decide ((dq each s).length < 2)):=by
 unfold me;obtain ⟨acc,hI,he⟩:=Lj (L:=Tn (vals s) each) (mk:=λi (v:Int)=>(v,(i:Int))) (N:=each.length) (I:=λi v=>v=((dq (each.take i) s).length:Int)) (λn i v hi hI=>by
  subst hI;refine ⟨_,rfl,?_⟩;have hq:(dq (each.take i) s).length<=i:=NA (OS ..) ay;rw [Tn];dsimp only;rw [Am,ar hi,af,Ak,ak hi,ab,HW hf (hb _ (MA hi)),ab,An aa,An aa];unfold dq;rw [N5,ak hi,O2];cases h:vl s each[i].toNat <;> simp [h]) (λn v hI=>by
  rw [Tn];dsimp only;rw [Am,aq aa,ae]) FF 0 0 aa uF (by simp [dq])
 rw [n0] at he;rw [he,ab,hI,List.take_length];congr 1;rw [decide_eq_decide];omega
def iC (lines:QP) (s:Ad):Prop:=∃ x∈lines,∃ y∈lines,x≠y/\vl s x.toNat=true/\vl s y.toNat=true
theorem JK {lines each:QP} {s:Ad} (h:Cs each (·∈lines)):2<=(dq each s).length↔iC lines s:=by
 have hp:(dq each s).Pairwise (· < ·):=h.1.filter _;have hm:∀ x,x∈dq each s↔x∈lines/\vl s x.toNat=true:=λx=>by unfold dq;rw [NX,h.2 x]
 constructor
 ·intro h2
  match hl:dq each s,h2 with
  | a :: b :: l,_=>
   rw [hl] at hp hm;have ha:=(hm a).1 ah;have hb:=(hm b).1 ah;have:=(OT.1 hp).1 b ah;exact ⟨a,ha.1,b,hb.1,by omega,ha.2,hb.2⟩
 ·rintro ⟨x,hx,y,hy,hne,h1,h2⟩;have a:=(hm x).2 ⟨hx,h1⟩;have b:=(hm y).2 ⟨hy,h2⟩
  match hl:dq each s with
  | []=>rw [hl] at a;cases a
  | [z]=>
   rw [hl] at a b;simp at a b;omega
  | _ :: _ :: _=>simp
theorem jo {c:Aa} {s0:Ad} {sp:Ah} (hb:Bd_ c) (hS:Sp_ c s0 sp) {i:Nat} (hi:i < sp.States.length):j7 FF sp (i:Int)=some (0,fp sp.Moves (i:Int)):=by have p1:=(hS.pthf hb hi).1;rw [BK (hS.shp hb) hS.le (hS.rw40 hb),p1]
theorem C3 {xs:QP} {k:Int} (hl:xs.length<=1000):EP FF xs k=some (xs.any λx=>decide (x < 0) || decide (x>=k)):=by
 unfold EP BY;have h5:=DG (L:=Kr FF xs k) (xs:=xs) (p:=λ_ y=>pL FF y k) (q:=λx=>decide (x < 0) || decide (x>=k)) (r:=λz=>z) (λ_ _=>rfl) aa (λi y hy=>rfl) FF 0 aa uF;rw [n0,MY] at h5;rw [h5];cases h6:xs.findIdx? (λx=>decide (x < 0) || decide (x>=k)) with
 | none=>
  rw [NC] at h6;have:(xs.any λx=>decide (x < 0) || decide (x>=k))=false:=MT.2 λy hy=>by simpa using h6 y hy
  rw [this];rfl
 | some j=>
  let ⟨hj,hj2,_⟩:=MW.1 h6;have:(xs.any λx=>decide (x < 0) || decide (x>=k))=true:=MD.2 ⟨_,MA hj,by simpa using hj2⟩;rw [this];simp
def ke (each:QP) (s:Ad):Bool:=decide (2<=(dq each s).length)
theorem KE {c:Aa} {held:QQ} {s0:Ad} {sp:Ah} {lines:QP} (hc:Rc c) (hS:Sp_ c s0 sp) (h40:eZ FF c held=some (Fn c held)) (h0:(Fn c held).2=0) (h25:US FF c held=some (sp,0)) (hl:lines.length<=256) (hb:∀ x∈lines,aV (cL c) x=false) :
  ∃ each,Cs each (·∈lines)/\dS FF c held lines=some (ky sp (ke each)):=by (have hbd:=hc.rt.bd;have hle:=hS.le;have hany:lines.any (aV (cL c))=false:=MT.2 λx hx=>by simp [hb x hx]);(let ⟨r1,r2,e1,e2,e3,l3,hC⟩:=mL (l:=lines) aa;refine ⟨r2,hC,?_⟩;unfold dS;have hs:mg FF (some ⟨c,sp⟩) r2=some (ky sp (ke r2)):=by unfold mg;rw [ab];refine fA hS (λn i s hs hi hf=>?_) (λn=>by rw [Wy];dsimp only;rw [Am,aq aa,ae]);(rw [Wy];dsimp only;rw [Am,ar hi,af,Ak,hs,ab,GO hc hf,ab,JP hf aa (λx hx=>hb x ((hC.2 x).1 hx)),ab,ab];dsimp only;rw [jo hbd hS hi,ab];have e:(!decide ((dq r2 s).length < 2))=ke r2 s:=by unfold ke;by_cases h:(dq r2 s).length < 2;rw [ar h,aq aa];rfl;rw [aq h,ar aa];rfl);rw [e]);have hany':(lines.any λx=>decide (x < 0) || decide (x>=((cL c:Nat):Int)))=false:=hany;rw [h40,ab,h0,zf,ae,aq aa,ae,qb hbd,C3 aa,hany',ab,ae,BL h25,ab];dsimp only;rw [zf,ae,e1,ab,e2,ab,e3,ab,if_pos rfl,hs];rfl
theorem lj {c:Aa} {s0:Ad} {sp:Ah} {lines:QP} (hc:Rc c) (hS:Sp_ c s0 sp) (h40:eZ FF c [true]=some (Fn c [true])) (h0:(Fn c [true]).2=0) (h25:US FF c [true]=some (sp,0)) (hl:lines.length<=256) (hb:∀ x∈lines,aV (cL c) x=false) (hex:∀ s∈sp.States,¬ iC lines s):dS FF c [true] lines=some (true,[],0):=by (let ⟨each,hE,h⟩:=KE hc hS h40 h0 h25 hl hb;rw [h];unfold ky;have:sp.States.findIdx? (ke each)=none:=by rw [NC];intro s hs;unfold ke;rw [aq λh2=>hex s hs ((JK hE).1 h2)]);rw [this]
def lnx (n:Nat):Expr:=⟨1,(n:Int),[]⟩
def Cd (op:Int):QR->Expr
 | [n]=>lnx n
 | l=>⟨op,0,l.map lnx⟩
theorem Uj {d n:Nat} {ls:QQ}:ev (d + 1) ls (lnx n)=ls.getD n false:=by unfold ev lnx;rw [if_neg (by show ¬ (1:Int)=0;omega),if_pos rfl];show (idx ls (n:Int)).getD false=_;rw [Ak,LV]
theorem So {d:Nat} {ls:QQ} {l:QR}:ev (d + 2) ls (Cd 3 l)=l.all λn=>ls.getD n false:=by
 have key:ev (d + 2) ls ⟨3,0,l.map lnx⟩=l.all λn=>ls.getD n false:=by
  unfold ev;rw [if_neg (by show ¬ (3:Int)=0;omega),if_neg (by show ¬ (3:Int)=1;omega),if_neg (by show ¬ (3:Int)=2;omega),if_pos rfl];show (l.map lnx).all (ev (d + 1) ls)=_;rw [List.all_map];refine List.all_congr rfl λn=>?_;exact Uj
 match l,key with
 | [],key=>exact key
 | [n],_=>show ev (d + 2) ls (lnx n)=_;rw [Uj];simp
 | _ :: _ :: _,key=>exact key
theorem eF {d:Nat} {ls:QQ} {l:QR}:ev (d + 2) ls (Cd 4 l)=l.any λn=>ls.getD n false:=by
 have key:ev (d + 2) ls ⟨4,0,l.map lnx⟩=l.any λn=>ls.getD n false:=by
  unfold ev;rw [if_neg (by show ¬ (4:Int)=0;omega),if_neg (by show ¬ (4:Int)=1;omega),if_neg (by show ¬ (4:Int)=2;omega),if_neg (by show ¬ (4:Int)=3;omega)];show (l.map lnx).any (ev (d + 1) ls)=_;rw [List.any_map];refine List.any_congr rfl λn=>?_;exact Uj
 match l,key with
 | [],key=>exact key
 | [n],_=>show ev (d + 2) ls (lnx n)=_;rw [Uj];simp
 | _ :: _ :: _,key=>exact key
theorem G9 {d n:Nat} {ls:QQ}:ev (d + 2) ls ⟨2,0,[lnx n]⟩=!(ls.getD n false):=by unfold ev;rw [if_neg (by show ¬ (2:Int)=0;omega),if_neg (by show ¬ (2:Int)=1;omega),if_pos rfl];show (!([lnx n].any (ev (d + 1) ls)))=_;simp [Uj]
def lv (s:Ad) (n:Nat):Bool:=(vals s).getD n false
theorem Vx {s:Ad}:(DC s).length=2 * s.Ends.length:=Ol
theorem kW {c:Aa} {s:Ad} (h:Fit c s) {a:Nat} (ha:a < cA c) (o:Bool):lv s (2 * a + o.toNat)=(s.Ends.getD a 0 == (if o=true then 2 else 0)):=by
 have he:=h.e;have hel:=Vx (s:=s);have hb:o.toNat<=1:=by cases o <;> decide
 unfold lv vals pre;rw [LV,MP,L2 aa];unfold DC;rw [G6];have h1:(2 * a + o.toNat) / 2=a:=by omega
 have h2:(2 * a + o.toNat) % 2=o.toNat:=by omega
 rw [h1,h2,ak aa,LV,ak aa];cases o <;> simp
theorem kX {c:Aa} {s:Ad} (h:Fit c s) {i:Nat} (hi:i < c.Inputs.length):lv s (2 * cA c + i)=s.Inputs.getD i false:=by have he:=h.e;have hn:=h.i;have hel:=Vx (s:=s);unfold lv vals pre;rw [LV,MP,LX aa,L2 aa,LV];congr 2;omega
theorem D7 {c:Aa} {s:Ad} (h:Fit c s):(pre s).length=cS c:=by have he:=h.e;have hn:=h.i;unfold pre cS;rw [LW,Vx,he,hn]
theorem io {c:Aa} {s:Ad} (h:Fit c s) (i:Nat):lv s (cS c + i)=s.Values.getD i false:=by have:=D7 h;unfold lv vals;rw [LV,LX aa,LV];congr 2;omega
theorem Vt {c:Aa} {s:Ad} {i:Nat}:∀ {j:Nat},i<=j->∀ k,k < i->(Df c s j)[k]?=(Df c s i)[k]?
 | 0,h,k,hk=>by omega
 | j + 1,h,k,hk=>by
  rcases NE h with h | h
  ·subst h;rfl
  ·have ih:=Vt (c:=c) (s:=s) (show i<=j by omega) k hk;rw [← ih];show (Gz c (pre s) j (Df c s j))[k]?=_;unfold Gz;split
   ·split
    ·rw [NQ aa]
    ·rfl
   ·rfl
theorem Pp {c:Aa} {s:Ad} {k:Nat} {y:Ae} (hy:c.Signals[k]?=some y) (hk:y.Kind≠0):∀ (j:Nat),(Df c s j)[k]?=s.Values[k]?
 | 0=>rfl
 | j + 1=>by
  have ih:=Pp (s:=s) hy hk j;rw [← ih];show (Gz c (pre s) j (Df c s j))[k]?=_;unfold Gz;split
  ·rename_i x hx;split
   ·rename_i h0;by_cases e:j=k
    ·subst e;rw [hy] at hx;obtain rfl:=Option.some.inj hx;exact absurd h0 hk
    ·rw [NQ e]
   ·rfl
  ·rfl
def gR (c:Aa) (i n:Nat):Prop:=n < cS c\/∃ k,n=cS c + k/\(k < i\/∃ y,c.Signals[k]?=some y/\y.Kind≠0)
theorem Nb {c:Aa} {s:Ad} (hf:Fit c s) {i:Nat} {x:Ae} (hx:c.Signals[i]?=some x) (hk:x.Kind=0)
  (hd:∀ u v:QQ,(∀ n,gR c i n->u.getD n false=v.getD n false)->ev 16 u x.On=ev 16 v x.On) :
  (gates c s).Values.getD i false=ev 16 (vals (gates c s)) x.On:=by (have him:=(LU.1 hx).1;have hv:=hf.x;have hp:=D7 hf;show (Df c s c.Signals.length).getD i false=ev 16 (pre s ++ Df c s c.Signals.length) x.On;rw [LV,Vt (show i + 1<=c.Signals.length by omega) i aa];show ((Gz c (pre s) i (Df c s i))[i]?).getD false=_;unfold Gz;rw [hx];dsimp only;rw [if_pos hk,MX (by rw [Ck];omega),N7];refine hd _ _ λn hn=>?_;rw [LV,LV];rcases hn with h | ⟨k,rfl,h⟩);rw [L2 aa,L2 aa];(rw [LX aa,LX aa,hp,show cS c + k - cS c=k by omega];rcases h with h | ⟨y,hy,hk⟩);rw [Vt (show i<=c.Signals.length by omega) k h];rw [Pp hy hk,Pp hy hk]
theorem G3 {c:Aa} {s:Ad} (hf:Fit c s) {i:Nat} {x:Ae} (hx:c.Signals[i]?=some x) (hk:x.Kind=0) {l:QR} (ho:x.On=Cd 3 l) (hl:∀ n∈l,gR c i n) :
  (gates c s).Values.getD i false=l.all (lv (gates c s)):=by (have h:=Nb hf hx hk λu v h=>by rw [ho,So,So];rw [NB,L5,L5];exact ⟨λk n hn=>by rw [← h n (hl n hn)];exact k n hn,λk n hn=>by rw [h n (hl n hn)];exact k n hn⟩);rw [h,ho,So];rfl
theorem KA {c:Aa} {s:Ad} (hf:Fit c s) {i:Nat} {x:Ae} (hx:c.Signals[i]?=some x) (hk:x.Kind=0) {l:QR} (ho:x.On=Cd 4 l) (hl:∀ n∈l,gR c i n) :
  (gates c s).Values.getD i false=l.any (lv (gates c s)):=by (have h:=Nb hf hx hk λu v h=>by rw [ho,eF,eF];rw [NB,MD,MD];exact ⟨λ⟨n,hn,k⟩=>⟨n,hn,by rw [← h n (hl n hn)];exact k⟩,λ⟨n,hn,k⟩=>⟨n,hn,by rw [h n (hl n hn)];exact k⟩⟩);rw [h,ho,eF];rfl
theorem G2 {c:Aa} {s:Ad} (hf:Fit c s) {i:Nat} {x:Ae} (hx:c.Signals[i]?=some x) (hk:x.Kind=0) {n:Nat} (ho:x.On=⟨2,0,[lnx n]⟩) (hl:gR c i n) :
  (gates c s).Values.getD i false=!(lv (gates c s) n):=by (have h:=Nb hf hx hk λu v h=>by rw [ho,G9,G9,h n hl]);rw [h,ho,G9];rfl
theorem Yn {c:Aa} {s:Ad} {k:Nat} {y:Ae} (hy:c.Signals[k]?=some y) (hk:y.Kind≠0):(gates c s).Values.getD k false=s.Values.getD k false:=by show (Df c s c.Signals.length).getD k false=_;rw [LV,Pp hy hk,LV]
theorem Dq {α:Type} {f:Nat->α} {n i:Nat} {d:α} (h:i < n):((List.range n).map f).getD i d=f i:=by rw [LV,L7,ME h];rfl
theorem Vc {c:Aa} {s:Ad} (hf:Fit c s) {i:Nat} {x:Ae} (hx:c.Signals[i]?=some x):(once c s).Values.getD i false=(cQ (vals (gates c s)) x ((gates c s).Values.getD i false) (s.Timers.getD i 0)).1:=by have him:=(LU.1 hx).1;have hv:(gates c s).Values.length=c.Signals.length:=Ck.trans hf.x;show ((List.range (gates c s).Values.length).map λi=>(Fk c (gates c s) i).1).getD i false=_;rw [Dq aa];unfold Fk;rw [hx];rfl
theorem JC {c:Aa} {s:Ad} (hf:Fit c s) {i:Nat} {x:Ae} (hx:c.Signals[i]?=some x):(once c s).Timers.getD i 0=(cQ (vals (gates c s)) x ((gates c s).Values.getD i false) (s.Timers.getD i 0)).2:=by have him:=(LU.1 hx).1;have hv:=hf.t;show ((List.range s.Timers.length).map λi=>(Fk c (gates c s) i).2).getD i 0=_;rw [Dq aa];unfold Fk;rw [hx];rfl
theorem Fj {α:Type} {a b:List α} {d:α} (hl:a.length=b.length) (h:∀ i,i < a.length->a.getD i d=b.getD i d):a=b:=by refine P3 hl λi h1 h2=>?_;have:=h i h1;rw [LV,LV,ak h1,ak h2] at this;exact this
theorem KX {s t:Ad} (h1:s.Ends=t.Ends) (h2:s.Valves=t.Valves) (h3:s.Inputs=t.Inputs) (h4:s.Values=t.Values) (h5:s.Timers=t.Timers):s=t:=by cases s;cases t;simp_all
theorem DW {c:Aa} {k:Nat} {t:Ad} (h:once c t=t):stl c (k + 1) t=some t:=by unfold stl;rw [h,Eg,if_pos rfl]
theorem A0 {c:Aa} {k:Nat} {s:Ad}:stl c (k + 2) s=stl c (k + 1) (once c s):=by show (if bf s (once c s)=true then some s else stl c (k + 1) (once c s))=_;split;rename_i h;have h:=Eh.1 h;rw [← h,DW h.symm];rfl
theorem D3 {c:Aa} {k:Nat} {s t:Ad} (h:stl c 65 s=some t) (h2:rnd c t=s):rst c (k + 1) s=some s:=by unfold rst;rw [h];dsimp only;rw [h2,Eg,if_pos rfl]
theorem A9 {c:Aa} {k:Nat} {s t:Ad} (h:stl c 65 s=some t):rst c (k + 2) s=rst c (k + 1) (rnd c t):=by
 show (match stl c 65 s with
  | none=>none
  | some t=>if bf (rnd c t) s=true then some s else rst c (k + 1) (rnd c t))=_
 rw [h];dsimp only;split
 ·rename_i h2;have h2:=Eh.1 h2;rw [h2,D3 h h2]
 ·rfl
theorem jb {c:Aa} {s:Ad} (h:∀ (i:Nat) (x:Ae),c.Signals[i]?=some x->x.Kind=1->(ev 16 (vals (gates c s)) x.On && ev 16 (vals (gates c s)) x.Off)=false) (y:Int):¬ hJ c s y:=by
 rintro ⟨j,x,hj,hx,rfl,he⟩;unfold cu at he;cases hk:x.Kind == 1 with
 | false=>rw [hk] at he;simp at he
 | true=>
  have:=h j x hx (by simpa using hk);rw [hk,NS] at he;rw [this] at he;cases he
section
inductive Sg where
 | gl (j:Nat)
 | tm (k:Nat)
 | sg (k:Nat)
 | pl (a:Nat) (o:Bool)
structure CasD where
 A:Nat
 n:Nat
 G:Nat
 S:Nat->List (Nat×Bool)
 W:Nat->Bool
 g:Nat->Nat
 la:Nat->Nat
 no:Sg->Nat
 ch:Bool
namespace CasD
def ok (q:CasD):Sg->Prop
 | .gl j=>j < q.G
 | .tm k=>k < q.n/\q.W k=true
 | .sg k=>k < q.n
 | .pl a _=>a < q.A
def L (q:CasD) (x:Sg):Nat:=2 * q.A + 1 + q.no x
def sw (x:Nat×Bool):Nat:=2 * x.1 + x.2.toNat
def en (q:CasD) (k:Nat):QR:=if q.W k=true then [q.L (.tm k)] else (q.S k).map sw
def nx (q:CasD) (j:Nat):Nat:=if j + 1 < q.G then j + 1 else 0
def pv (q:CasD) (j:Nat):Nat:=if j=0 then q.G - 1 else j - 1
def bg (q:CasD) (k:Nat):QR:=if k=0 then [2 * q.A] else if q.g (k - 1)=q.g k then q.en (k - 1) else []
def ex (q:CasD) (j:Nat):QR:=q.en (q.la j) ++ (if q.ch=true/\j + 1=q.G then [2 * q.A] else [])
def at_ (q:CasD) (a:Nat) (o:Bool):QR:=(List.range q.n).filter λk=>decide ((a,o)∈q.S k)
end CasD
structure CasP (c:Aa) (q:CasD):Prop where
 a:cA c=q.A
 i:c.Inputs.length=1
 g2:2<=q.G
 gn:∀ k,k < q.n->q.g k < q.G
 ln:∀ j,j < q.G->q.la j < q.n
 Sa:∀ k,k < q.n->∀ x∈q.S k,x.1 < q.A
 sur:∀ i,i < c.Signals.length->∃ x,q.ok x/\q.no x=i/\∀ k,x=.sg k->q.ch=false
 tmS:∀ k,k < q.n->q.W k=true->∃ x,c.Signals[q.no (.tm k)]?=some x/\x.Kind=2/\x.On=Cd 3 (q.L (.gl (q.g k)) :: (q.S k).map CasD.sw)
 sgS:q.ch=false->∀ k,k < q.n->∃ x,c.Signals[q.no (.sg k)]?=some x/\x.Kind=0/\x.On=Cd 3 (q.L (.gl (q.g k)) :: q.bg k)
 chn:q.ch=true->q.G=q.n/\∀ k,q.g k=k/\q.la k=k/\q.no (.sg k)=q.no (.gl k)
 plS:∀ a o,a < q.A->∃ x,c.Signals[q.no (.pl a o)]?=some x/\x.Kind=0/\x.On=Cd 4 ((q.at_ a o).map λk=>q.L (.sg k))
 glS:q.G≠2->∀ j,j < q.G->∃ x,c.Signals[q.no (.gl j)]?=some x/\x.Kind=1/\x.On=Cd 3 (q.L (.gl (q.pv j)) :: q.ex (q.pv j))/\x.Off=lnx (q.L (.gl (q.nx j)))
 glT:q.G=2->∃ x,c.Signals[q.no (.gl 1)]?=some x/\x.Kind=1/\x.On=Cd 3 (q.ex 0)/\x.Off=Cd 3 (q.ex 1)
 glU:q.G=2->∃ x,c.Signals[q.no (.gl 0)]?=some x/\x.Kind=0/\x.On=⟨2,0,[lnx (q.L (.gl 1))]⟩
 ogs:q.ch=false->q.G=2->∀ k,k < q.n->q.no (.gl 0) < q.no (.sg k)
 osp:∀ k a o,k < q.n->a < q.A->q.no (.sg k) < q.no (.pl a o)
 pls:∀ a,a < q.A->c.Plus.getD a 0=((q.L (.pl a true):Nat):Int)
 mns:∀ a,a < q.A->c.Minus.getD a 0=((q.L (.pl a false):Nat):Int)
structure Bs (c:Aa) (q:CasD) (s:Ad) (E:Nat->Int) (V:Nat->Bool) (M:Nat->Bool) (T:Nat->Int) (st:Bool):Prop where
 fit:Fit c s
 e:∀ a,a < q.A->s.Ends.getD a 0=E a
 v:∀ a,a < q.A->s.Valves.getD a false=V a
 i:s.Inputs.getD 0 false=st
 m:∀ j,j < q.G->(q.G=2->j=1)->s.Values.getD (q.no (.gl j)) false=M j
 m0:q.G=2->M 0=!M 1
 t:∀ k,k < q.n->q.W k=true->s.Timers.getD (q.no (.tm k)) 0=T k/\s.Values.getD (q.no (.tm k)) false=(T k == 2)
def AU (o:Bool):Int:=if o=true then 2 else 0
def CasD.cm (q:CasD) (E:Nat->Int) (k:Nat):Bool:=(q.S k).all λx=>E x.1 == AU x.2
def CasD.EN (q:CasD) (E T:Nat->Int) (k:Nat):Bool:=if q.W k=true then T k == 2 else q.cm E k
def CasD.SG (q:CasD) (E:Nat->Int) (M:Nat->Bool) (T:Nat->Int) (st:Bool) (k:Nat):Bool:=M (q.g k) && (if q.ch=true then true else if k=0 then st else if q.g (k - 1)=q.g k then q.EN E T (k - 1) else true)
def CasD.EX (q:CasD) (E T:Nat->Int) (st:Bool) (j:Nat):Bool:=q.EN E T (q.la j) && (if q.ch=true/\j + 1=q.G then st else true)
def CasD.PL (q:CasD) (E:Nat->Int) (M:Nat->Bool) (T:Nat->Int) (st:Bool) (a:Nat) (o:Bool):Bool:=(q.at_ a o).any λk=>q.SG E M T st k
variable {c:Aa} {q:CasD} {s:Ad} {E:Nat->Int} {V M:Nat->Bool} {T:Nat->Int} {st:Bool}
theorem CasP.cs (hc:CasP c q):cS c=2 * q.A + 1:=by unfold cS;rw [hc.a,hc.i]
theorem CasP.lvL (hc:CasP c q) {s:Ad} (h:Fit c s) (x:Sg):lv s (q.L x)=s.Values.getD (q.no x) false:=by rw [← io h];unfold CasD.L;rw [hc.cs]
theorem CasP.rdyN (hc:CasP c q) {i:Nat} {x:Sg} (h:q.no x < i\/∃ y,c.Signals[q.no x]?=some y/\y.Kind≠0):gR c i (q.L x):=.inr ⟨q.no x,by unfold CasD.L;rw [hc.cs],h⟩
theorem CasP.rdyS (hc:CasP c q) {i k:Nat} (hk:k < q.n):∀ n∈(q.S k).map CasD.sw,gR c i n:=by
 intro n hn;obtain ⟨x,hx,rfl⟩:=MJ.1 hn;have:=hc.Sa k hk x hx;have hb:x.2.toNat<=1:=by cases x.2 <;> decide
 refine .inl ?_;rw [hc.cs];unfold CasD.sw;omega
theorem CasP.rdyE (hc:CasP c q) {i k:Nat} (hk:k < q.n):∀ n∈q.en k,gR c i n:=by intro n hn;unfold CasD.en at hn;split at hn;rename_i hw;obtain rfl:=MZ.1 hn;let ⟨x,h1,h2,_⟩:=hc.tmS k hk hw;exact hc.rdyN (.inr ⟨x,h1,by omega⟩);exact hc.rdyS hk n hn
theorem CasP.rdyG (hc:CasP c q) {i j:Nat} (hj:j < q.G) (hi:q.G=2->q.no (.gl 0) < i):gR c i (q.L (.gl j)):=by by_cases h:q.G=2;let ⟨x,h1,h2,_⟩:=hc.glT h;by_cases e:j=1;subst e;exact hc.rdyN (.inr ⟨x,h1,by omega⟩);(obtain rfl:j=0:=by omega);exact hc.rdyN (.inl (hi h));let ⟨x,h1,h2,_⟩:=hc.glS h j hj;exact hc.rdyN (.inr ⟨x,h1,by omega⟩)
theorem CasP.rdyB (hc:CasP c q) {i k:Nat} (hk:k < q.n):∀ n∈q.bg k,gR c i n:=by intro n hn;unfold CasD.bg at hn;split at hn;obtain rfl:=MZ.1 hn;exact .inl (by rw [hc.cs];omega);split at hn;exact hc.rdyE aa n hn;cases hn
theorem Bs.sw (hc:CasP c q) (h:Bs c q s E V M T st) {x:Nat×Bool} (hx:x.1 < q.A):lv s (CasD.sw x)=(E x.1 == AU x.2):=by unfold CasD.sw;rw [kW h.fit (by rw [hc.a];exact hx),h.e _ hx];rfl
theorem Bs.cmv (hc:CasP c q) (h:Bs c q s E V M T st) {k:Nat} (hk:k < q.n):((q.S k).map CasD.sw).all (lv s)=q.cm E k:=by unfold CasD.cm;rw [List.all_map];rw [NB,L5,L5];exact ⟨λg x hx=>by rw [← h.sw hc (hc.Sa k hk x hx)];exact g x hx,λg x hx=>by show lv s (CasD.sw x)=true;rw [h.sw hc (hc.Sa k hk x hx)];exact g x hx⟩
theorem Bs.env (hc:CasP c q) (h:Bs c q s E V M T st) {k:Nat} (hk:k < q.n):(q.en k).all (lv s)=q.EN E T k:=by unfold CasD.en CasD.EN;split;rename_i hw;rw [PD,List.all_nil,ON,hc.lvL h.fit,(h.t k hk hw).2];exact h.cmv hc hk
theorem Bs.inv (hc:CasP c q) (h:Bs c q s E V M T st):lv s (2 * q.A)=st:=by have:=kX h.fit (i:=0) (by rw [hc.i];omega);rw [hc.a] at this;rw [show 2 * q.A=2 * q.A + 0 from rfl,this];exact h.i
theorem Bs.exv (hc:CasP c q) (h:Bs c q s E V M T st) {j:Nat} (hj:j < q.G):(q.ex j).all (lv s)=q.EX E T st j:=by unfold CasD.ex CasD.EX;rw [List.all_append,h.env hc (hc.ln j hj)];congr 1;split;rw [PD,List.all_nil,ON];exact h.inv hc;rfl
theorem CasP.sgC (hc:CasP c q) (h:q.ch=true) {k:Nat} (hk:k < q.n):k < q.G/\q.no (.sg k)=q.no (.gl k)/\q.SG E M T st k=M k:=by let ⟨h1,h2⟩:=hc.chn h;let ⟨h3,_,h4⟩:=h2 k;refine ⟨by omega,h4,?_⟩;unfold CasD.SG;rw [if_pos h,h3,ON]
structure Gk (c:Aa) (q:CasD) (s:Ad) (E:Nat->Int) (M:Nat->Bool) (T:Nat->Int) (st:Bool):Prop where
 gl:∀ j,j < q.G->s.Values.getD (q.no (.gl j)) false=M j
 sg:∀ k,k < q.n->s.Values.getD (q.no (.sg k)) false=q.SG E M T st k
 pl:∀ a o,a < q.A->s.Values.getD (q.no (.pl a o)) false=q.PL E M T st a o
theorem Bs.gates (hc:CasP c q) (h:Bs c q s E V M T st):Bs c q (gates c s) E V M T st:=by refine ⟨Da h.fit,h.e,h.v,h.i,λj hj hg=>?_,h.m0,λk hk hw=>⟨(h.t k hk hw).1,?_⟩⟩;(have:∃ x,c.Signals[q.no (.gl j)]?=some x/\x.Kind=1:=by by_cases h2:q.G=2;obtain rfl:=hg h2;let ⟨x,h1,h3,_⟩:=hc.glT h2;exact ⟨x,h1,h3⟩;let ⟨x,h1,h3,_⟩:=hc.glS h2 j hj;exact ⟨x,h1,h3⟩);let ⟨x,h1,h2⟩:=this;rw [Yn h1 aa];exact h.m j hj hg;let ⟨x,h1,h2,_⟩:=hc.tmS k hk hw;rw [Yn h1 aa];exact (h.t k hk hw).2
theorem Bs.gk (hc:CasP c q) (h:Bs c q s E V M T st):Gk c q (Pn.gates c s) E M T st:=by (have hg:=h.gates hc;have hf:=h.fit;have gl:∀ j,j < q.G->(Pn.gates c s).Values.getD (q.no (.gl j)) false=M j:=by intro j hj;by_cases h2:q.G=2;by_cases e:j=1;exact hg.m j hj λ_=>e;(obtain rfl:j=0:=by omega);let ⟨x,h1,h3,h4⟩:=hc.glU h2;let ⟨y,g1,g3,_⟩:=hc.glT h2;rw [G2 hf h1 h3 h4 (hc.rdyN (.inr ⟨y,g1,by omega⟩)),hc.lvL hg.fit,hg.m 1 aa λ_=>rfl,h.m0 h2];exact hg.m j hj λe=>absurd e h2);(have sg:∀ k,k < q.n->(Pn.gates c s).Values.getD (q.no (.sg k)) false=q.SG E M T st k:=by intro k hk;by_cases hch:q.ch=true;let ⟨h1,h2,h3⟩:=hc.sgC (E:=E) (M:=M) (T:=T) (st:=st) hch hk;rw [h2,gl k h1,h3];(have hcf:q.ch=false:=by simpa using hch);let ⟨x,h1,h2,h3⟩:=hc.sgS hcf k hk;rw [G3 hf h1 h2 h3 (λn hn=>by (rcases MH.1 hn with rfl | hn);exact hc.rdyG (hc.gn k hk) λe=>hc.ogs hcf e k hk;exact hc.rdyB hk n hn),PD,hc.lvL hg.fit,gl _ (hc.gn k hk)];unfold CasD.SG CasD.bg;rw [if_neg hch];congr 1;by_cases e:k=0;rw [if_pos e,if_pos e,PD,List.all_nil,ON];exact hg.inv hc;rw [if_neg e,if_neg e];split;exact hg.env hc aa;rfl);refine ⟨gl,sg,λa o ha=>?_⟩;let ⟨x,h1,h2,h3⟩:=hc.plS a o ha;have hmem:∀ k∈q.at_ a o,k < q.n:=λk hk=>L4.1 (NX.1 hk).1;rw [KA hf h1 h2 h3 (λn hn=>by obtain ⟨k,hk,rfl⟩:=MJ.1 hn;exact hc.rdyN (.inl (hc.osp k a o (hmem k hk) ha))),List.any_map];unfold CasD.PL;rw [NB,MD,MD];exact ⟨λ⟨k,hk,g⟩=>⟨k,hk,by rw [← sg k (hmem k hk),← hc.lvL hg.fit];exact g⟩,λ⟨k,hk,g⟩=>⟨k,hk,by show lv _ (q.L (.sg k))=true;rw [hc.lvL hg.fit,sg k (hmem k hk)];exact g⟩⟩
end
section
variable {c:Aa} {q:CasD} {s:Ad} {E:Nat->Int} {V M:Nat->Bool} {T:Nat->Int} {st:Bool}
theorem Bs.eq (hc:CasP c q) {t:Ad} (hs:Bs c q s E V M T st) (ht:Bs c q t E V M T st) (gs:Gk c q s E M T st) (gt:Gk c q t E M T st):s=t:=by
 have f:=hs.fit;have f':=ht.fit;have ha:=hc.a;have hi:=hc.i;refine KX ?_ ?_ ?_ ?_ ?_
 ·exact Fj (d:=0) (f.e.trans f'.e.symm) λi h=>by rw [hs.e i (by have:=f.e;omega),ht.e i (by have:=f.e;omega)]
 ·exact Fj (d:=false) (f.v.trans f'.v.symm) λi h=>by rw [hs.v i (by have:=f.v;omega),ht.v i (by have:=f.v;omega)]
 ·refine Fj (d:=false) (f.i.trans f'.i.symm) λi h=>?_;obtain rfl:i=0:=by have:=f.i;omega
  rw [hs.i,ht.i]
 ·refine Fj (d:=false) (f.x.trans f'.x.symm) λi h=>?_;obtain ⟨x,hx,rfl,_⟩:=hc.sur i (by have:=f.x;omega);cases x with
  | gl j=>rw [gs.gl j hx,gt.gl j hx]
  | tm k=>rw [(hs.t k hx.1 hx.2).2,(ht.t k hx.1 hx.2).2]
  | sg k=>rw [gs.sg k hx,gt.sg k hx]
  | pl a o=>rw [gs.pl a o hx,gt.pl a o hx]
 ·refine Fj (d:=0) (f.t.trans f'.t.symm) λi h=>?_;have hlt:i < c.Signals.length:=by have:=f.t;omega
  have hz:∀ u:Ad,Fit c u->c.Signals[i].Kind≠2->u.Timers.getD i 0=0:=λu fu hk=>by
   have h1:i < u.Timers.length:=by rw [fu.t];exact hlt
   have h2:i < u.Values.length:=by rw [fu.x];exact hlt
   have:=(fu.k i _ _ _ (ak hlt) (ak h1) (ak h2)).1 hk;rw [LV,ak h1];exact this
  by_cases hk:c.Signals[i].Kind=2
  ·obtain ⟨x,hx,rfl,hsg⟩:=hc.sur i hlt;have hg:=ak hlt;cases x with
   | gl j=>
    exfalso;by_cases h2:q.G=2
    ·by_cases e:j=1
     ·subst e;let ⟨y,h1,h3,_⟩:=hc.glT h2;rw [hg] at h1;rw [Option.some.inj h1] at hk;omega
     ·obtain rfl:j=0:=by have:j < q.G:=hx;omega
      let ⟨y,h1,h3,_⟩:=hc.glU h2;rw [hg] at h1;rw [Option.some.inj h1] at hk;omega
    ·let ⟨y,h1,h3,_⟩:=hc.glS h2 j hx;rw [hg] at h1;rw [Option.some.inj h1] at hk;omega
   | tm k=>rw [(hs.t k hx.1 hx.2).1,(ht.t k hx.1 hx.2).1]
   | sg k=>exfalso;let ⟨y,h1,h3,_⟩:=hc.sgS (hsg k rfl) k hx;rw [hg] at h1;rw [Option.some.inj h1] at hk;omega
   | pl a o=>exfalso;let ⟨y,h1,h3,_⟩:=hc.plS a o hx;rw [hg] at h1;rw [Option.some.inj h1] at hk;omega
  ·rw [hz s f hk,hz t f' hk]
theorem Bs.gg (hc:CasP c q) (h:Bs c q s E V M T st):Pn.gates c (Pn.gates c s)=Pn.gates c s:=
 Bs.eq hc ((h.gates hc).gates hc) (h.gates hc) ((h.gates hc).gk hc) (h.gk hc)
def CasD.on (q:CasD) (E:Nat->Int) (M:Nat->Bool) (T:Nat->Int) (st:Bool) (j:Nat):Bool:=if q.G=2 then q.EX E T st 0 else M (q.pv j) && q.EX E T st (q.pv j)
def CasD.off (q:CasD) (E:Nat->Int) (M:Nat->Bool) (T:Nat->Int) (st:Bool) (j:Nat):Bool:=if q.G=2 then q.EX E T st 1 else M (q.nx j)
def CasD.md (q:CasD) (E:Nat->Int) (M:Nat->Bool) (T:Nat->Int) (st:Bool) (j:Nat):Bool:=if q.on E M T st j=q.off E M T st j then M j else q.on E M T st j
def CasD.M1 (q:CasD) (E:Nat->Int) (M:Nat->Bool) (T:Nat->Int) (st:Bool) (j:Nat):Bool:=if q.G=2/\j=0 then !(q.md E M T st 1) else q.md E M T st j
def CasD.T1 (q:CasD) (E:Nat->Int) (M:Nat->Bool) (T:Nat->Int) (k:Nat):Int:=if (M (q.g k) && q.cm E k)=false then 0 else if T k=0 then 1 else T k
theorem CasD.pvl {q:CasD} (h:2<=q.G) {j:Nat} (hj:j < q.G):q.pv j < q.G:=by unfold CasD.pv; split <;> omega
theorem CasD.nxl {q:CasD} (h:2<=q.G) {j:Nat}:q.nx j < q.G:=by unfold CasD.nx; split <;> omega
theorem CasP.mem (hc:CasP c q) (h:Bs c q s E V M T st) {j:Nat} (hj:j < q.G) (hg:q.G=2->j=1):∃ x,c.Signals[q.no (.gl j)]?=some x/\x.Kind=1/\ev 16 (vals (gates c s)) x.On=q.on E M T st j/\ev 16 (vals (gates c s)) x.Off=q.off E M T st j:=by have gb:=h.gates hc;have gk:=h.gk hc;have h2:=hc.g2;by_cases e:q.G=2;obtain rfl:=hg e;let ⟨x,a1,a2,a3,a4⟩:=hc.glT e;refine ⟨x,a1,a2,?_,?_⟩;rw [a3,So];unfold CasD.on;rw [if_pos e];exact gb.exv hc aa;rw [a4,So];unfold CasD.off;rw [if_pos e];exact gb.exv hc aa;let ⟨x,a1,a2,a3,a4⟩:=hc.glS e j hj;have p1:=CasD.pvl h2 hj;refine ⟨x,a1,a2,?_,?_⟩;(rw [a3,So];unfold CasD.on;rw [if_neg e];have h3:=gb.exv hc p1;have h4:lv (gates c s) (q.L (.gl (q.pv j)))=M (q.pv j):=by rw [hc.lvL gb.fit,gk.gl _ p1]);show ((q.L (.gl (q.pv j)) :: q.ex (q.pv j)).all (lv (gates c s)))=_;rw [PD,h3,h4];rw [a4];unfold CasD.off;rw [if_neg e];rw [show (16:Nat)=15 + 1 from rfl,Uj];show lv (gates c s) (q.L (.gl (q.nx j)))=_;rw [hc.lvL gb.fit,gk.gl _ (CasD.nxl h2)]
theorem CasP.tim (hc:CasP c q) (h:Bs c q s E V M T st) {k:Nat} (hk:k < q.n) (hw:q.W k=true):∃ x,c.Signals[q.no (.tm k)]?=some x/\x.Kind=2/\ev 16 (vals (gates c s)) x.On=(M (q.g k) && q.cm E k):=by
 have gb:=h.gates hc;have gk:=h.gk hc;let ⟨x,a1,a2,a3⟩:=hc.tmS k hk hw;refine ⟨x,a1,a2,?_⟩;rw [a3,So];have h3:=gb.cmv hc hk;have h4:lv (gates c s) (q.L (.gl (q.g k)))=M (q.g k):=by rw [hc.lvL gb.fit,gk.gl _ (hc.gn k hk)]
 show ((q.L (.gl (q.g k)) :: (q.S k).map CasD.sw).all (lv (gates c s)))=_;rw [PD,h3,h4]
theorem Bs.once (hc:CasP c q) (h:Bs c q s E V M T st):Bs c q (Pn.once c s) E V (q.M1 E M T st) (q.T1 E M T) st:=by have gb:=h.gates hc;have gk:=h.gk hc;refine ⟨Pb h.fit,h.e,h.v,h.i,λj hj hg=>?_,λe=>?_,λk hk hw=>?_⟩;(let ⟨x,a1,a2,a3,a4⟩:=hc.mem h hj hg;rw [Vc h.fit a1];unfold cQ;rw [if_pos a2];unfold cu;rw [a3,a4,a2,gb.m j hj hg,show ((1:Int) == 1)=true from rfl,NS];have hM1:q.M1 E M T st j=q.md E M T st j:=by unfold CasD.M1;exact if_neg (λe=>by have:=hg e.1;omega));rw [hM1];unfold CasD.md;by_cases h7:q.on E M T st j=q.off E M T st j;rw [if_pos h7,if_pos h7];rw [if_neg h7,if_neg h7];unfold CasD.M1;rw [if_pos ⟨e,rfl⟩,if_neg aa];let ⟨x,a1,a2,a3⟩:=hc.tim h hk hw;have h1:=gb.t k hk hw;have h2:=h.t k hk hw;rw [Vc h.fit a1,JC h.fit a1,h2.1,h1.2];unfold cQ CasD.T1;rw [if_neg aa,if_pos a2,a3];by_cases h5:(M (q.g k) && q.cm E k)=false;rw [if_pos h5,if_pos h5];exact ⟨rfl,rfl⟩;rw [if_neg h5,if_neg h5];by_cases h6:T k=0;rw [if_pos h6,if_pos h6];rw [h6];exact ⟨rfl,rfl⟩;rw [if_neg h6,if_neg h6];exact ⟨rfl,rfl⟩
theorem Bs.once_gk (hc:CasP c q) (h:Bs c q s E V M T st) (hM:∀ j,j < q.G->q.M1 E M T st j=M j):Gk c q (Pn.once c s) E M T st:=by (have gk:=h.gk hc;have key:∀ i x,c.Signals[i]?=some x->x.Kind=0->(Pn.once c s).Values.getD i false=(Pn.gates c s).Values.getD i false:=λi x hx hk=>by rw [Vc h.fit hx];unfold cQ;rw [if_neg aa,if_neg aa]);(have gl:∀ j,j < q.G->(Pn.once c s).Values.getD (q.no (.gl j)) false=M j:=λj hj=>by by_cases e:q.G=2/\j=0;obtain ⟨e1,rfl⟩:=e;let ⟨x,a1,a2,_⟩:=hc.glU e1;rw [key _ _ a1 a2,gk.gl 0 hj];rw [(h.once hc).m j hj (λe1=>by omega),hM j hj]);refine ⟨gl,λk hk=>?_,λa o ha=>?_⟩;by_cases hch:q.ch=true;let ⟨h1,h2,h3⟩:=hc.sgC (E:=E) (M:=M) (T:=T) (st:=st) hch hk;rw [h2,gl k h1,h3];let ⟨x,a1,a2,_⟩:=hc.sgS (by simpa using hch) k hk;rw [key _ _ a1 a2,gk.sg k hk];let ⟨x,a1,a2,_⟩:=hc.plS a o ha;rw [key _ _ a1 a2,gk.pl a o ha]
theorem Bs.cong (h:Bs c q s E V M T st) (hq:2<=q.G) {E':Nat->Int} {V' M':Nat->Bool} {T':Nat->Int} (hE:∀ a,a < q.A->E a=E' a) (hV:∀ a,a < q.A->V a=V' a) (hM:∀ j,j < q.G->M j=M' j) (hT:∀ k,k < q.n->q.W k=true->T k=T' k):Bs c q s E' V' M' T' st:=
 ⟨h.fit,λa ha=>by rw [h.e a ha,hE a ha],λa ha=>by rw [h.v a ha,hV a ha],h.i,λj hj hg=>by rw [h.m j hj hg,hM j hj],λe=>by rw [← hM 0 aa,← hM 1 aa];exact h.m0 e,λk hk hw=>by rw [← hT k hk hw];exact h.t k hk hw⟩
theorem Bs.stl (hc:CasP c q) (h:Bs c q s E V M T st) (hM:∀ j,j < q.G->q.M1 E M T st j=M j) (hT:∀ k,k < q.n->q.W k=true->q.T1 E M T k=T k) (k:Nat):Pn.stl c (k + 2) s=some (Pn.gates c s):=by (have key:∀ u,Bs c q u E V M T st->Pn.once c u=Pn.gates c u:=λu hu=>by have h1:=hu.once hc;exact Bs.eq hc (h1.cong hc.g2 (λ_ _=>rfl) (λ_ _=>rfl) hM hT) (hu.gates hc) (hu.once_gk hc hM) (hu.gk hc));rw [A0,key s h];exact DW ((key _ (h.gates hc)).trans (h.gg hc))
theorem Bs.noc (hc:CasP c q) (h:Bs c q s E V M T st) (hn:∀ j,j < q.G->(q.G=2->j=1)->(q.on E M T st j && q.off E M T st j)=false) (y:Int):¬ hJ c s y:=by
 refine jb (λi x hx hk=>?_) y;have hlt:=(LU.1 hx).1;obtain ⟨z,hz,rfl,hsg⟩:=hc.sur i hlt;cases z with
 | gl j=>
  have hj:j < q.G:=hz;have hg:q.G=2->j=1:=λe=>by
   by_cases e1:j=1
   ·exact e1
   ·obtain rfl:j=0:=by omega
    let ⟨y,h1,h3,_⟩:=hc.glU e;rw [hx] at h1;rw [Option.some.inj h1] at hk;omega
  let ⟨y,a1,a2,a3,a4⟩:=hc.mem h hj hg;rw [hx] at a1;obtain rfl:=Option.some.inj a1;rw [a3,a4];exact hn j hj hg
 | tm k=>let ⟨y,h1,h3,_⟩:=hc.tmS k hz.1 hz.2;rw [hx] at h1;rw [Option.some.inj h1] at hk;omega
 | sg k=>let ⟨y,h1,h3,_⟩:=hc.sgS (hsg k rfl) k hz;rw [hx] at h1;rw [Option.some.inj h1] at hk;omega
 | pl a o=>let ⟨y,h1,h3,_⟩:=hc.plS a o hz;rw [hx] at h1;rw [Option.some.inj h1] at hk;omega
end
section
variable {c:Aa} {q:CasD} {s:Ad} {E:Nat->Int} {V M:Nat->Bool} {T:Nat->Int} {st:Bool}
def CasD.V1 (q:CasD) (E:Nat->Int) (V M:Nat->Bool) (T:Nat->Int) (st:Bool) (a:Nat):Bool:=if q.PL E M T st a true=q.PL E M T st a false then V a else q.PL E M T st a true
def CasD.E1 (q:CasD) (E:Nat->Int) (V M:Nat->Bool) (T:Nat->Int) (st:Bool) (a:Nat):Int:=Fu (q.V1 E V M T st a) (E a)
theorem Bs.lin (hc:CasP c q) (h:Bs c q s E V M T st) (g:Gk c q s E M T st) {a:Nat} (ha:a < q.A) (o:Bool):Pn.lin s (if o=true then c.Plus.getD a 0 else c.Minus.getD a 0)=q.PL E M T st a o:=by
 have key:Pn.lin s ((q.L (.pl a o):Nat):Int)=q.PL E M T st a o:=by
  unfold Pn.lin;rw [M3];show lv s (q.L (.pl a o))=_;rw [hc.lvL h.fit,g.pl a o ha]
 cases o with
 | true=>rw [if_pos rfl,hc.pls a ha];exact key
 | false=>rw [if_neg (by decide),hc.mns a ha];exact key
theorem Bs.vlv (hc:CasP c q) (h:Bs c q s E V M T st) (g:Gk c q s E M T st) {a:Nat} (ha:a < q.A):Pn.vlv c s a=q.V1 E V M T st a:=by have h1:=h.lin hc g ha true;have h2:=h.lin hc g ha false;rw [if_pos rfl] at h1;rw [if_neg (by decide)] at h2;unfold Pn.vlv CasD.V1;rw [h1,h2,h.v a ha]
theorem Bs.rnd (hc:CasP c q) (h:Bs c q s E V M T st) (g:Gk c q s E M T st):Bs c q (Pn.rnd c s) (q.E1 E V M T st) (q.V1 E V M T st) M T st:=by have ha:=hc.a;refine ⟨Pz h.fit,λa h1=>?_,λa h1=>?_,h.i,h.m,h.m0,h.t⟩;show ((List.range s.Ends.length).map λi=>Fu (Pn.vlv c s i) (s.Ends.getD i 0)).getD a 0=_;rw [Dq (by rw [h.fit.e];omega),h.vlv hc g h1,h.e a h1];rfl;show ((List.range s.Valves.length).map (Pn.vlv c s)).getD a false=_;rw [Dq (by rw [h.fit.v];omega),h.vlv hc g h1]
theorem Bs.rnd_same (hc:CasP c q) (h:Bs c q s E V M T st) (g:Gk c q s E M T st) (hE:∀ a,a < q.A->q.E1 E V M T st a=E a) (hV:∀ a,a < q.A->q.V1 E V M T st a=V a):Pn.rnd c s=s:=by have hr:=h.rnd hc g;have ha:=hc.a;refine KX ?_ ?_ rfl rfl rfl;(exact Fj (d:=0) (hr.fit.e.trans h.fit.e.symm) λi hi=>by have:=hr.fit.e;rw [hr.e i aa,h.e i aa,hE i aa]);exact Fj (d:=false) (hr.fit.v.trans h.fit.v.symm) λi hi=>by have:=hr.fit.v;rw [hr.v i aa,h.v i aa,hV i aa]
theorem Bs.nop (hc:CasP c q) (h:Bs c q s E V M T st) (g:Gk c q s E M T st) (hn:∀ a,a < q.A->(q.PL E M T st a true && q.PL E M T st a false)=false) (y:Int):¬ kF c s y:=by
 rintro ⟨a,ha,_,hy⟩;have ha':a < q.A:=by rw [← hc.a];exact ha
 have h1:=h.lin hc g ha' true;have h2:=h.lin hc g ha' false;rw [if_pos rfl] at h1;rw [if_neg (by decide)] at h2;rw [h1,h2,hn a ha'] at hy;cases hy
def CasD.nc (q:CasD) (E:Nat->Int) (M:Nat->Bool) (T:Nat->Int) (st:Bool):Prop:=∀ j,j < q.G->(q.G=2->j=1)->(q.on E M T st j && q.off E M T st j)=false
inductive Setl (q:CasD) (E:Nat->Int) (st:Bool):Nat->(Nat->Bool)->(Nat->Int)->(Nat->Bool)->(Nat->Int)->Prop
 | fix {M:Nat->Bool} {T:Nat->Int} (hM:∀ j,j < q.G->q.M1 E M T st j=M j) (hT:∀ k,k < q.n->q.W k=true->q.T1 E M T k=T k) (hn:q.nc E M T st):Setl q E st 0 M T M T
 | step {r:Nat} {M M' Ms:Nat->Bool} {T T' Ts:Nat->Int} (hM:∀ j,j < q.G->q.M1 E M T st j=M' j) (hT:∀ k,k < q.n->q.W k=true->q.T1 E M T k=T' k) (hn:q.nc E M T st) (h:Setl q E st r M' T' Ms Ts):Setl q E st (r + 1) M T Ms Ts
theorem Setl.run (hc:CasP c q) {r:Nat} {Ms:Nat->Bool} {Ts:Nat->Int} (h:Setl q E st r M T Ms Ts):∀ {s:Ad} {k:Nat},Bs c q s E V M T st->r + 2<=k ->
  ∃ t,stl c k s=some t/\Bs c q t E V Ms Ts st/\Gk c q t E Ms Ts st/\gates c t=t/\∀ y,¬ Zj c k s y:=by
 induction h with
 | fix hM hT hn=>
  intro s k hb hk;obtain ⟨k,rfl⟩:∃ k',k=k' + 2:=⟨k - 2,by omega⟩;have g:=hb.gates hc;refine ⟨gates c s,hb.stl hc hM hT k,g,hb.gk hc,hb.gg hc,λy hy=>?_⟩;have h1:=g.stl hc hM hT 0;rw [hb.gg hc] at h1;have key:∀ u,Bs c q u E V _ _ st->once c u=gates c u:=λu hu=>by
   have h1:=hu.once hc;exact Bs.eq hc (h1.cong hc.g2 (λ_ _=>rfl) (λ_ _=>rfl) hM hT) (hu.gates hc) (hu.once_gk hc hM) (hu.gk hc)
  rcases hy with hy | ⟨_,hy⟩
  ·exact hb.noc hc hn y hy
  ·rw [key s hb] at hy;rcases hy with hy | ⟨hy,_⟩
   ·exact g.noc hc hn y hy
   ·rw [key _ g,hb.gg hc,Eg] at hy;cases hy
 | step hM hT hn h ih=>
  intro s k hb hk;obtain ⟨k,rfl⟩:∃ k',k=k' + 2:=⟨k - 2,by omega⟩;have h1:=(hb.once hc).cong hc.g2 (λ_ _=>rfl) (λ_ _=>rfl) hM hT;let ⟨t,h2,h3,h4,h5,h6⟩:=ih (k:=k + 1) h1 aa;refine ⟨t,by rw [A0,h2],h3,h4,h5,λy hy=>?_⟩;rcases hy with hy | ⟨_,hy⟩
  ·exact hb.noc hc hn y hy
  ·exact h6 y hy
structure ko (q:CasD) (E:Nat->Int) (V M:Nat->Bool) (T:Nat->Int) (st:Bool):Prop where
 fM:∀ j,j < q.G->q.M1 E M T st j=M j
 fT:∀ k,k < q.n->q.W k=true->q.T1 E M T k=T k
 fE:∀ a,a < q.A->q.E1 E V M T st a=E a
 fV:∀ a,a < q.A->q.V1 E V M T st a=V a
 fn:q.nc E M T st
 fp:∀ a,a < q.A->(q.PL E M T st a true && q.PL E M T st a false)=false
structure At_ (c:Aa) (q:CasD) (s:Ad) (E:Nat->Int) (V M:Nat->Bool) (T:Nat->Int) (st:Bool):Prop where
 b:Bs c q s E V M T st
 g:Gk c q s E M T st
 r:ko q E V M T st
theorem At_.gates (hc:CasP c q) (h:At_ c q s E V M T st):Pn.gates c s=s:=Bs.eq hc (h.b.gates hc) h.b (h.b.gk hc) h.g
theorem At_.stl (hc:CasP c q) (h:At_ c q s E V M T st):Pn.stl c 65 s=some s:=by have:=h.b.stl hc h.r.fM h.r.fT 63;rw [h.gates hc] at this;exact this
theorem At_.rnd (hc:CasP c q) (h:At_ c q s E V M T st):Pn.rnd c s=s:=h.b.rnd_same hc h.g h.r.fE h.r.fV
theorem At_.rst (hc:CasP c q) (h:At_ c q s E V M T st) (k:Nat):Pn.rst c (k + 1) s=some s:=D3 (h.stl hc) (h.rnd hc)
theorem At_.qt (hc:CasP c q) (h:At_ c q s E V M T st):Qt c s:=⟨s,h.stl hc,by rw [h.rnd hc,Eg]⟩
theorem At_.rstP (hc:CasP c q) (h:At_ c q s E V M T st) (k:Nat) (y:Int):¬ Pn.rstP c (k + 1) s y:=by (intro hy;unfold Pn.rstP at hy;let ⟨t,h1,h2,h3,h4,h5⟩:=(Setl.fix h.r.fM h.r.fT h.r.fn).run hc h.b (k:=65) aa;rw [h.stl hc] at h1 hy;obtain rfl:=Option.some.inj h1;rcases hy with (hy | hy) | ⟨hy,_⟩);exact h5 y hy;exact h.b.nop hc h.g h.r.fp y hy;rw [h.rnd hc,Eg] at hy;cases hy
theorem Bs.rest (hc:CasP c q) {r:Nat} {Ms:Nat->Bool} {Ts E':Nat->Int} {V':Nat->Bool} (hb:Bs c q s E V M T st) (h:Setl q E st r M T Ms Ts) (hr:r<=60)
  (hp:∀ a,a < q.A->(q.PL E Ms Ts st a true && q.PL E Ms Ts st a false)=false)
  (hE:∀ a,a < q.A->q.E1 E V Ms Ts st a=E' a) (hV:∀ a,a < q.A->q.V1 E V Ms Ts st a=V' a) (hR:ko q E' V' Ms Ts st) :
  ∃ u,Pn.rst c 65 s=some u/\At_ c q u E' V' Ms Ts st/\∀ y,¬ Pn.rstP c 65 s y:=by let ⟨t,h1,h2,h3,h4,h5⟩:=h.run hc hb (k:=65) aa;have b2:=(h2.rnd hc h3).cong hc.g2 hE hV (λ_ _=>rfl) (λ_ _ _=>rfl);let ⟨u,g1,g2,g3,g4,g5⟩:=(Setl.fix hR.fM hR.fT hR.fn).run hc b2 (k:=65) aa;have hu:At_ c q u E' V' Ms Ts st:=⟨g2,g3,hR⟩;refine ⟨u,?_,hu,λy hy=>?_⟩;rw [A9 h1,A9 g1,hu.rnd hc,hu.rst hc];(unfold Pn.rstP at hy;rw [h1] at hy;dsimp only at hy;rcases hy with (hy | hy) | ⟨_,hy⟩);exact h5 y hy;exact h2.nop hc h3 hp y hy;(unfold Pn.rstP at hy;rw [g1] at hy;dsimp only at hy;rcases hy with (hy | hy) | ⟨_,hy⟩);exact g5 y hy;exact g2.nop hc g3 hR.fp y hy;rw [hu.rnd hc] at hy;exact hu.rstP hc _ y hy
end
section
def CasD.pos (q:CasD):Nat->Nat->Bool
 | 0,_=>false
 | k + 1,a=>if (a,true)∈q.S k then true else if (a,false)∈q.S k then false else q.pos k a
structure SqP (q:CasD):Prop where
 n0:0 < q.n
 ne:∀ k,k < q.n->q.S k≠[]
 fits:∀ k,k < q.n->∀ a o,(a,o)∈q.S k->q.pos k a=!o
 back:∀ a,q.pos q.n a=false
 g0:q.g 0=0
 gs:∀ k,k + 1 < q.n->q.g (k + 1)=q.g k\/q.g (k + 1)=q.g k + 1
 gl:q.g (q.n - 1) + 1=q.G
 gu:∀ i k,i < k->k < q.n->q.g i=q.g k->∀ a o o',(a,o)∈q.S i->(a,o')∈q.S k->False
 gch:q.ch=true->∀ k,q.g k=k
 la:∀ j,j < q.G->q.g (q.la j)=j/\(q.la j + 1 < q.n->q.g (q.la j + 1)=j + 1)
variable {q:CasD}
theorem SqP.pos_in (h:SqP q) {k a:Nat} {o:Bool} (hk:k < q.n) (ha:(a,o)∈q.S k):q.pos (k + 1) a=o:=by
 have h1:=h.fits k hk a o ha;unfold CasD.pos;cases o with
 | true=>rw [if_pos ha]
 | false=>
  rw [if_neg (λe=>by have:=h.fits k hk a true e;rw [h1] at this;cases this),if_pos ha]
theorem Em {k a:Nat} (ha:∀ o,(a,o) ∉ q.S k):q.pos (k + 1) a=q.pos k a:=by show (if (a,true)∈q.S k then true else if (a,false)∈q.S k then false else q.pos k a)=_;rw [if_neg (ha true),if_neg (ha false)]
theorem SqP.mono (h:SqP q) {i:Nat}:∀ {k:Nat},i<=k->k < q.n->q.g i<=q.g k
 | 0,h1,_=>by
  obtain rfl:i=0:=by omega
  exact MG _
 | k + 1,h1,h2=>by
  rcases NE h1 with e | e
  ·subst e;exact MG _
  ·have:=h.mono (i:=i) (k:=k) aa aa;rcases h.gs k h2 with e | e <;> omega
theorem SqP.btw (h:SqP q) {i m k:Nat} (h1:i<=m) (h2:m<=k) (h3:k < q.n) (hg:q.g i=q.g k):q.g m=q.g k:=by have a:=h.mono h1 aa;have b:=h.mono h2 h3;omega
theorem SqP.posK (h:SqP q) {i a:Nat} {o:Bool} (ha:(a,o)∈q.S i):∀ {k:Nat},i<=k->k < q.n->q.g i=q.g k->q.pos (k + 1) a=o
 | 0,h1,h2,_=>by
  obtain rfl:i=0:=by omega
  exact h.pos_in h2 ha
 | k + 1,h1,h2,hg=>by
  rcases NE h1 with e | e
  ·subst e;exact h.pos_in h2 ha
  ·have hb:=h.btw (show i<=k by omega) (show k<=k + 1 by omega) h2 hg;rw [Em (λo' ho=>h.gu i (k + 1) e h2 hg a o o' ha ho)];exact h.posK ha aa aa aa
theorem SqP.posB (h:SqP q) {f k a:Nat} {o:Bool} (hk:k < q.n) (ha:(a,o)∈q.S k) (hf:f<=k) (hg:q.g f=q.g k):q.pos f a=!o:=by
 have key:∀ d,d<=k - f->q.pos (k - d) a=!o:=by
  intro d
  induction d with
  | zero=>intro _;exact h.fits k hk a o ha
  | succ d ih=>
   intro hd;have h1:=ih aa;have hm:=h.btw (show f<=k - (d + 1) by omega) (show k - (d + 1)<=k by omega) hk hg;rw [show k - d=k - (d + 1) + 1 by omega,Em (λo' ho=>h.gu (k - (d + 1)) k aa hk hm a o' o ho ha)] at h1;exact h1
 have:=key (k - f) (MG _);rw [show k - (k - f)=f by omega] at this;exact this
def CasD.Ek (q:CasD) (k:Nat) (mv:Nat->Bool) (a:Nat):Int:=if mv a=true then (if q.pos (k + 1) a=true then 1 else 3) else AU (q.pos (k + 1) a)
def CasD.Ep (q:CasD) (f a:Nat):Int:=AU (q.pos f a)
theorem Wb {a b:Bool}:(AU a == AU b)=(a == b):=by cases a <;> cases b <;> decide
def CasD.mvs (q:CasD) (k:Nat) (mv:Nat->Bool):Prop:=∀ a,mv a=true->∃ o,(a,o)∈q.S k
theorem SqP.cm_lo (h:SqP q) {k i:Nat} {mv:Nat->Bool} (hm:q.mvs k mv) (hi:i < k) (hk:k < q.n) (hg:q.g i=q.g k):q.cm (q.Ek k mv) i=true:=by
 unfold CasD.cm;rw [L5];rintro ⟨a,o⟩ hx;have hma:mv a=false:=by
  cases e:mv a with
  | false=>rfl
  | true=>let ⟨o',ho⟩:=hm a e;exact (h.gu i k hi hk hg a o o' hx ho).elim
 show (q.Ek k mv a == AU o)=true;unfold CasD.Ek;rw [if_neg (by rw [hma];decide),h.posK hx aa hk hg,Wb];simp
theorem SqP.cm_at (h:SqP q) {k:Nat} {mv:Nat->Bool} (hk:k < q.n):q.cm (q.Ek k mv) k=(q.S k).all λx=>!(mv x.1):=by
 unfold CasD.cm;rw [NB,L5,L5];have key:∀ x∈q.S k,(q.Ek k mv x.1 == AU x.2)=!(mv x.1):=by
  rintro ⟨a,o⟩ hx;unfold CasD.Ek;rw [h.pos_in hk hx];dsimp only;cases mv a with
  | true=>rw [if_pos rfl]; cases o <;> decide
  | false=>rw [if_neg (by decide),Wb];simp
 exact ⟨λg x hx=>by rw [← key x hx];exact g x hx,λg x hx=>by rw [key x hx];exact g x hx⟩
theorem SqP.cm_B (h:SqP q) {E:Nat->Int} {f k:Nat} (hk:k < q.n) (hf:f<=k) (hg:q.g f=q.g k) (hE:∀ a o,(a,o)∈q.S k->E a=q.Ep f a):q.cm E k=false:=by
 let ⟨⟨a,o⟩,hx⟩:=List.exists_mem_of_ne_nil _ (h.ne k hk);cases hc:q.cm E k with
 | false=>rfl
 | true=>
  unfold CasD.cm at hc;have:=L5.1 hc _ hx;dsimp only at this;rw [hE a o hx] at this;unfold CasD.Ep at this;rw [h.posB hk hx hf hg,Wb] at this;cases o <;> cases this
theorem SqP.cm_hi (h:SqP q) {k i:Nat} {mv:Nat->Bool} (hm:q.mvs k mv) (hi:k < i) (hn:i < q.n) (hg:q.g k=q.g i):q.cm (q.Ek k mv) i=false:=by
 have hb:=h.btw (show k<=k + 1 by omega) (show k + 1<=i by omega) hn hg;refine h.cm_B hn (show k + 1<=i by omega) hb λa o hx=>?_;have hma:mv a=false:=by
  cases e:mv a with
  | false=>rfl
  | true=>let ⟨o',ho⟩:=hm a e;exact (h.gu k i hi hn hg a o' o ho hx).elim
 unfold CasD.Ek CasD.Ep;rw [if_neg (by rw [hma];decide)]
def CasD.Mj (j i:Nat):Bool:=i == j
def CasD.Tk (q:CasD) (k:Nat) (t:Int) (i:Nat):Int:=if i=k then t else if i < k/\q.g i=q.g k then 2 else 0
theorem SqP.la_le (h:SqP q) {k:Nat} (hk:k < q.n) (hj:q.g k < q.G):k<=q.la (q.g k):=by (let ⟨h1,h2⟩:=h.la _ hj;rcases M7 (q.la (q.g k)) k with h3 | h3);have h4:=h2 aa;have:=h.mono (show q.la (q.g k) + 1<=k by omega) hk;omega;exact h3
def CasD.run (q:CasD) (k:Nat) (mv:Nat->Bool) (t:Int):Prop:=((∃ a o,(a,o)∈q.S k/\mv a=true)/\t=0)\/((∀ a o,(a,o)∈q.S k->mv a=false)/\q.W k=true/\t=1)
theorem SqP.cm_run (h:SqP q) {k:Nat} {mv:Nat->Bool} (hk:k < q.n):q.cm (q.Ek k mv) k=true↔∀ a o,(a,o)∈q.S k->mv a=false:=by rw [h.cm_at hk,L5];exact ⟨λg a o hx=>by have:=g _ hx;simpa using this,λg x hx=>by have:=g x.1 x.2 hx;simpa using this⟩
theorem SqP.EN_run (h:SqP q) {k:Nat} {mv:Nat->Bool} {t:Int} (hk:k < q.n) (hr:q.run k mv t):q.EN (q.Ek k mv) (q.Tk k t) k=false:=by
 unfold CasD.EN CasD.Tk;rw [if_pos rfl];rcases hr with ⟨⟨a,o,hx,hm⟩,rfl⟩ | ⟨_,hw,rfl⟩
 ·split
  ·rfl
  ·cases hc:q.cm (q.Ek k mv) k with
   | false=>rfl
   | true=>have:=(h.cm_run hk).1 hc a o hx;rw [hm] at this;cases this
 ·rw [if_pos hw];rfl
theorem SqP.EN_hi (h:SqP q) {k i:Nat} {mv:Nat->Bool} {t:Int} (hm:q.mvs k mv) (hi:k < i) (hn:i < q.n) (hg:q.g k=q.g i):q.EN (q.Ek k mv) (q.Tk k t) i=false:=by unfold CasD.EN CasD.Tk;split;rw [if_neg aa,if_neg aa];rfl;exact h.cm_hi hm hi hn hg
theorem dM {E T:Nat->Int} {st:Bool} {j:Nat} (h:q.EN E T (q.la j)=false):q.EX E T st j=false:=by unfold CasD.EX;rw [h];rfl
theorem SqP.EN_la (h:SqP q) {k:Nat} {mv:Nat->Bool} {t:Int} (hm:q.mvs k mv) (hk:k < q.n) (hj:q.g k < q.G) (hl:∀ j,j < q.G->q.la j < q.n) (he:q.la (q.g k)=k->q.EN (q.Ek k mv) (q.Tk k t) k=false):q.EN (q.Ek k mv) (q.Tk k t) (q.la (q.g k))=false:=by (have h1:=h.la_le hk hj;let ⟨h2,_⟩:=h.la _ hj;rcases NE h1 with e | e);rw [← e];exact he e.symm;exact h.EN_hi hm e (hl _ hj) h2.symm
end
section
variable {c:Aa} {q:CasD} {E:Nat->Int} {V M:Nat->Bool} {T:Nat->Int} {st:Bool}
theorem CasD.nx_ne (h2:2<=q.G) {j:Nat} (hj:j < q.G):q.nx j≠j:=by unfold CasD.nx; split <;> omega
theorem CasD.pv_nx (h2:2<=q.G) {j:Nat} (hj:j < q.G):q.pv (q.nx j)=j:=by unfold CasD.nx CasD.pv;split;rw [if_neg aa];omega;rw [if_pos rfl];omega
theorem CasD.pv_eq (h2:2<=q.G) {i j:Nat} (hi:i < q.G) (hj:j < q.G) (h:q.pv i=j):i=q.nx j:=by unfold CasD.pv at h;unfold CasD.nx;split at h;rw [if_neg aa];assumption;rw [if_pos aa];omega
theorem CasD.nx_inj (h2:2<=q.G) {i j:Nat} (hi:i < q.G) (hj:j < q.G) (h:q.nx i=q.nx j):i=j:=by rw [← CasD.pv_nx h2 hi,← CasD.pv_nx h2 hj,h]
theorem Ou {j i:Nat}:CasD.Mj j i=true↔i=j:=by unfold CasD.Mj;simp
theorem LR {j i:Nat} (h:i≠j):CasD.Mj j i=false:=by unfold CasD.Mj;simpa using h
theorem DK {j:Nat}:CasD.Mj j j=true:=by unfold CasD.Mj;simp
theorem Qc (h2:2<=q.G) {j:Nat} (hj:j < q.G) (he:q.EX E T st j=false):(∀ i,i < q.G->q.M1 E (CasD.Mj j) T st i=CasD.Mj j i)/\q.nc E (CasD.Mj j) T st:=by by_cases e:q.G=2;(have hmd:q.md E (CasD.Mj j) T st 1=CasD.Mj j 1:=by (unfold CasD.md CasD.on CasD.off;rw [if_pos e,if_pos e];rcases (show j=0\/j=1 by omega) with rfl | rfl);rw [he,LR aa]; split <;> rfl;rw [he,DK];cases q.EX E T st 0 <;> rfl);refine ⟨λi hi=>?_,λi hi hg=>?_⟩;unfold CasD.M1;by_cases h0:i=0;(subst h0;rw [if_pos ⟨e,rfl⟩,hmd];rcases (show j=0\/j=1 by omega) with rfl | rfl <;> rfl);(obtain rfl:i=1:=by omega);rw [if_neg (λh=>by have:=h.2;omega),hmd];(unfold CasD.on CasD.off;rw [if_pos e,if_pos e];rcases (show j=0\/j=1 by omega) with rfl | rfl);rw [he];rfl;rw [he,OV];(have hon:∀ i,i < q.G->q.on E (CasD.Mj j) T st i=false:=λi hi=>by unfold CasD.on;rw [if_neg e];by_cases h:q.pv i=j;rw [h,he,OV];rw [LR h];rfl);refine ⟨λi hi=>?_,λi hi hg=>by rw [hon i hi];rfl⟩;unfold CasD.M1 CasD.md;rw [if_neg (λh=>e h.1),hon i hi];unfold CasD.off;rw [if_neg e];by_cases h:q.nx i=j;rw [h,DK,if_neg (by decide),LR (λe=>by subst e;exact CasD.nx_ne h2 hi h)];rw [LR h,if_pos rfl]
theorem ji (e:q.G=2) {j:Nat} (hj:j < q.G) (he:q.EX E T st j=true) (he':q.EX E T st (q.nx j)=false):(∀ i,i < q.G->q.M1 E (CasD.Mj j) T st i=CasD.Mj (q.nx j) i)/\q.nc E (CasD.Mj j) T st:=by (have hx:q.nx j=1 - j:=by unfold CasD.nx; split <;> omega);(rw [hx] at he' ⊢;have hmd:q.md E (CasD.Mj j) T st 1=CasD.Mj (1 - j) 1:=by (unfold CasD.md CasD.on CasD.off;rw [if_pos e,if_pos e];rcases (show j=0\/j=1 by omega) with rfl | rfl);rw [he,he'];rfl;rw [he,he'];rfl);refine ⟨λi hi=>?_,λi hi hg=>?_⟩;unfold CasD.M1;by_cases h0:i=0;(subst h0;rw [if_pos ⟨e,rfl⟩,hmd];rcases (show j=0\/j=1 by omega) with rfl | rfl <;> rfl);(obtain rfl:i=1:=by omega);rw [if_neg (λh=>by have:=h.2;omega),hmd];(unfold CasD.on CasD.off;rw [if_pos e,if_pos e];rcases (show j=0\/j=1 by omega) with rfl | rfl);rw [he,he'];rfl;rw [he,he'];rfl
def CasD.Mk (q:CasD) (j i:Nat):Bool:=i == j || i == q.nx j
theorem jh (h2:2<=q.G) (e:q.G≠2) {j:Nat} (hj:j < q.G) (he:q.EX E T st j=true):(∀ i,i < q.G->q.M1 E (CasD.Mj j) T st i=q.Mk j i)/\q.nc E (CasD.Mj j) T st:=by (have hon:∀ i,i < q.G->q.on E (CasD.Mj j) T st i=(i == q.nx j):=λi hi=>by unfold CasD.on;rw [if_neg e];by_cases h:i=q.nx j;subst h;rw [CasD.pv_nx h2 hj,DK,he];simp;rw [LR (λh'=>h (CasD.pv_eq h2 hi hj h'))];simp [h]);(have hof:∀ i,i < q.G->q.off E (CasD.Mj j) T st i=(q.nx i == j):=λi hi=>by unfold CasD.off;rw [if_neg e];rfl);(have h3:q.nx (q.nx j)≠j:=by unfold CasD.nx; split <;> split <;> omega);refine ⟨λi hi=>?_,λi hi hg=>?_⟩;unfold CasD.M1 CasD.md CasD.Mk;rw [if_neg (λh=>e h.1),hon i hi,hof i hi];by_cases h:i=q.nx j;subst h;rw [show (q.nx j == q.nx j)=true from beq_self_eq_true _,show (q.nx (q.nx j) == j)=false by simpa using h3,if_neg (by decide)];simp;rw [show (i == q.nx j)=false by simpa using h,PG];by_cases h4:q.nx i=j;(rw [show (q.nx i == j)=true by simpa using h4,if_neg (by decide)];have:i≠j:=λe=>by subst e;exact CasD.nx_ne h2 hi h4);simp [this];rw [show (q.nx i == j)=false by simpa using h4,if_pos rfl];rfl;rw [hon i hi,hof i hi];by_cases h:i=q.nx j;subst h;rw [show (q.nx (q.nx j) == j)=false by simpa using h3,OV];rw [show (i == q.nx j)=false by simpa using h];rfl
theorem jg (h2:2<=q.G) (e:q.G≠2) {j:Nat} (hj:j < q.G) (he:q.EX E T st j=true) (he':q.EX E T st (q.nx j)=false):(∀ i,i < q.G->q.M1 E (q.Mk j) T st i=CasD.Mj (q.nx j) i)/\q.nc E (q.Mk j) T st:=by
 have hn:=CasD.nxl h2 (j:=j);have h3:q.nx (q.nx j)≠j:=by unfold CasD.nx; split <;> split <;> omega
 have h5:=CasD.nx_ne h2 hj;have h6:=CasD.nx_ne h2 hn;have hon:∀ i,i < q.G->q.on E (q.Mk j) T st i=(i == q.nx j):=λi hi=>by
  unfold CasD.on;rw [if_neg e];by_cases h:i=q.nx j
  ·subst h;rw [CasD.pv_nx h2 hj,he];unfold CasD.Mk;simp
  ·by_cases h7:q.pv i=q.nx j
   ·rw [h7,he',OV];simp [h]
   ·have h8:q.pv i≠j:=λh'=>h (CasD.pv_eq h2 hi hj h');have h10:q.Mk j (q.pv i)=false:=by unfold CasD.Mk;simp [h7,h8]
    rw [h10,show (i == q.nx j)=false by simpa using h];rfl
 have hof:∀ i,i < q.G->q.off E (q.Mk j) T st i=(q.nx i == j || i == j):=λi hi=>by
  unfold CasD.off CasD.Mk;rw [if_neg e];have h8:(q.nx i == q.nx j)=(i == j):=by
   rw [NB,beq_iff_eq,beq_iff_eq];exact ⟨CasD.nx_inj h2 hi hj,λe=>by rw [e]⟩
  rw [h8]
 refine ⟨λi hi=>?_,λi hi hg=>?_⟩
 ·unfold CasD.M1 CasD.md;rw [if_neg (λh=>e h.1),hon i hi,hof i hi];by_cases h:i=q.nx j
  ·subst h;rw [DK,show (q.nx j == q.nx j)=true from beq_self_eq_true _,show (q.nx (q.nx j) == j || q.nx j == j)=false by simp [h3,h5],if_neg (by decide)]
  ·rw [LR h,show (i == q.nx j)=false by simpa using h];cases h9:(q.nx i == j || i == j) with
   | true=>rw [if_neg (by decide)]
   | false=>
    rw [if_pos rfl];unfold CasD.Mk;simp only [NZ] at h9;rw [h9.2];simpa using h
 ·rw [hon i hi,hof i hi];by_cases h:i=q.nx j
  ·subst h;rw [show (q.nx (q.nx j) == j || q.nx j == j)=false by simp [h3,h5],OV]
  ·rw [show (i == q.nx j)=false by simpa using h];rfl
theorem HQ {k i:Nat} {t:Int} (h:i < k) (hg:q.g i=q.g k):q.Tk k t i=2:=by unfold CasD.Tk;rw [if_neg aa,if_pos ⟨h,hg⟩]
theorem Tc {k:Nat} {t:Int}:q.Tk k t k=t:=by unfold CasD.Tk;rw [if_pos rfl]
theorem KU {k i:Nat} {t:Int} (h:k < i):q.Tk k t i=0:=by unfold CasD.Tk;rw [if_neg aa,if_neg aa]
theorem eM {k i:Nat} {t:Int} (hg:q.g i≠q.g k):q.Tk k t i=0:=by unfold CasD.Tk;rw [if_neg (λe=>hg (by rw [e])),if_neg (λe=>hg e.2)]
theorem iJ (hs:SqP q) {k:Nat} (hk:k < q.n) {M:Nat->Bool} (hM:M (q.g k)=true) (hM':∀ i,i < q.n->M (q.g i)=true->q.g i≠q.g k->q.cm (q.Ep (k + 1)) i=false):∀ i,i < q.n->q.W i=true->q.T1 (q.Ep (k + 1)) M (q.Tk k 2) i=q.Tk k 2 i:=by
 intro i hi _;have hE:q.Ep (k + 1)=q.Ek k λ_=>false:=by funext a;unfold CasD.Ek CasD.Ep;rw [if_neg ah]
 have hm:q.mvs k λ_=>false:=λa h=>by cases h
 unfold CasD.T1;by_cases hg:q.g i=q.g k
 ·rw [hg,hM,NS];rcases OW i k with h | h | h
  ·rw [hE,hs.cm_lo hm h hk hg,if_neg (by decide),HQ h hg];rfl
  ·subst h;rw [hE,(hs.cm_run hi).2 (λ_ _ _=>rfl),if_neg (by decide),Tc];rfl
  ·rw [hE,hs.cm_hi hm h hi hg.symm,if_pos rfl,KU h]
 ·have hT:q.Tk k 2 i=0:=eM hg;rw [hT];cases h:M (q.g i) with
  | false=>rfl
  | true=>rw [hM' i hi h hg];rfl
theorem ku {j:Nat} (h:∀ i,i < q.n->q.g i=j->q.cm E i=false):∀ i,i < q.n->q.W i=true->q.T1 E (CasD.Mj j) T i=0:=by intro i hi _;unfold CasD.T1;by_cases hg:q.g i=j;rw [h i hi hg,OV,if_pos rfl];rw [LR hg];rfl
theorem Uo {a:Nat} {o:Bool}:q.PL E M T st a o=true↔∃ k,k < q.n/\(a,o)∈q.S k/\q.SG E M T st k=true:=by unfold CasD.PL CasD.at_;rw [MD];constructor;rintro ⟨k,hk,h⟩;rw [NX,L4] at hk;exact ⟨k,hk.1,by simpa using hk.2,h⟩;rintro ⟨k,hk,ha,h⟩;exact ⟨k,by rw [NX,L4];exact ⟨hk,by simpa using ha⟩,h⟩
theorem kI (hs:SqP q) {m:Nat} (hm:m < q.n) (hS:∀ i,i < q.n->q.SG E M T st i=true->q.g i=q.g m/\i<=m):(∀ a,(q.PL E M T st a true && q.PL E M T st a false)=false)/\∀ a o,q.PL E M T st a o=true->q.pos (m + 1) a=o:=by
 have key:∀ a o,q.PL E M T st a o=true->q.pos (m + 1) a=o:=λa o h=>by
  let ⟨i,hi,ha,h⟩:=Uo.1 h;let ⟨h1,h2⟩:=hS i hi h;exact hs.posK ha h2 hm h1
 refine ⟨λa=>?_,key⟩;cases h1:q.PL E M T st a true with
 | false=>rfl
 | true=>
  cases h2:q.PL E M T st a false with
  | false=>rfl
  | true=>have:=(key a _ h1).symm.trans (key a _ h2);cases this
theorem lO (hs:SqP q) {m:Nat} (hm:m < q.n) (hS:∀ i,i < q.n->q.SG E M T st i=true->q.g i=q.g m/\i<=m) (hV:∀ a,(∀ o,q.PL E M T st a o=false)->V a=q.pos (m + 1) a) (a:Nat):q.V1 E V M T st a=q.pos (m + 1) a:=by
 let ⟨h1,h2⟩:=kI hs hm hS;have h3:=h1 a;unfold CasD.V1;cases ht:q.PL E M T st a true with
 | true=>
  rw [ht,NS] at h3;rw [h3,if_neg (by decide),h2 a true ht]
 | false=>
  cases hf:q.PL E M T st a false with
  | true=>rw [if_neg (by decide),h2 a false hf]
  | false=>rw [if_pos rfl]; exact hV a λo=>by cases o <;> assumption
end
section
variable {c:Aa} {q:CasD} {s:Ad} {E:Nat->Int} {V M:Nat->Bool} {T:Nat->Int} {st:Bool}
theorem DE {k:Nat}:q.Ep (k + 1)=q.Ek k λ_=>false:=by funext a;unfold CasD.Ek CasD.Ep;rw [if_neg ah]
theorem Un {i:Nat}:q.SG E M T st i=true↔M (q.g i)=true/\(q.ch=false->i=0->st=true)/\(q.ch=false->i≠0->q.g (i - 1)=q.g i->q.EN E T (i - 1)=true):=by unfold CasD.SG;rw [L1];refine and_congr_right λ_=>?_;by_cases hch:q.ch=true;rw [if_pos hch];exact ⟨λ_=>⟨λh=>(by rw [hch] at h;cases h),λh=>(by rw [hch] at h;cases h)⟩,λ_=>rfl⟩;(rw [if_neg hch];have hcf:q.ch=false:=by simpa using hch);by_cases h:i=0;rw [if_pos h];exact ⟨λg=>⟨λ_ _=>g,λ_ h'=>absurd h h'⟩,λg=>g.1 hcf h⟩;rw [if_neg h];by_cases h2:q.g (i - 1)=q.g i;rw [if_pos h2];exact ⟨λg=>⟨λ_ h'=>absurd h' h,λ_ _ _=>g⟩,λg=>g.2 hcf h h2⟩;rw [if_neg h2];exact ⟨λ_=>⟨λ_ h'=>absurd h' h,λ_ _ h'=>absurd h' h2⟩,λ_=>rfl⟩
theorem jV (hs:SqP q) {k:Nat} {mv:Nat->Bool} {t:Int} (hk:k < q.n) (hm:q.mvs k mv) (hr:q.run k mv t) {i:Nat} (hi:i < q.n) (h:q.SG (q.Ek k mv) (CasD.Mj (q.g k)) (q.Tk k t) st i=true):q.g i=q.g k/\i<=k:=by (let ⟨h1,_,h3⟩:=Un.1 h;have h1:=Ou.1 h1;refine ⟨h1,?_⟩;rcases M7 k i with h4 | h4);exfalso;by_cases hch:q.ch=true;have e1:=hs.gch hch i;have e2:=hs.gch hch k;omega;(have h5:=hs.btw (show k<=i - 1 by omega) (show i - 1<=i by omega) hi h1.symm;have h6:=h3 (by simpa using hch) aa h5;rcases NE (show k<=i - 1 by omega) with e | e);rw [← e,hs.EN_run hk hr] at h6;cases h6;rw [hs.EN_hi hm e aa aa] at h6;cases h6;exact h4
theorem Le {p:Bool}:Fu p (AU p)=AU p:=by cases p <;> decide
theorem jW {k:Nat} {mv:Nat->Bool} {a:Nat}:Fu (q.pos (k + 1) a) (q.Ek k mv a)=q.Ek k mv a:=by unfold CasD.Ek;cases mv a <;> cases q.pos (k + 1) a <;> rfl
theorem Lq (hc:CasP c q) (hs:SqP q) {k:Nat} {mv:Nat->Bool} {t:Int} (hk:k < q.n) (hm:q.mvs k mv) (hr:q.run k mv t):ko q (q.Ek k mv) (q.pos (k + 1)) (CasD.Mj (q.g k)) (q.Tk k t) st:=by
 have hS:=λi hi h=>jV (st:=st) hs hk hm hr (i:=i) hi h;have hV:=lO (V:=q.pos (k + 1)) hs hk hS λ_ _=>rfl;let ⟨q1,q2⟩:=Qc (st:=st) hc.g2 (hc.gn k hk) (dM (hs.EN_la (t:=t) hm hk (hc.gn k hk) hc.ln λ_=>hs.EN_run hk hr));refine ⟨q1,λi hi hw=>?_,λa _=>?_,λa _=>hV a,q2,λa _=>(kI hs hk hS).1 a⟩
 ·unfold CasD.T1;by_cases hg:q.g i=q.g k
  ·rw [hg,DK,NS];rcases OW i k with h | h | h
   ·rw [hs.cm_lo hm h hk hg,if_neg (by decide),HQ h hg];rfl
   ·subst h;rw [Tc];rcases hr with ⟨⟨a,o,hx,hma⟩,rfl⟩ | ⟨h1,_,rfl⟩
    ·have:q.cm (q.Ek i mv) i=false:=by
      cases hc:q.cm (q.Ek i mv) i with
      | false=>rfl
      | true=>have:=(hs.cm_run hi).1 hc a o hx;rw [hma] at this;cases this
     rw [this,if_pos rfl]
    ·rw [(hs.cm_run hi).2 h1,if_neg (by decide)];rfl
   ·rw [hs.cm_hi hm h hi hg.symm,if_pos rfl,KU h]
  ·rw [LR hg,eM hg];rfl
 ·unfold CasD.E1;rw [hV a];exact jW
def CasD.fst (q:CasD) (f:Nat):Prop:=∀ i,i < q.n->q.g i=q.g f->f<=i
def CasD.ms (q:CasD) (k a:Nat):Bool:=decide ((a,true)∈q.S k) || decide ((a,false)∈q.S k)
theorem Tf {k a:Nat}:q.ms k a=true↔∃ o,(a,o)∈q.S k:=by unfold CasD.ms;rw [OE,decide_eq_true_iff,decide_eq_true_iff];exact ⟨λh=>h.elim (λh=>⟨_,h⟩) λh=>⟨_,h⟩,λ⟨o,h⟩=>by cases o;exact .inr h;exact .inl h⟩
theorem Ww {k:Nat}:q.mvs k (q.ms k):=λ_ h=>Tf.1 h
theorem Wv (hs:SqP q) {k:Nat} (hk:k < q.n):q.run k (q.ms k) 0:=by let ⟨⟨a,o⟩,hx⟩:=List.exists_mem_of_ne_nil _ (hs.ne k hk);exact .inl ⟨⟨a,o,hx,Tf.2 ⟨o,hx⟩⟩,rfl⟩
theorem Yx {f i:Nat} (hf:q.fst f) (hi:i < q.n):q.Tk f 0 i=0:=by unfold CasD.Tk;split;rfl;rw [if_neg];rintro ⟨h1,h2⟩;have:=hf i hi h2;omega
theorem Yu (hs:SqP q) {f i:Nat} (hf:q.fst f) (hi:i < q.n) (hg:q.g i=q.g f):q.cm (q.Ep f) i=false:=hs.cm_B hi (hf i hi hg) hg.symm λ_ _ _=>rfl
theorem HT (hs:SqP q) {f i:Nat} (hf:q.fst f) (hi:i < q.n) (hg:q.g i=q.g f):q.EN (q.Ep f) (q.Tk f 0) i=false:=by unfold CasD.EN;rw [Yx hf hi,Yu hs hf hi hg]; split <;> rfl
theorem LQ (hs:SqP q) {f i:Nat} (hf:q.fst f) (hi:i < q.n) (h:q.SG (q.Ep f) (CasD.Mj (q.g f)) (q.Tk f 0) st i=true):i=f/\(q.ch=false->f=0->st=true):=by (let ⟨h1,h2,h3⟩:=Un.1 h;have h1:=Ou.1 h1;have h4:=hf i hi h1;rcases NE h4 with e | e);subst e;exact ⟨rfl,h2⟩;exfalso;by_cases hch:q.ch=true;have e1:=hs.gch hch i;have e2:=hs.gch hch f;omega;have h5:=hs.btw (show f<=i - 1 by omega) (show i - 1<=i by omega) hi h1.symm;have h6:=h3 (by simpa using hch) aa h5;rw [HT hs hf aa aa] at h6;cases h6
theorem Wp (hc:CasP c q) (hs:SqP q) {f:Nat} (hf:q.fst f) (hn:f < q.n):(∀ i,i < q.G->q.M1 (q.Ep f) (CasD.Mj (q.g f)) (q.Tk f 0) st i=CasD.Mj (q.g f) i)/\q.nc (q.Ep f) (CasD.Mj (q.g f)) (q.Tk f 0) st:=by have hj:=hc.gn f hn;exact Qc hc.g2 hj (dM (HT hs hf (hc.ln _ hj) (hs.la _ hj).1))
theorem LM (hc:CasP c q) (hs:SqP q) {f r:Nat} (hf:q.fst f) (hn:f < q.n) (hb:Bs c q s (q.Ep f) (q.pos f) M T st) (h:Setl q (q.Ep f) st r M T (CasD.Mj (q.g f)) (q.Tk f 0)) (hr:r<=60) (hst:q.ch=false->f=0->st=true) :
  ∃ u,Pn.rst c 65 s=some u/\At_ c q u (q.Ek f (q.ms f)) (q.pos (f + 1)) (CasD.Mj (q.g f)) (q.Tk f 0) st/\∀ y,¬ Pn.rstP c 65 s y:=by
 have hS:∀ i,i < q.n->q.SG (q.Ep f) (CasD.Mj (q.g f)) (q.Tk f 0) st i=true->q.g i=q.g f/\i<=f:=λi hi h=>by
  let ⟨e,_⟩:=LQ hs hf hi h;subst e;exact ⟨rfl,MG _⟩
 have hSf:q.SG (q.Ep f) (CasD.Mj (q.g f)) (q.Tk f 0) st f=true:=Un.2 ⟨DK,hst,λ_ h1 h2=>by
  have:=hf (f - 1) aa h2;omega⟩
 have hV:=lO (V:=q.pos f) hs hn hS λa ha=>by
  refine (Em λo ho=>?_).symm;have:=Uo.2 ⟨f,hn,ho,hSf⟩;rw [ha o] at this;cases this
 refine hb.rest hc h hr (λa _=>(kI hs hn hS).1 a) (λa _=>?_) (λa _=>hV a) (Lq hc hs hn Ww (Wv hs hn));unfold CasD.E1;rw [hV a];unfold CasD.Ek CasD.Ep;cases hm:q.ms f a with
 | true=>
  let ⟨o,ho⟩:=Tf.1 hm;rw [hs.pos_in hn ho,hs.fits f hn a o ho];cases o <;> rfl
 | false=>
  rw [Em (λo ho=>by rw [Tf.2 ⟨o,ho⟩] at hm;cases hm),if_neg (by decide)];exact Le
theorem BA (hc:CasP c q) (hs:SqP q) (hcf:q.ch=false):ko q (q.Ep 0) (q.pos 0) (CasD.Mj 0) (q.Tk 0 0) false:=by
 have hf:q.fst 0:=λi _ _=>NN _;have hg:=hs.g0;have hP:∀ a o,q.PL (q.Ep 0) (CasD.Mj 0) (q.Tk 0 0) false a o=false:=λa o=>by
  cases h:q.PL (q.Ep 0) (CasD.Mj 0) (q.Tk 0 0) false a o with
  | false=>rfl
  | true=>
   let ⟨i,hi,_,h⟩:=Uo.1 h;have h:q.SG (q.Ep 0) (CasD.Mj (q.g 0)) (q.Tk 0 0) false i=true:=by rw [hg];exact h
   have:=(LQ hs hf hi h).2 hcf rfl;cases this
 have hq:=Wp (st:=false) hc hs hf hs.n0;rw [hg] at hq;have hV:∀ a,q.V1 (q.Ep 0) (q.pos 0) (CasD.Mj 0) (q.Tk 0 0) false a=q.pos 0 a:=λa=>by unfold CasD.V1;rw [hP,hP,if_pos rfl]
 refine ⟨hq.1,λi hi hw=>?_,λa _=>?_,λa _=>hV a,hq.2,λa _=>by rw [hP];rfl⟩
 ·rw [ku (λi hi hgi=>Yu hs hf hi aa) i hi hw,Yx hf hi]
 ·unfold CasD.E1;rw [hV a];exact Le
def CasD.ij (q:CasD):Nat:=if q.ch=true then q.G - 1 else 0
def CasD.Ti (q:CasD) (i:Nat):Int:=if q.ch=true then q.Tk (q.n - 1) 2 i else q.Tk 0 0 i
theorem eB (h:q.ch=false):q.ij=0:=by unfold CasD.ij;rw [h];rfl
theorem eN (h:q.ch=false):q.Ti=q.Tk 0 0:=by funext i;unfold CasD.Ti;rw [h];rfl
theorem ga (hs:SqP q) (h:q.ch=true):q.ij=q.g (q.n - 1):=by unfold CasD.ij;rw [if_pos h];have:=hs.gl;omega
theorem gQ (h:q.ch=true):q.Ti=q.Tk (q.n - 1) 2:=by funext i;unfold CasD.Ti;rw [if_pos h]
theorem Uw (hs:SqP q):q.pos 0=q.pos (q.n - 1 + 1):=by have:=hs.n0;funext a;rw [show q.n - 1 + 1=q.n by omega,hs.back];rfl
theorem HS (hs:SqP q):q.Ep 0=q.Ep (q.n - 1 + 1):=by funext a;unfold CasD.Ep;rw [Uw hs]
theorem H3 (hc:CasP c q) (hs:SqP q) (hch:q.ch=true):ko q (q.Ep 0) (q.pos 0) (CasD.Mj (q.g (q.n - 1))) (q.Tk (q.n - 1) 2) false:=by (have hn:=hs.n0;have hk:q.n - 1 < q.n:=by omega);(have hj:=hc.gn _ hk;have hp:=Uw hs;have hEX:q.EX (q.Ep 0) (q.Tk (q.n - 1) 2) false (q.g (q.n - 1))=false:=by unfold CasD.EX;rw [if_pos ⟨hch,hs.gl⟩,OV]);(let ⟨q1,q2⟩:=Qc hc.g2 hj hEX;have hS:∀ i,i < q.n->q.SG (q.Ep 0) (CasD.Mj (q.g (q.n - 1))) (q.Tk (q.n - 1) 2) false i=true->q.g i=q.g (q.n - 1)/\i<=q.n - 1:=λi hi h=>⟨Ou.1 (Un.1 h).1,by omega⟩;have hV:=lO (V:=q.pos 0) hs hk hS λa _=>by rw [hp]);refine ⟨q1,λi hi hw=>?_,λa _=>?_,λa _=>?_,q2,λa _=>(kI hs hk hS).1 a⟩;rw [HS hs];exact iJ hs hk DK (λi _ h1 h2=>absurd (Ou.1 h1) h2) i hi hw;unfold CasD.E1;rw [hV a,← hp];exact Le;rw [hV a,← hp]
theorem Oy (hc:CasP c q) (hs:SqP q):ko q (q.Ep 0) (q.pos 0) (CasD.Mj q.ij) q.Ti false:=by by_cases hch:q.ch=true;rw [ga hs hch,gQ hch];exact H3 hc hs hch;rw [eB (by simpa using hch),eN (by simpa using hch)];exact BA hc hs (by simpa using hch)
theorem J6 (hc:CasP c q) (hs:SqP q) {r:Nat} (hb:Bs c q s (q.Ep 0) (q.pos 0) M T false) (h:Setl q (q.Ep 0) false r M T (CasD.Mj q.ij) q.Ti) (hr:r<=60) :
  ∃ u,Pn.rst c 65 s=some u/\At_ c q u (q.Ep 0) (q.pos 0) (CasD.Mj q.ij) q.Ti false/\∀ y,¬ Pn.rstP c 65 s y:=by have hR:=Oy hc hs;exact hb.rest hc h hr hR.fp hR.fE hR.fV hR
theorem HU (hs:SqP q) {k:Nat} (hk:k < q.n):q.EN (q.Ep (k + 1)) (q.Tk k 2) k=true:=by unfold CasD.EN;rw [Tc,DE,(hs.cm_run hk).2 λ_ _ _=>rfl]; split <;> rfl
theorem lx (hc:CasP c q) (hs:SqP q) {k:Nat} (hk:k + 1 < q.n) (hg:q.g (k + 1)=q.g k) (hb:Bs c q s (q.Ep (k + 1)) (q.pos (k + 1)) (CasD.Mj (q.g k)) (q.Tk k 2) st) :
  ∃ u,Pn.rst c 65 s=some u/\At_ c q u (q.Ek (k + 1) (q.ms (k + 1))) (q.pos (k + 2)) (CasD.Mj (q.g (k + 1))) (q.Tk (k + 1) 0) st/\∀ y,¬ Pn.rstP c 65 s y:=by
 have hch:¬ q.ch=true:=λh=>by have e1:=hs.gch h (k + 1);have e2:=hs.gch h k;omega
 have hcf:q.ch=false:=by simpa using hch
 have hk':k < q.n:=by omega
 have hm:q.mvs k λ_=>false:=λa h=>by cases h
 have hj:=hc.gn k hk';have hla:k < q.la (q.g k):=by
  have h1:=hs.la_le hk (by rw [hg];exact hj);rw [hg] at h1;omega
 have hEN:q.EN (q.Ep (k + 1)) (q.Tk k 2) (q.la (q.g k))=false:=by
  rw [DE];exact hs.EN_hi hm hla (hc.ln _ hj) (hs.la _ hj).1.symm
 let ⟨q1,q2⟩:=Qc (st:=st) hc.g2 hj (dM hEN);have hT:=iJ (M:=CasD.Mj (q.g k)) hs hk' DK (λi _ h1 h2=>absurd (Ou.1 h1) h2);have hT2:∀ i,i < q.n->q.W i=true->q.Tk k 2 i=q.Tk (k + 1) 0 i:=λi hi _=>by
  by_cases hgi:q.g i=q.g k
  ·rcases OW i k with h | h | h
   ·rw [HQ h hgi,HQ aa aa]
   ·subst h;rw [Tc,HQ aa aa]
   ·rw [KU h];rcases NE (show k + 1<=i by omega) with e | e
    ·rw [← e,Tc]
    ·rw [KU e]
  ·rw [eM hgi,eM aa]
 have hS:∀ i,i < q.n->q.SG (q.Ep (k + 1)) (CasD.Mj (q.g k)) (q.Tk k 2) st i=true->q.g i=q.g (k + 1)/\i<=k + 1:=λi hi h=>by
  let ⟨h1,_,h3⟩:=Un.1 h;have h1:=Ou.1 h1;refine ⟨by omega,?_⟩;rcases M7 (k + 1) i with h4 | h4
  ·exfalso;have h5:=hs.btw (show k<=i - 1 by omega) (show i - 1<=i by omega) hi h1.symm;have h6:=h3 hcf aa h5;rw [DE,hs.EN_hi hm aa aa aa] at h6;cases h6
  ·exact h4
 have hSf:q.SG (q.Ep (k + 1)) (CasD.Mj (q.g k)) (q.Tk k 2) st (k + 1)=true:=Un.2 ⟨by rw [hg];exact DK,λ_ h=>by omega,λ_ _ _=>HU hs hk'⟩;have hV:=lO (V:=q.pos (k + 1)) hs hk hS λa ha=>by
  refine (Em λo ho=>?_).symm;have:=Uo.2 ⟨k + 1,hk,ho,hSf⟩;rw [ha o] at this;cases this
 have hE:∀ a,q.E1 (q.Ep (k + 1)) (q.pos (k + 1)) (CasD.Mj (q.g k)) (q.Tk k 2) st a=q.Ek (k + 1) (q.ms (k + 1)) a:=λa=>by
  unfold CasD.E1;rw [hV a];unfold CasD.Ek CasD.Ep;cases hm:q.ms (k + 1) a with
  | true=>
   let ⟨o,ho⟩:=Tf.1 hm;rw [hs.pos_in hk ho,hs.fits (k + 1) hk a o ho];cases o <;> rfl
  | false=>
   rw [Em (λo ho=>by rw [Tf.2 ⟨o,ho⟩] at hm;cases hm),if_neg (by decide)];exact Le
 -- the timers are told in the words of the next step
 have hR:=Lq (st:=st) hc hs hk Ww (Wv hs hk);have hset:Setl q (q.Ep (k + 1)) st 0 (CasD.Mj (q.g k)) (q.Tk k 2) (CasD.Mj (q.g k)) (q.Tk k 2):=.fix q1 hT q2;have hENi:∀ E i,i < q.n->q.EN E (q.Tk k 2) i=q.EN E (q.Tk (k + 1) 0) i:=λE i hi=>by
  unfold CasD.EN;by_cases hw:q.W i=true
  ·rw [if_pos hw,if_pos hw,hT2 i hi hw]
  ·rw [if_neg hw,if_neg hw]
 have hon:∀ E M i,i < q.G->q.on E M (q.Tk k 2) st i=q.on E M (q.Tk (k + 1) 0) st i:=λE M i hi=>by
  unfold CasD.on CasD.EX;have h2:=hc.g2;rw [hENi E _ (hc.ln 0 aa),hENi E _ (hc.ln _ (CasD.pvl hc.g2 hi))]
 have hof:∀ E M i,i < q.G->q.off E M (q.Tk k 2) st i=q.off E M (q.Tk (k + 1) 0) st i:=λE M i hi=>by
  unfold CasD.off CasD.EX;have h2:=hc.g2;rw [hENi E _ (hc.ln 1 aa)]
 have hmd:∀ E M i,i < q.G->q.md E M (q.Tk k 2) st i=q.md E M (q.Tk (k + 1) 0) st i:=λE M i hi=>by
  unfold CasD.md;rw [hon E M i hi,hof E M i hi]
 have hM1:∀ E M i,i < q.G->q.M1 E M (q.Tk k 2) st i=q.M1 E M (q.Tk (k + 1) 0) st i:=λE M i hi=>by
  have h2:=hc.g2;unfold CasD.M1;rw [hmd E M i hi,hmd E M 1 aa]
 have hSG:∀ E M i,i < q.n->q.SG E M (q.Tk k 2) st i=q.SG E M (q.Tk (k + 1) 0) st i:=λE M i hi=>by
  unfold CasD.SG;rw [hENi E (i - 1) aa]
 have hPL:∀ E M a o,q.PL E M (q.Tk k 2) st a o=q.PL E M (q.Tk (k + 1) 0) st a o:=λE M a o=>by
  rw [NB,Uo,Uo];exact ⟨λ⟨i,h1,h2,h3⟩=>⟨i,h1,h2,by rw [← hSG E M i h1];exact h3⟩,λ⟨i,h1,h2,h3⟩=>⟨i,h1,h2,by rw [hSG E M i h1];exact h3⟩⟩
 have hV1:∀ E V M a,q.V1 E V M (q.Tk k 2) st a=q.V1 E V M (q.Tk (k + 1) 0) st a:=λE V M a=>by unfold CasD.V1;rw [hPL,hPL]
 have hb2:=hb.cong hc.g2 (λ_ _=>rfl) (λ_ _=>rfl) (λ_ _=>rfl) hT2;rw [hg] at hR ⊢;refine hb2.rest hc (r:=0) (.fix (λi hi=>by rw [← hM1 _ _ i hi];exact q1 i hi) (λi hi hw=>?_) (λi hi hg=>by rw [← hon _ _ i hi,← hof _ _ i hi];exact q2 i hi hg)) aa (λa _=>by rw [← hPL,← hPL];exact (kI hs hk hS).1 a) (λa _=>by
  have:=hE a;unfold CasD.E1 at this ⊢;rw [← hV1];exact this) (λa _=>by rw [← hV1];exact hV a) hR
 have:=hT i hi hw;unfold CasD.T1 at this ⊢;rw [← hT2 i hi hw];exact this
def CasD.nk (q:CasD) (k:Nat):Nat:=if k + 1 < q.n then k + 1 else 0
theorem eu (hs:SqP q) {k:Nat}:q.nk k < q.n:=by have:=hs.n0; unfold CasD.nk; split <;> omega
theorem K6 (hs:SqP q) {k:Nat} (hk:k < q.n):q.pos (k + 1)=q.pos (q.nk k):=by unfold CasD.nk;split;rfl;funext a;rw [show k + 1=q.n by omega,hs.back a];rfl
theorem JH (hs:SqP q) {k:Nat} (hk:k < q.n):q.Ep (k + 1)=q.Ep (q.nk k):=by funext a;unfold CasD.Ep;rw [K6 hs hk]
theorem GV (hc:CasP c q) (hs:SqP q) {k:Nat} (hk:k < q.n) (hg:k + 1 < q.n->q.g (k + 1)≠q.g k):q.la (q.g k)=k/\q.g (q.nk k)=q.nx (q.g k)/\q.fst (q.nk k):=by (have hj:=hc.gn k hk;have h1:=hs.la_le hk hj;let ⟨h2,h3⟩:=hs.la _ hj;have hl:=hc.ln _ hj;have hla:q.la (q.g k)=k:=by (rcases NE h1 with e | e);exact e.symm;exact absurd (hs.btw (show k<=k + 1 by omega) (show k + 1<=q.la (q.g k) by omega) hl h2.symm) (by have:=hg aa;omega));refine ⟨hla,?_⟩;unfold CasD.nk CasD.nx;by_cases h:k + 1 < q.n;(have h4:=hs.gs k h;have h5:=hg h;have h6:=hc.gn (k + 1) h;rw [if_pos h,if_pos aa];refine ⟨by omega,λi hi he=>?_⟩;rcases M7 i (k + 1) with h7 | h7);have:=hs.mono (show i<=k by omega) hk;omega;exact h7;have h4:=hs.gl;rw [show q.n - 1=k by omega] at h4;rw [if_neg h,if_neg aa];exact ⟨hs.g0,λi _ _=>NN _⟩
theorem Wi (hc:CasP c q) (hs:SqP q) {k:Nat} (hk:k < q.n) (hg:k + 1 < q.n->q.g (k + 1)≠q.g k) (hx:q.ch=true->k + 1=q.n->st=true):∃ r,r<=60/\Setl q (q.Ep (q.nk k)) st r (CasD.Mj (q.g k)) (q.Tk k 2) (CasD.Mj (q.g (q.nk k))) (q.Tk (q.nk k) 0):=by (let ⟨hla,hnx,hf⟩:=GV hc hs hk hg;have hj:=hc.gn k hk;have h2:=hc.g2;have hn:=eu hs (k:=k);have hne:q.nx (q.g k)≠q.g k:=CasD.nx_ne h2 hj;have hnj:=CasD.nxl h2 (j:=q.g k);have e1:q.EX (q.Ep (q.nk k)) (q.Tk k 2) st (q.g k)=true:=by unfold CasD.EX;rw [hla,← JH hs hk,HU hs hk,NS];split;rename_i h;let ⟨e1,e2⟩:=hc.chn h.1;have:=(e2 k).1;exact hx h.1 (by have:=h.2;omega);rfl);(have hlg:=(hs.la _ hnj).1;have hll:=hc.ln _ hnj;have e2:q.EX (q.Ep (q.nk k)) (q.Tk k 2) st (q.nx (q.g k))=false:=by refine dM ?_;unfold CasD.EN;rw [eM aa,Yu hs hf hll aa]; split <;> rfl);(have e3:q.EX (q.Ep (q.nk k)) (q.Tk (q.nk k) 0) st (q.nx (q.g k))=false:=dM (HT hs hf hll aa);have tC:∀ M:Nat->Bool,M (q.g k)=true->(∀ i,M i=true->i=q.g k\/i=q.nx (q.g k))->∀ i,i < q.n->q.W i=true->q.T1 (q.Ep (q.nk k)) M (q.Tk k 2) i=q.Tk k 2 i:=λM hM hM'=>by rw [← JH hs hk];refine iJ hs hk hM λi hi h1 h3=>?_;rw [JH hs hk];exact Yu hs hf hi (by rcases hM' _ h1 with h | h;exact absurd h h3;omega));(have tZ:∀ T:Nat->Int,∀ i,i < q.n->q.W i=true->q.T1 (q.Ep (q.nk k)) (CasD.Mj (q.nx (q.g k))) T i=q.Tk (q.nk k) 0 i:=λT i hi hw=>by rw [ku (λi hi hgi=>Yu hs hf hi aa) i hi hw,Yx hf hi]);let ⟨f1,f2⟩:=Qc (st:=st) (T:=q.Tk (q.nk k) 0) h2 hnj e3;let ⟨f3,f4⟩:=Qc (st:=st) (T:=q.Tk k 2) h2 hnj e2;rw [hnx];by_cases e:q.G=2;let ⟨a1,a2⟩:=ji e hj e1 e2;exact ⟨2,by omega,.step a1 (tC _ DK λi h=>.inl (Ou.1 h)) a2 (.step f3 (tZ _) f4 (.fix f1 (tZ _) f2))⟩;let ⟨a1,a2⟩:=jh h2 e hj e1;let ⟨b1,b2⟩:=jg h2 e hj e1 e2;refine ⟨3,by omega,.step a1 (tC _ DK λi h=>.inl (Ou.1 h)) a2 (.step b1 (tC _ ?_ λi h=>?_) b2 (.step f3 (tZ _) f4 (.fix f1 (tZ _) f2)))⟩;unfold CasD.Mk;simp;unfold CasD.Mk at h;simpa using h
theorem hY (hc:CasP c q) (hs:SqP q) {k:Nat} (hk:k < q.n) (hg:k + 1 < q.n->q.g (k + 1)≠q.g k) (hb:Bs c q s (q.Ep (k + 1)) (q.pos (k + 1)) (CasD.Mj (q.g k)) (q.Tk k 2) st) :
  ((q.nk k=0->st=true)->∃ u,Pn.rst c 65 s=some u/\At_ c q u (q.Ek (q.nk k) (q.ms (q.nk k))) (q.pos (q.nk k + 1)) (CasD.Mj (q.g (q.nk k))) (q.Tk (q.nk k) 0) st/\∀ y,¬ Pn.rstP c 65 s y)
  /\ (q.nk k=0->st=false->∃ u,Pn.rst c 65 s=some u/\At_ c q u (q.Ep 0) (q.pos 0) (CasD.Mj q.ij) q.Ti false/\∀ y,¬ Pn.rstP c 65 s y):=by let ⟨_,_,hf⟩:=GV hc hs hk hg;rw [JH hs hk,K6 hs hk] at hb;refine ⟨λh=>?_,λh0 hst=>?_⟩;let ⟨r,hr,hset⟩:=Wi (st:=st) hc hs hk hg λ_ e=>h (by unfold CasD.nk;rw [if_neg aa]);exact LM hc hs hf (eu hs) hb hset hr λ_=>h;subst hst;by_cases hch:q.ch=true;(have hkn:k=q.n - 1:=by unfold CasD.nk at h0; split at h0 <;> omega);have hR:=Oy hc hs;rw [h0] at hb;rw [hkn,← ga hs hch,← gQ hch] at hb;exact J6 hc hs hb (.fix hR.fM hR.fT hR.fn) aa;let ⟨r,hr,hset⟩:=Wi (st:=false) hc hs hk hg λh=>absurd h hch;rw [h0] at hb hset;rw [hs.g0] at hset;refine J6 hc hs hb ?_ hr;rw [eB (by simpa using hch),eN (by simpa using hch)];exact hset
end
section
variable {c:Aa} {q:CasD} {s:Ad} {E:Nat->Int} {V M:Nat->Bool} {T:Nat->Int} {st:Bool}
structure RunS (c:Aa) (q:CasD) (s:Ad) (k:Nat) (mv:Nat->Bool) (t:Int) (st:Bool):Prop where
 hk:k < q.n
 hm:q.mvs k mv
 hr:q.run k mv t
 at_:At_ c q s (q.Ek k mv) (q.pos (k + 1)) (CasD.Mj (q.g k)) (q.Tk k t) st
def eP (c:Aa) (q:CasD) (s:Ad):Prop:=At_ c q s (q.Ep 0) (q.pos 0) (CasD.Mj q.ij) q.Ti false
theorem Hi {α:Type} {l:List α} {i j:Nat} {x d:α} (hi:i < l.length):(l.set i x).getD j d=if i=j then x else l.getD j d:=by rw [LV,List.getElem?_set];by_cases h:i=j;subst h;rw [if_pos rfl,if_pos rfl,if_pos hi];rfl;rw [if_neg h,if_neg h,LV]
theorem CV {x:Af} {s' u:Ad} (hk:¬ (x.Kind < 0\/3<=x.Kind)) (ha:bB s x=some s') (hr:rst c 65 s'=some u) (hn:∀ y,¬ rstP c 65 s' y):ai c s x=(u,0)/\∀ y,¬ cH c s x y:=by refine ⟨?_,λy hy=>?_⟩;unfold ai;rw [if_neg hk,ha];dsimp only;rw [hr];let ⟨_,s2,h1,h2⟩:=hy;rw [ha] at h1;obtain rfl:=Option.some.inj h1;exact hn y h2
def CasD.un (mv:Nat->Bool) (a b:Nat):Bool:=mv b && !(b == a)
theorem lM {k a:Nat} {mv:Nat->Bool}:∀ b,q.Ek k (CasD.un mv a) b=if b=a then AU (q.pos (k + 1) a) else q.Ek k mv b:=by intro b;unfold CasD.Ek CasD.un;by_cases h:b=a;subst h;rw [if_pos rfl,if_neg ah];(rw [if_neg h];have:(b == a)=false:=by simpa using h);rw [this,O0,ON]
theorem gO (hc:CasP c q) {k a:Nat} {mv:Nat->Bool} (ha:a < q.A) (hm:mv a=true) (h:Bs c q s (q.Ek k mv) V M T st):∃ s',bB s ⟨0,(a:Int),false⟩=some s'/\Bs c q s' (q.Ek k (CasD.un mv a)) V M T st:=by (have hlen:a < s.Ends.length:=by rw [h.fit.e,hc.a];exact ha);(have he:=h.e a ha;rw [LV,ak hlen,N7] at he;have key:bB s ⟨0,(a:Int),false⟩=some { s with Ends:=s.Ends.set a (AU (q.pos (k + 1) a)) }:=by unfold bB;rw [if_pos rfl,show idx s.Ends (Af.Index ⟨0,(a:Int),false⟩)=s.Ends[a]? from Ak,ak hlen,he];dsimp only;unfold CasD.Ek;rw [if_pos hm];cases q.pos (k + 1) a <;> simp [AU]);refine ⟨_,key,Jm h.fit key,λb hb=>?_,h.v,h.i,h.m,h.m0,h.t⟩;show (s.Ends.set a _).getD b 0=_;rw [Hi hlen,lM b];by_cases e:a=b;subst e;rw [if_pos rfl,if_pos rfl];rw [if_neg e,if_neg (λh=>e h.symm),h.e b hb]
theorem gN (hc:CasP c q) (hinj:∀ i k,i < q.n->q.W i=true->k < q.n->q.W k=true->q.no (.tm i)=q.no (.tm k)->i=k) (hjn:∀ j k,j < q.G->k < q.n->q.W k=true->q.no (.gl j)≠q.no (.tm k)) {k:Nat} (hk:k < q.n) (hw:q.W k=true) (h:Bs c q s E V M (q.Tk k 1) st):∃ s',bB s ⟨1,(q.no (.tm k):Int),false⟩=some s'/\Bs c q s' E V M (q.Tk k 2) st:=by (let ⟨x,hx,_,_⟩:=hc.tmS k hk hw;have hlt:=(LU.1 hx).1;have hlen:q.no (.tm k) < s.Timers.length:=by rw [h.fit.t];exact hlt);(have hlen':q.no (.tm k) < s.Values.length:=by rw [h.fit.x];exact hlt);(have ht:=(h.t k hk hw).1;rw [LV,ak hlen,N7,Tc] at ht;have key:bB s ⟨1,(q.no (.tm k):Int),false⟩=some { s with Values:=s.Values.set (q.no (.tm k)) true,Timers:=s.Timers.set (q.no (.tm k)) 2 }:=by unfold bB;rw [if_neg (by show ¬ (1:Int)=0;omega),if_pos rfl,show idx s.Timers (Af.Index ⟨1,(q.no (.tm k):Int),false⟩)=s.Timers[q.no (.tm k)]? from Ak,ak hlen,ht];rfl);refine ⟨_,key,Jm h.fit key,h.e,h.v,h.i,λj hj hg=>?_,h.m0,λi hi hwi=>?_⟩;show (s.Values.set _ _).getD _ _=_;rw [Hi hlen',if_neg (λe=>hjn j k hj hk hw e.symm)];exact h.m j hj hg;have h1:=h.t i hi hwi;show (s.Timers.set _ _).getD _ _=_/\(s.Values.set _ _).getD _ _=_;rw [Hi hlen,Hi hlen'];by_cases e:i=k;subst e;rw [if_pos rfl,if_pos rfl,Tc];exact ⟨rfl,rfl⟩;(have e2:q.no (.tm k)≠q.no (.tm i):=λe3=>e (hinj k i hk hw hi hwi e3).symm;rw [if_neg e2,if_neg e2];have:q.Tk k 2 i=q.Tk k 1 i:=by unfold CasD.Tk;rw [if_neg e,if_neg e]);rw [this];exact h1
theorem LP (hc:CasP c q) (h:Bs c q s E V M T st):∃ s',bB s ⟨2,0,!st⟩=some s'/\Bs c q s' E V M T (!st):=by (have hlen:0 < s.Inputs.length:=by rw [h.fit.i,hc.i];omega);(have hi:=h.i;rw [LV,ak hlen,N7] at hi;have key:bB s ⟨2,0,!st⟩=some { s with Inputs:=s.Inputs.set 0 (!st) }:=by unfold bB;rw [if_neg (by show ¬ (2:Int)=0;omega),if_neg (by show ¬ (2:Int)=1;omega),show idx s.Inputs (Af.Index ⟨2,0,!st⟩)=s.Inputs[0]? from Ak (n:=0),ak hlen,hi];dsimp only;rw [if_neg (by cases st <;> decide)]; rfl);refine ⟨_,key,Jm h.fit key,h.e,h.v,?_,h.m,h.m0,h.t⟩;show (s.Inputs.set 0 _).getD 0 _=_;rw [Hi hlen,if_pos rfl]
structure lI (q:CasD):Prop where
 inj:∀ i k,i < q.n->q.W i=true->k < q.n->q.W k=true->q.no (.tm i)=q.no (.tm k)->i=k
 jn:∀ j k,j < q.G->k < q.n->q.W k=true->q.no (.gl j)≠q.no (.tm k)
def Nxt (c:Aa) (q:CasD) (u:Ad) (k:Nat) (st:Bool):Prop:=RunS c q u (q.nk k) (q.ms (q.nk k)) 0 st/\(q.nk k=0->st=true)\/(q.nk k=0/\st=false/\eP c q u)
theorem iA (hc:CasP c q) (hs:SqP q) {k:Nat} (hk:k < q.n) (hb:Bs c q s (q.Ep (k + 1)) (q.pos (k + 1)) (CasD.Mj (q.g k)) (q.Tk k 2) st):∃ u,rst c 65 s=some u/\Nxt c q u k st/\∀ y,¬ rstP c 65 s y:=by
 by_cases hg:k + 1 < q.n/\q.g (k + 1)=q.g k
 ·let ⟨u,h1,h2,h3⟩:=lx hc hs hg.1 hg.2 hb;have:q.nk k=k + 1:=by unfold CasD.nk;rw [if_pos hg.1]
  refine ⟨u,h1,.inl ⟨?_,λe=>by omega⟩,h3⟩;rw [this];exact ⟨hg.1,Ww,Wv hs hg.1,h2⟩
 ·let ⟨n1,n2⟩:=hY hc hs hk (λh e=>hg ⟨h,e⟩) hb;have hl:=eu hs (k:=k);by_cases h0:q.nk k=0/\st=false
  ·let ⟨u,h1,h2,h3⟩:=n2 h0.1 h0.2;exact ⟨u,h1,.inr ⟨h0.1,h0.2,h2⟩,h3⟩
  ·have h4:q.nk k=0->st=true:=λe=>by cases st with
    | true=>rfl
    | false=>exact absurd ⟨e,rfl⟩ h0
   let ⟨u,h1,h2,h3⟩:=n1 h4;exact ⟨u,h1,.inl ⟨⟨hl,Ww,Wv hs hl,h2⟩,h4⟩,h3⟩
theorem d8 (hc:CasP c q) (hs:SqP q) {k:Nat} {mv:Nat->Bool} {t:Int} (hk:k < q.n) (hm:q.mvs k mv) (hr:q.run k mv t) {r:Nat} (hr6:r<=60) (hset:Setl q (q.Ek k mv) st r M T (CasD.Mj (q.g k)) (q.Tk k t)) (hb:Bs c q s (q.Ek k mv) (q.pos (k + 1)) M T st):∃ u,rst c 65 s=some u/\RunS c q u k mv t st/\∀ y,¬ rstP c 65 s y:=by have hR:=Lq (st:=st) hc hs hk hm hr;let ⟨u,h1,h2,h3⟩:=hb.rest hc hset hr6 hR.fp hR.fE hR.fV hR;exact ⟨u,h1,⟨hk,hm,hr,h2⟩,h3⟩
theorem gV (hc:CasP c q) (hs:SqP q) {k:Nat} {mv:Nat->Bool} (hk:k < q.n) (hno:∀ b,mv b=false) (hw:q.W k=true) (hb:Bs c q s (q.Ek k mv) (q.pos (k + 1)) (CasD.Mj (q.g k)) (q.Tk k 0) st):∃ u,rst c 65 s=some u/\RunS c q u k mv 1 st/\∀ y,¬ rstP c 65 s y:=by (have hm':q.mvs k mv:=λb hb=>by rw [hno b] at hb;cases hb);(have hr':q.run k mv 1:=.inr ⟨λb _ _=>hno b,hw,rfl⟩;have hR:=Lq (st:=st) hc hs hk hm' hr';have hcm:q.cm (q.Ek k mv) k=true:=(hs.cm_run hk).2 λb _ _=>hno b;have hEN:q.EN (q.Ek k mv) (q.Tk k 0) k=false:=by unfold CasD.EN;rw [if_pos hw,Tc];rfl);(let ⟨f1,f2⟩:=Qc (st:=st) hc.g2 (hc.gn k hk) (dM (hs.EN_la (t:=0) hm' hk (hc.gn k hk) hc.ln λ_=>hEN));have hT:∀ i,i < q.n->q.W i=true->q.T1 (q.Ek k mv) (CasD.Mj (q.g k)) (q.Tk k 0) i=q.Tk k 1 i:=λi hi hwi=>by by_cases e:i=k;subst e;unfold CasD.T1;rw [DK,hcm,if_neg (by decide),Tc,Tc,if_pos rfl];(have h5:=hR.fT i hi hwi;have h6:q.Tk k 1 i=q.Tk k 0 i:=by unfold CasD.Tk;rw [if_neg e,if_neg e]);rw [← h5];unfold CasD.T1;rw [h6]);exact d8 hc hs hk hm' hr' (r:=1) aa (.step f1 hT f2 (.fix hR.fM hR.fT hR.fn)) hb
theorem gi (hc:CasP c q) (hs:SqP q) {k a:Nat} {mv:Nat->Bool} {t:Int} (h:RunS c q s k mv t st) (ha:a < q.A) (hma:mv a=true) :
  ∃ u,ai c s ⟨0,(a:Int),false⟩=(u,0)/\(∀ y,¬ cH c s ⟨0,(a:Int),false⟩ y)/\(((∃ b o,(b,o)∈q.S k/\CasD.un mv a b=true)/\RunS c q u k (CasD.un mv a) 0 st)\/((∀ b,CasD.un mv a b=false)/\q.W k=true/\RunS c q u k (CasD.un mv a) 1 st)\/((∀ b,CasD.un mv a b=false)/\¬ q.W k=true/\Nxt c q u k st)):=by
 let ⟨hk,hm,hr,hat⟩:=h;have ht:t=0:=by
  rcases hr with ⟨_,h⟩ | ⟨h,_⟩
  ·exact h
  ·let ⟨o,ho⟩:=hm a hma;rw [h a o ho] at hma;cases hma
 subst ht;let ⟨s',h1,h2⟩:=gO hc ha hma hat.b;have hm':q.mvs k (CasD.un mv a):=λb hb=>hm b (by unfold CasD.un at hb;exact (Bool.and_eq_true_iff.1 hb).1);have fin:∀ {u:Ad} {Q:Prop},(rst c 65 s'=some u/\Q/\∀ y,¬ rstP c 65 s' y)->ai c s ⟨0,(a:Int),false⟩=(u,0)/\(∀ y,¬ cH c s ⟨0,(a:Int),false⟩ y)/\Q:=λ{u Q} ⟨g1,g2,g3⟩=>by
  let ⟨a1,a2⟩:=CV (c:=c) (x:=⟨0,(a:Int),false⟩) (by show ¬ ((0:Int) < 0\/3<=(0:Int));omega) h1 g1 g3;exact ⟨a1,a2,g2⟩
 by_cases hmo:∃ b o,(b,o)∈q.S k/\CasD.un mv a b=true
 ·have hr':q.run k (CasD.un mv a) 0:=.inl ⟨hmo,rfl⟩;have hR:=Lq (st:=st) hc hs hk hm' hr';let ⟨u,g1,g2,g3⟩:=d8 hc hs hk hm' hr' (r:=0) aa (.fix hR.fM hR.fT hR.fn) h2;let ⟨b1,b2,b3⟩:=fin ⟨g1,g2,g3⟩;exact ⟨u,b1,b2,.inl ⟨hmo,b3⟩⟩
 ·have hno:∀ b,CasD.un mv a b=false:=λb=>by
   cases e:CasD.un mv a b with
   | false=>rfl
   | true=>let ⟨o,ho⟩:=hm' b e;exact absurd ⟨b,o,ho,e⟩ hmo
  have hz:CasD.un mv a=λ_=>false:=funext hno;by_cases hw:q.W k=true
  ·let ⟨u,g1,g2,g3⟩:=gV hc hs hk hno hw h2;let ⟨b1,b2,b3⟩:=fin ⟨g1,g2,g3⟩;exact ⟨u,b1,b2,.inr (.inl ⟨hno,hw,b3⟩)⟩
  ·rw [hz,← DE] at h2;have h3:=h2.cong hc.g2 (T':=q.Tk k 2) (λ_ _=>rfl) (λ_ _=>rfl) (λ_ _=>rfl) λi hi hwi=>by
    have e:i≠k:=λe=>by subst e;exact hw hwi
    unfold CasD.Tk;rw [if_neg e,if_neg e]
   let ⟨u,g1,g2,g3⟩:=iA hc hs hk h3;let ⟨b1,b2,b3⟩:=fin ⟨g1,g2,g3⟩;exact ⟨u,b1,b2,.inr (.inr ⟨hno,hw,b3⟩)⟩
theorem jF (hc:CasP c q) (hs:SqP q) {k a:Nat} {mv:Nat->Bool} {t:Int} (h:RunS c q s k mv t st) (ha:a < q.A) (hma:mv a=true) :
  ∃ u,ai c s ⟨0,(a:Int),false⟩=(u,0)/\(∀ y,¬ cH c s ⟨0,(a:Int),false⟩ y)/\((∃ t',RunS c q u k (CasD.un mv a) t' st)\/((∀ b,CasD.un mv a b=false)/\Nxt c q u k st)):=by (let ⟨u,h1,h2,h3⟩:=gi hc hs h ha hma;refine ⟨u,h1,h2,?_⟩;rcases h3 with ⟨_,h3⟩ | ⟨_,_,h3⟩ | ⟨h4,_,h3⟩);exact .inl ⟨_,h3⟩;exact .inl ⟨_,h3⟩;exact .inr ⟨h4,h3⟩
theorem jE (hc:CasP c q) (hs:SqP q) (hp:lI q) {k:Nat} {mv:Nat->Bool} (h:RunS c q s k mv 1 st) :
  ∃ u,ai c s ⟨1,(q.no (.tm k):Int),false⟩=(u,0)/\(∀ y,¬ cH c s ⟨1,(q.no (.tm k):Int),false⟩ y)/\Nxt c q u k st:=by
 let ⟨hk,hm,hr,hat⟩:=h;obtain ⟨hno,hw⟩:(∀ b,mv b=false)/\q.W k=true:=by
  rcases hr with ⟨_,h⟩ | ⟨h1,h2,_⟩
  ·omega
  ·refine ⟨λb=>?_,h2⟩;cases e:mv b with
   | false=>rfl
   | true=>let ⟨o,ho⟩:=hm b e;rw [h1 b o ho] at e;cases e
 obtain rfl:mv=λ_=>false:=funext hno;let ⟨s',h1,h2⟩:=gN hc hp.inj hp.jn hk hw hat.b;rw [← DE] at h2;let ⟨u,g1,g2,g3⟩:=iA hc hs hk h2;let ⟨a1,a2⟩:=CV (c:=c) (x:=⟨1,(q.no (.tm k):Int),false⟩) (by show ¬ ((1:Int) < 0\/3<=(1:Int));omega) h1 g1 g3;exact ⟨u,a1,a2,g2⟩
theorem ll (hc:CasP c q) (hs:SqP q) {k:Nat} {mv:Nat->Bool} {t:Int} (h:RunS c q s k mv t st) :
  ∃ u,ai c s ⟨2,0,!st⟩=(u,0)/\(∀ y,¬ cH c s ⟨2,0,!st⟩ y)/\RunS c q u k mv t (!st):=by let ⟨hk,hm,hr,hat⟩:=h;let ⟨s',h1,h2⟩:=LP hc hat.b;have hR:=Lq (st:=!st) hc hs hk hm hr;let ⟨u,g1,g2,g3⟩:=d8 hc hs hk hm hr (r:=0) aa (.fix hR.fM hR.fT hR.fn) h2;let ⟨a1,a2⟩:=CV (c:=c) (x:=⟨2,0,!st⟩) (by show ¬ ((2:Int) < 0\/3<=(2:Int));omega) h1 g1 g3;exact ⟨u,a1,a2,g2⟩
theorem CG (hc:CasP c q) (hs:SqP q) (h:eP c q s) :
  ∃ u,ai c s ⟨2,0,true⟩=(u,0)/\(∀ y,¬ cH c s ⟨2,0,true⟩ y)/\RunS c q u 0 (q.ms 0) 0 true:=by (let ⟨s',h1,h2⟩:=LP hc h.b;have fin:∃ u,Pn.rst c 65 s'=some u/\At_ c q u (q.Ek 0 (q.ms 0)) (q.pos (0 + 1)) (CasD.Mj (q.g 0)) (q.Tk 0 0) true/\∀ y,¬ Pn.rstP c 65 s' y:=by by_cases hch:q.ch=true;(have hn:=hs.n0;rw [ga hs hch,gQ hch,HS hs,Uw hs] at h2;have hnk:q.nk (q.n - 1)=0:=by unfold CasD.nk;rw [if_neg aa]);have:=(hY hc hs (show q.n - 1 < q.n by omega) (λh=>by omega) h2).1 λ_=>rfl;rw [hnk] at this;exact this;(have hcf:q.ch=false:=by simpa using hch);(have hf:q.fst 0:=λi _ _=>NN _;have hq:=Wp (st:=true) hc hs hf hs.n0;rw [hs.g0] at hq;have hR:=BA hc hs hcf;rw [eB hcf,eN hcf] at h2;have hset:Setl q (q.Ep 0) true 0 (CasD.Mj 0) (q.Tk 0 0) (CasD.Mj (q.g 0)) (q.Tk 0 0):=by rw [hs.g0];exact .fix hq.1 hR.fT hq.2);exact LM hc hs hf hs.n0 h2 hset aa λ_ _=>rfl);let ⟨u,g1,g2,g3⟩:=fin;let ⟨a1,a2⟩:=CV (c:=c) (x:=⟨2,0,true⟩) (by show ¬ ((2:Int) < 0\/3<=(2:Int));omega) h1 g1 g3;exact ⟨u,a1,a2,hs.n0,Ww,Wv hs hs.n0,g2⟩
end
section
namespace Csc
def aB (s:Ai) (k:Nat):Step:=s.Steps.getD k default
def S (s:Ai) (k:Nat):List (Nat×Bool):=(aB s k).Strokes.map λx=>(x.Actuator.toNat,x.Out)
def W (s:Ai) (k:Nat):Bool:=(aB s k).Wait != 0
def rep (s:Ai) (i k:Nat):Bool:=(S s i).any λx=>(S s k).any λy=>x.1 == y.1
def brk (s:Ai) (b k:Nat):Bool:=(List.range k).any λi=>decide (b<=i) && rep s i k
def gb (s:Ai):Nat->Nat×Nat
 | 0=>(0,0)
 | k + 1=>if brk s (gb s k).1 (k + 1)=true then (k + 1,(gb s k).2 + 1) else gb s k
def dl (s:Ai):Nat->QR
 | 0=>[0]
 | k + 1=>if brk s (gb s k).1 (k + 1)=true then dl s k ++ [k + 1] else dl s k
def n (s:Ai):Nat:=s.Steps.length
def g (s:Ai) (k:Nat):Nat:=(gb s k).2
def dv (s:Ai):QR:=dl s (n s - 1)
def G (s:Ai):Nat:=(dv s).length
def bS (s:Ai) (j:Nat):Nat:=if j + 1 < G s then (dv s).getD (j + 1) 0 - 1 else n s - 1
def A (s:Ai):Nat:=s.Actuators.toNat
def au (s:Ai) (k:Nat):Nat:=((List.range k).filter (W s)).length
def no (s:Ai):Sg->Nat
 | .gl j=>if G s=2 then 1 - j else j
 | .tm k=>G s + au s k
 | .sg k=>G s + au s (n s) + k
 | .pl a o=>G s + au s (n s) + n s + 2 * a + (if o=true then 0 else 1)
def an (s:Ai):CasD:=⟨A s,n s,G s,S s,W s,g s,bS s,no s,false⟩
end Csc
open Csc
variable {s:Ai}
theorem dD (k:Nat):gb s (k + 1)=if brk s (gb s k).1 (k + 1)=true then (k + 1,(gb s k).2 + 1) else gb s k:=rfl
theorem gv (k:Nat):dl s (k + 1)=if brk s (gb s k).1 (k + 1)=true then dl s k ++ [k + 1] else dl s k:=rfl
theorem iv (k:Nat):g s (k + 1)=if brk s (gb s k).1 (k + 1)=true then g s k + 1 else g s k:=by unfold g; rw [dD]; split <;> rfl
theorem J9:∀ k,(gb s k).1<=k
 | 0=>MG _
 | k + 1=>by
  rw [dD];split
  ·exact MG _
  ·have:=J9 k;omega
theorem CK:∀ k,(dl s k).length=g s k + 1
 | 0=>rfl
 | k + 1=>by
  have:=CK k;rw [gv,iv];split
  ·rw [LW,this];rfl
  ·exact this
theorem HA {i:Nat}:∀ {k:Nat},i<=k->∃ t,dl s k=dl s i ++ t
 | 0,h=>by
  obtain rfl:i=0:=by omega
  exact ⟨[],by simp⟩
 | k + 1,h=>by
  rcases NE h with e | e
  ·subst e;exact ⟨[],by simp⟩
  ·let ⟨t,ht⟩:=HA (i:=i) (k:=k) aa;rw [gv];split
   ·exact ⟨t ++ [k + 1],by rw [ht,MP]⟩
   ·exact ⟨t,ht⟩
theorem Vz:∀ k,(dl s k)[g s k]?=some (gb s k).1
 | 0=>rfl
 | k + 1=>by
  have h:=Vz k;have hl:=CK (s:=s) k;rw [gv,iv,dD];split
  ·rw [LX aa,hl,PB];rfl
  ·exact h
theorem Lb {i:Nat}:∀ {k:Nat},i<=k->g s i<=g s k
 | 0,h=>by
  obtain rfl:i=0:=by omega
  exact MG _
 | k + 1,h=>by
  rcases NE h with e | e
  ·subst e;exact MG _
  ·have:=Lb (i:=i) (k:=k) aa;rw [iv];split <;> omega
theorem Yo (k:Nat):g s (k + 1)=g s k\/g s (k + 1)=g s k + 1:=by rw [iv];split;exact .inr rfl;exact .inl rfl
theorem AK {i:Nat}:∀ {k:Nat},i<=k->g s i=g s k->gb s i=gb s k
 | 0,h,_=>by
  obtain rfl:i=0:=by omega
  rfl
 | k + 1,h,hg=>by
  rcases NE h with e | e
  ·subst e;rfl
  ·have h1:=Lb (s:=s) (show i<=k by omega);have h2:=Lb (s:=s) (show k<=k + 1 by omega);have h3:=AK (i:=i) (k:=k) aa aa;have h4:g s k=g s (k + 1):=by omega
   rw [h3,dD];rw [iv] at h4;by_cases hb:brk s (gb s k).1 (k + 1)=true
   ·rw [if_pos hb] at h4;omega
   ·rw [if_neg hb]
theorem K0 {i k a:Nat} {o o':Bool} (h1:(a,o)∈S s i) (h2:(a,o')∈S s k):rep s i k=true:=by unfold rep;rw [MD];refine ⟨_,h1,?_⟩;rw [MD];exact ⟨_,h2,by simp⟩
theorem G4 {i k a:Nat} {o o':Bool} (hik:i < k) (hg:g s i=g s k) (h1:(a,o)∈S s i) (h2:(a,o')∈S s k):False:=by (obtain ⟨k,rfl⟩:∃ k',k=k' + 1:=⟨k - 1,by omega⟩;have hb:=AK (s:=s) (show i<=k + 1 by omega) hg;have hk:g s k=g s (k + 1):=by have h3:=Lb (s:=s) (show i<=k by omega);have h4:=Lb (s:=s) (show k<=k + 1 by omega);omega);have hbk:=AK (s:=s) (show i<=k by omega) aa;have hi:=J9 (s:=s) i;rw [iv] at hk;by_cases hn:brk s (gb s k).1 (k + 1)=true;rw [if_pos hn] at hk;omega;refine hn ?_;unfold brk;rw [MD];refine ⟨i,L4.2 hik,?_⟩;rw [L1,decide_eq_true_iff];exact ⟨by rw [← hbk];exact hi,K0 h1 h2⟩
theorem Yt {j:Nat}:∀ {k:Nat},j<=g s k->∃ b,(dl s k)[j]?=some b/\b<=k/\g s b=j/\(0 < b->g s (b - 1) + 1=j)/\(j=0->b=0)
 | 0,h=>by
  obtain rfl:j=0:=by have:g s 0=0:=rfl;omega
  exact ⟨0,rfl,MG _,rfl,λh=>by omega,λ_=>rfl⟩
 | k + 1,h=>by
  by_cases hj:j<=g s k
  ·let ⟨b,h1,h2,h3,h4,h5⟩:=Yt (k:=k) hj;let ⟨t,ht⟩:=HA (s:=s) (show k<=k + 1 by omega);refine ⟨b,?_,by omega,h3,h4,h5⟩;rw [ht,L2 (LU.1 h1).1];exact h1
  ·have hs:=Yo (s:=s) k;have hgk:g s (k + 1)=g s k + 1:=by omega
   obtain rfl:j=g s (k + 1):=by omega
   have hgb:(gb s (k + 1)).1=k + 1:=by
    rw [iv] at hgk;rw [dD];by_cases hb:brk s (gb s k).1 (k + 1)=true
    ·rw [if_pos hb]
    ·rw [if_neg hb] at hgk;omega
   refine ⟨k + 1,?_,MG _,rfl,λ_=>by rw [NV];omega,λh=>by omega⟩;rw [Vz,hgb]
theorem KV:G s=g s (n s - 1) + 1:=CK _
theorem ez (h0:0 < n s) {j:Nat} (hj:j < G s):bS s j < n s/\g s (bS s j)=j/\(bS s j + 1 < n s->g s (bS s j + 1)=j + 1):=by have hG:=KV (s:=s);unfold bS;by_cases h:j + 1 < G s;(rw [if_pos h];let ⟨b,h1,h2,h3,h4,h5⟩:=Yt (s:=s) (j:=j + 1) (k:=n s - 1) aa;have hd:(dv s).getD (j + 1) 0=b:=by unfold dv;rw [LV,h1];rfl);(have hb:0 < b:=by (rcases PJ b with e | e);subst e;have:g s 0=0:=rfl;omega;exact e);rw [hd];have:=h4 hb;refine ⟨by omega,by omega,λ_=>?_⟩;rw [PH hb];exact h3;rw [if_neg h];refine ⟨by omega,by omega,λh=>by omega⟩
structure Sqc (s:Ai):Prop where
 a0:1<=s.Actuators
 a6:s.Actuators<=6
 n0:0 < n s
 ne:∀ k,k < n s->(aB s k).Strokes≠[]
 ac:∀ k,k < n s->∀ x∈(aB s k).Strokes,0<=x.Actuator/\x.Actuator < s.Actuators
 w0:∀ k,k < n s->0<=(aB s k).Wait
 fits:∀ k,k < n s->∀ a o,(a,o)∈S s k->(an s).pos k a=!o
 back:∀ a,(an s).pos (n s) a=false
 mv:∀ a,a < A s->∃ k o,k < n s/\(a,o)∈S s k
theorem Sqc.g2 (h:Sqc s):2<=G s:=by
 have hG:=KV (s:=s);rcases M7 (G s) 2 with h2 | h2
 ·exfalso;let ⟨k,o,hk,ha⟩:=h.mv 0 (by have:=h.a0;unfold A;omega);revert ha;generalize (0:Nat)=a;intro ha;have h0:∀ i,i < n s->g s i=0:=λi hi=>by have:=Lb (s:=s) (show i<=n s - 1 by omega);omega
  -- the sequence of a single group
  have key:∀ d,k + d < n s->(an s).pos (k + d + 1) a=o:=by
   intro d
   induction d with
   | zero=>
    intro hd;show (if (a,true)∈S s k then true else if (a,false)∈S s k then false else (an s).pos k a)=o
    have hf:=h.fits k hk a o ha;cases o with
    | true=>rw [if_pos ha]
    | false=>rw [if_neg (λe=>by have:=h.fits k hk a true e;rw [hf] at this;cases this),if_pos ha]
   | succ d ih=>
    intro hd;have h1:=ih aa;have hno:∀ o',(a,o') ∉ (an s).S (k + d + 1):=λo' ho=>G4 (s:=s) (show k < k + d + 1 by omega) (by rw [h0 _ hk,h0 _ aa]) ha ho;rw [show k + (d + 1) + 1=(k + d + 1) + 1 by omega,Em hno];exact h1
  have h3:=key (n s - 1 - k) aa;rw [show k + (n s - 1 - k) + 1=n s by omega,h.back] at h3;have key2:∀ d,d<=k->(an s).pos (k - d) a=!o:=by
   intro d
   induction d with
   | zero=>intro _;exact h.fits k hk a o ha
   | succ d ih=>
    intro hd;have h1:=ih aa;have hno:∀ o',(a,o') ∉ (an s).S (k - (d + 1)):=λo' ho=>G4 (s:=s) (show k - (d + 1) < k by omega) (by rw [h0 _ hk,h0 _ aa]) ho ha;rw [show k - d=k - (d + 1) + 1 by omega,Em hno] at h1;exact h1
  have h4:=key2 k (MG _);rw [PB] at h4;have h5:(an s).pos 0 a=false:=rfl;rw [h5] at h4;cases o
  ·cases h4
  ·cases h3
 ·exact h2
theorem Sqc.sq (h:Sqc s):SqP (an s) where
 n0:=h.n0
 ne:=λk hk e=>by
  have:=h.ne k hk;unfold an S at e;exact this (O6.1 e)
 fits:=h.fits
 back:=h.back
 g0:=rfl
 gs:=λk _=>Yo k
 gl:=KV.symm
 gu:=λi k hik _ hg a o o' h1 h2=>G4 hik hg h1 h2
 gch:=λe=>by cases e
 la:=λj hj=>(ez h.n0 hj).2
end
section
open Csc
variable {s:Ai}
theorem Bi {p:Nat->Bool} {k n:Nat} (hk:k < n) (hp:p k=true):((List.range n).filter p)[((List.range k).filter p).length]?=some k:=by obtain ⟨m,rfl⟩:∃ m,n=k + (1 + m):=⟨n - k - 1,by omega⟩;rw [List.range_add,O2,LX (MG _),PB,List.range_add,NY,O2];simp [hp]
theorem Nc {p:Nat->Bool}:∀ {n i:Nat},i < ((List.range n).filter p).length->∃ k,k < n/\p k=true/\((List.range k).filter p).length=i
 | 0,i,h=>by simp at h
 | n + 1,i,h=>by
  rw [NP,O2,LW] at h;by_cases h1:i < ((List.range n).filter p).length
  ·let ⟨k,hk,h2,h3⟩:=Nc h1;exact ⟨k,by omega,h2,h3⟩
  ·have hp:p n=true:=by
    cases hp:p n with
    | true=>rfl
    | false=>rw [show [n].filter p=[] by simp [hp]] at h;simp at h;omega
   rw [show [n].filter p=[n] by simp [hp]] at h;simp only [NJ,N6] at h;exact ⟨n,by omega,hp,by omega⟩
theorem Eb {α:Type} {f h:Nat->α}:∀ {n:Nat},((List.range n).flatMap λa=>[f a,h a]).length=2 * n
 | 0=>rfl
 | n + 1=>by rw [NP,N9,LW,Eb];simp;omega
theorem Ha {α:Type} {f h:Nat->α} {a:Nat}:∀ {n:Nat},a < n->((List.range n).flatMap λa=>[f a,h a])[2 * a]?=some (f a)/\((List.range n).flatMap λa=>[f a,h a])[2 * a + 1]?=some (h a)
 | 0,ha=>by omega
 | n + 1,ha=>by
  have hl:=Eb (f:=f) (h:=h) (n:=n);rw [NP,N9];rcases NE (show a<=n by omega) with e | e
  ·subst e;rw [LX aa,LX aa,hl];simp
  ·let ⟨h1,h2⟩:=Ha (f:=f) (h:=h) e;rw [L2 aa,L2 aa];exact ⟨h1,h2⟩
abbrev zxp:Expr:=⟨0,0,[]⟩
namespace Csc
def cI (N:Sg->QT) (s:Ai):List Ae:=
 if G s=2 then [⟨N (.gl 1),1,Cd 3 ((an s).en (bS s 0)),Cd 3 ((an s).en (bS s 1)),0,false⟩,⟨N (.gl 0),0,⟨2,0,[lnx ((an s).L (.gl 1))]⟩,zxp,0,false⟩]
 else (List.range (G s)).map λj=>⟨N (.gl j),1,Cd 3 ((an s).L (.gl ((an s).pv j)) :: (an s).en (bS s ((an s).pv j))),lnx ((an s).L (.gl ((an s).nx j))),0,decide (j=0)⟩
def sT (N:Sg->QT) (s:Ai) (k:Nat):Ae:=⟨N (.tm k),2,Cd 3 ((an s).L (.gl (g s k)) :: (S s k).map CasD.sw),zxp,(aB s k).Wait,false⟩
def sS (N:Sg->QT) (s:Ai) (k:Nat):Ae:=⟨N (.sg k),0,Cd 3 ((an s).L (.gl (g s k)) :: (an s).bg k),zxp,0,false⟩
def sP (N:Sg->QT) (s:Ai) (o:Bool) (a:Nat):Ae:=⟨N (.pl a o),0,Cd 4 (((an s).at_ a o).map λk=>(an s).L (.sg k)),zxp,0,false⟩
def aY (N:Sg->QT) (s:Ai):List Ae:=cI N s ++ (((List.range (n s)).filter (W s)).map (sT N s) ++ ((List.range (n s)).map (sS N s) ++ (List.range (A s)).flatMap λa=>[sP N s true a,sP N s false a]))
def blt (N:Sg->QT) (i:QT) (s:Ai):Aa:=⟨s.Actuators,[i],aY N s,(List.range (A s)).map λa=>(((an s).L (.pl a true):Nat):Int),(List.range (A s)).map λa=>(((an s).L (.pl a false):Nat):Int)⟩
end Csc
variable {N:Sg->QT} {i:QT}
theorem Ej:(cI N s).length=G s:=by unfold cI;split;rename_i h;rw [h];rfl;rw [L9,MS]
theorem Fx:(aY N s).length=G s + au s (n s) + n s + 2 * A s:=by unfold aY;rw [LW,LW,LW,Ej,L9,L9,MS,Eb];show G s + (au s (n s) + (n s + 2 * A s))=_;omega
theorem Pw {j:Nat} (hj:j < G s):(aY N s)[j]?=(cI N s)[j]?:=by unfold aY;rw [L2 (by rw [Ej];exact hj)]
theorem H1 {k:Nat} (hk:k < n s) (hw:W s k=true):(aY N s)[G s + au s k]?=some (sT N s k):=by have h1:=Bi hk hw;have h2:=(LU.1 h1).1;unfold aY;rw [LX (by rw [Ej];omega),Ej,show G s + au s k - G s=au s k by omega,L2 (by rw [L9];exact h2),L7];show (((List.range (n s)).filter (W s))[((List.range k).filter (W s)).length]?).map _=_;rw [h1];rfl
theorem dZ {k:Nat} (hk:k < n s):(aY N s)[G s + au s (n s) + k]?=some (sS N s k):=by
 have hl:(((List.range (n s)).filter (W s)).map (sT N s)).length=au s (n s):=by rw [L9];rfl
 unfold aY;rw [LX (by rw [Ej];omega),Ej,LX aa,hl,show G s + au s (n s) + k - G s - au s (n s)=k by omega,L2 (by rw [L9,MS];exact hk),L7,ME hk];rfl
theorem d7 {a:Nat} {o:Bool} (ha:a < A s):(aY N s)[G s + au s (n s) + n s + 2 * a + (if o=true then 0 else 1)]?=some (sP N s o a):=by
 have hl:(((List.range (n s)).filter (W s)).map (sT N s)).length=au s (n s):=by rw [L9];rfl
 have hl2:((List.range (n s)).map (sS N s)).length=n s:=by rw [L9,MS]
 let ⟨h1,h2⟩:=Ha (f:=sP N s true) (h:=sP N s false) ha;unfold aY;rw [LX (by rw [Ej];omega),Ej,LX aa,hl,LX aa,hl2];cases o with
 | true=>rw [if_pos rfl,show G s + au s (n s) + n s + 2 * a + 0 - G s - au s (n s) - n s=2 * a by omega];exact h1
 | false=>rw [if_neg (by decide),show G s + au s (n s) + n s + 2 * a + 1 - G s - au s (n s) - n s=2 * a + 1 by omega];exact h2
theorem jD {q:CasD} (h:q.ch=false) {j:Nat}:q.ex j=q.en (q.la j):=by unfold CasD.ex;rw [if_neg (by rw [h];simp),M4]
theorem Sqc.cas (h:Sqc s):CasP (blt N i s) (an s) where
 a:=rfl
 i:=rfl
 g2:=h.g2
 gn:=λk hk=>by
  have:=Lb (s:=s) (show k<=n s - 1 by have:k < n s:=hk;omega);show g s k < G s;rw [KV];omega
 ln:=λj hj=>(ez h.n0 hj).1
 Sa:=λk hk x hx=>by
  obtain ⟨y,hy,rfl⟩:=MJ.1 hx;have:=h.ac k hk y hy;show y.Actuator.toNat < s.Actuators.toNat
  omega
 sur:=λj hj=>by
  have hj:j < G s + au s (n s) + n s + 2 * A s:=by rw [← Fx (N:=N)];exact hj
  have h2:=h.g2;rcases M7 j (G s) with h1 | h1
  ·refine ⟨.gl (if G s=2 then 1 - j else j),?_,?_,λ_ _=>rfl⟩
   ·show (if G s=2 then 1 - j else j) < G s
    split <;> omega
   ·show (if G s=2 then 1 - (if G s=2 then 1 - j else j) else (if G s=2 then 1 - j else j))=j
    split <;> omega
  ·rcases M7 j (G s + au s (n s)) with h3 | h3
   ·let ⟨k,hk,hw,he⟩:=Nc (p:=W s) (n:=n s) (i:=j - G s) (by show _ < au s (n s);omega);refine ⟨.tm k,⟨hk,hw⟩,?_,λ_ _=>rfl⟩;show G s + au s k=j;unfold au;omega
   ·rcases M7 j (G s + au s (n s) + n s) with h4 | h4
    ·exact ⟨.sg (j - G s - au s (n s)),show _ < n s by omega,show G s + au s (n s) + _=j by omega,λ_ _=>rfl⟩
    ·refine ⟨.pl ((j - G s - au s (n s) - n s) / 2) (decide ((j - G s - au s (n s) - n s) % 2=0)),show _ < A s by omega,?_,λ_ _=>rfl⟩;show G s + au s (n s) + n s + 2 * ((j - G s - au s (n s) - n s) / 2) + (if decide ((j - G s - au s (n s) - n s) % 2=0)=true then 0 else 1)=j
     by_cases e:(j - G s - au s (n s) - n s) % 2=0
     ·rw [ar e,if_pos rfl];omega
     ·rw [aq e,if_neg (by decide)];omega
 tmS:=λk hk hw=>⟨_,H1 hk hw,rfl,rfl⟩
 sgS:=λ_ k hk=>⟨_,dZ hk,rfl,rfl⟩
 chn:=λe=>by cases e
 plS:=λa o ha=>⟨_,d7 ha,rfl,rfl⟩
 glS:=λhG j hj=>by
  have hG:G s≠2:=hG;have hj:j < G s:=hj;refine ⟨⟨N (.gl j),1,Cd 3 ((an s).L (.gl ((an s).pv j)) :: (an s).en (bS s ((an s).pv j))),lnx ((an s).L (.gl ((an s).nx j))),0,decide (j=0)⟩,?_,rfl,by rw [jD rfl];rfl,rfl⟩;show (aY N s)[if G s=2 then 1 - j else j]?=_
  rw [if_neg hG,Pw hj];unfold cI;rw [if_neg hG,L7,ME hj];rfl
 glT:=λhG=>by
  have hG:G s=2:=hG;refine ⟨⟨N (.gl 1),1,Cd 3 ((an s).en (bS s 0)),Cd 3 ((an s).en (bS s 1)),0,false⟩,?_,rfl,by rw [jD rfl];rfl,by rw [jD rfl];rfl⟩;show (aY N s)[if G s=2 then 1 - 1 else 1]?=_
  rw [if_pos hG,Pw aa];unfold cI;rw [if_pos hG];rfl
 glU:=λhG=>by
  have hG:G s=2:=hG;refine ⟨⟨N (.gl 0),0,⟨2,0,[lnx ((an s).L (.gl 1))]⟩,zxp,0,false⟩,?_,rfl,rfl⟩;show (aY N s)[if G s=2 then 1 - 0 else 0]?=_
  rw [if_pos hG,Pw aa];unfold cI;rw [if_pos hG];rfl
 ogs:=λ_ hG k hk=>by
  have hG:G s=2:=hG;show (if G s=2 then 1 - 0 else 0) < G s + au s (n s) + k
  rw [if_pos hG];omega
 osp:=λk a o hk ha=>by
  have hk:k < n s:=hk;show G s + au s (n s) + k < G s + au s (n s) + n s + 2 * a + (if o=true then 0 else 1)
  omega
 pls:=λa ha=>Dq (show a < A s from ha)
 mns:=λa ha=>Dq (show a < A s from ha)
theorem Sqc.tmp:lI (an s) where
 inj:=λa b ha hwa hb hwb he=>by
  have he:G s + au s a=G s + au s b:=he;have h1:=Bi ha hwa;have h2:=Bi hb hwb;have h3:((List.range a).filter (W s)).length=((List.range b).filter (W s)).length:=by unfold au at he;omega
  have h1:((List.range (n s)).filter (W s))[((List.range a).filter (W s)).length]?=some a:=h1;rw [h3] at h1;exact Option.some.inj (h1.symm.trans h2)
 jn:=λj k hj hk hw=>by
  have hj:j < G s:=hj;show (if G s=2 then 1 - j else j)≠G s + au s k
  split <;> omega
theorem Sqc.ini (h:Sqc s) (hf:Fit (blt N i s) (Pn.ini (blt N i s))):Bs (blt N i s) (an s) (Pn.ini (blt N i s)) ((an s).Ep 0) ((an s).pos 0) (CasD.Mj 0) ((an s).Tk 0 0) false:=by (have h2:=h.g2;have hl:=Fx (N:=N) (s:=s);have hv:∀ j x,(aY N s)[j]?=some x->(Pn.ini (blt N i s)).Values.getD j false=x.Init:=λj x hx=>by have hlt:=(LU.1 hx).1;show ((List.range (aY N s).length).map (B6 (blt N i s))).getD j false=_;rw [Dq hlt];unfold B6;rw [show (blt N i s).Signals[j]?=some x from hx];rfl);(have hrep:∀ {α:Type} (m j:Nat) (d:α),(List.replicate m d).getD j d=d:=λm j d=>by rw [LV,OB]; split <;> rfl);refine ⟨hf,λa ha=>?_,λa ha=>?_,rfl,λj hj hg=>?_,λ_=>rfl,λk hk hw=>⟨?_,?_⟩⟩;exact hrep _ _ _;exact hrep _ _ _;have hj:j < G s:=hj;show (Pn.ini (blt N i s)).Values.getD (if G s=2 then 1 - j else j) false=_;by_cases e:G s=2;(obtain rfl:=hg e;rw [if_pos e];have:(aY N s)[1 - 1]?=some ⟨N (.gl 1),1,Cd 3 ((an s).en (bS s 0)),Cd 3 ((an s).en (bS s 1)),0,false⟩:=by rw [Pw aa];unfold cI;rw [if_pos e];rfl);rw [hv _ _ this];rfl;(rw [if_neg e];have:(aY N s)[j]?=some ⟨N (.gl j),1,Cd 3 ((an s).L (.gl ((an s).pv j)) :: (an s).en (bS s ((an s).pv j))),lnx ((an s).L (.gl ((an s).nx j))),0,decide (j=0)⟩:=by rw [Pw hj];unfold cI;rw [if_neg e,L7,ME hj];rfl);rw [hv _ _ this];unfold CasD.Mj;show decide (j=0)=(j == 0);rw [NB];simp;rw [Yx (λ_ _ _=>NN _) hk];exact hrep _ _ _;rw [Yx (λ_ _ _=>NN _) hk];show (Pn.ini (blt N i s)).Values.getD (G s + au s k) false=_;rw [hv _ _ (H1 hk hw)];rfl
end
section
open Csc
theorem jJ {L:Nat->Int->Option (Lo Int Int)} {N:Nat} {P:Nat->Prop}
  (h:∀ (n i:Nat),i < N->(∃ e,e≠0/\L (n + 1) (i:Int)=some (.ret e))\/(P i/\L (n + 1) (i:Int)=L n ((i + 1:Nat):Int))) (h':∀ n,L (n + 1) (N:Int)=some (.brk (N:Int))) :
  ∀ (n i:Nat),i<=N->N - i < n->(∃ e,e≠0/\L n (i:Int)=some (.ret e))\/(L n (i:Int)=some (.brk (N:Int))/\∀ k,i<=k->k < N->P k)
 | 0,i,_,h=>by omega
 | n + 1,i,h1,h2=>by
  by_cases hi:i < N
  ·rcases h n i hi with h3 | ⟨h3,h4⟩
   ·exact .inl h3
   ·rw [h4];rcases jJ h h' n (i + 1) aa aa with h5 | ⟨h5,h6⟩
    ·exact .inl h5
    ·refine .inr ⟨h5,λk h7 h8=>?_⟩;rcases NE h7 with e | e
     ·subst e;exact h3
     ·exact h6 k e h8
  ·obtain rfl:i=N:=by omega
   exact .inr ⟨h' n,λk h3 h4=>by omega⟩
structure Stk (x:Step):Prop where
 ne:x.Strokes≠[]
 le:x.Strokes.length<=6
 ac:∀ y∈x.Strokes,0<=y.Actuator/\y.Actuator < 6
 srt:∀ (i:Nat) y z,x.Strokes[i]?=some y->x.Strokes[i + 1]?=some z->y.Actuator < z.Actuator
 w:0<=x.Wait/\x.Wait<=1000000
theorem GQ (x:Step):∃ e,Q4 FF x=some e/\(e=0->Stk x):=by
 unfold Q4;by_cases h0:x.Strokes=[]
 ·rw [h0];exact ⟨13,rfl,λh=>by omega⟩
 have hl:0 < x.Strokes.length:=List.length_pos_iff.2 h0;rw [show ((x.Strokes.length:Int) == 0)=false by rw [beq_eq_false_iff_ne];omega,ae];by_cases h6:x.Strokes.length > 6
 ·rw [ar aa,af];exact ⟨5,rfl,λh=>by omega⟩
 rw [aq aa,ae];have h:=jJ (L:=Mz FF x) (N:=x.Strokes.length) (P:=λi=>∀ y,x.Strokes[i]?=some y->(0<=y.Actuator/\y.Actuator < 6)/\∀ j z,i=j + 1->x.Strokes[j]?=some z->z.Actuator < y.Actuator) (λn i hi=>by
  have hx:=ak hi;rw [Mz,Am,ar hi,af,Ak,hx,ab];unfold Q2;rw [ab];by_cases ha:0<=x.Strokes[i].Actuator/\x.Strokes[i].Actuator < 6
  ·rw [ar (show x.Strokes[i].Actuator>=0 from ha.1),ar ha.2,ON,OC,ae];cases i with
   | zero=>
    rw [show decide (((0:Nat):Int) > 0)=false by rfl,ae,ab,ae,ae,ab,ae,An aa];refine .inr ⟨λy hy=>?_,rfl⟩;obtain rfl:=Option.some.inj hy;exact ⟨ha,λj z hj=>by omega⟩
   | succ i=>
    have hz:=ak (show i < x.Strokes.length by omega);have hw:wr (((i + 1:Nat):Int) - 1)=(i:Int):=by rw [Aq aa aa];omega
    rw [ar (by omega:((i + 1:Nat):Int) > 0),af,hw,Ak,hz];simp only [ab,af];by_cases he:x.Strokes[i + 1].Actuator=x.Strokes[i].Actuator
    ·rw [show (x.Strokes[i + 1].Actuator == x.Strokes[i].Actuator)=true by simpa using he,af];exact .inl ⟨7,by omega,rfl⟩
    ·rw [show (x.Strokes[i + 1].Actuator == x.Strokes[i].Actuator)=false by simpa using he,ae];by_cases hl:x.Strokes[i + 1].Actuator < x.Strokes[i].Actuator
     ·rw [ar hl,af];exact .inl ⟨9,by omega,rfl⟩
     ·rw [aq hl,ae,An aa];refine .inr ⟨λy hy=>?_,rfl⟩;obtain rfl:=Option.some.inj hy;refine ⟨ha,λj z hj hz'=>?_⟩;obtain rfl:j=i:=by omega
      rw [hz] at hz';obtain rfl:=Option.some.inj hz';omega
  ·have:(decide (x.Strokes[i].Actuator>=0) && decide (x.Strokes[i].Actuator < 6))=false:=by
    rw [OG,decide_eq_false_iff_not,decide_eq_false_iff_not];omega
   rw [this,O0,af];exact .inl ⟨2,by omega,rfl⟩) (λn=>by
  rw [Mz,Am,aq aa,ae]) FF 0 aa uF
 rw [n0] at h;rcases h with ⟨e,he,h⟩ | ⟨h,hP⟩
 ·rw [h];exact ⟨e,rfl,λh=>absurd h he⟩
 ·rw [h,ab];dsimp only;unfold Q3;rw [ab];by_cases hw:0<=x.Wait/\x.Wait<=1000000
  ·rw [ar (show x.Wait>=0 from hw.1),ar hw.2];refine ⟨0,rfl,λ_=>⟨h0,by omega,λy hy=>?_,λi y z hy hz=>?_,hw⟩⟩
   ·let ⟨i,hi⟩:=NH hy;exact (hP i (NN _) (LU.1 hi).1 y hi).1
   ·exact (hP (i + 1) (NN _) (LU.1 hz).1 z hz).2 i y rfl hy
  ·have:(decide (x.Wait>=0) && decide (x.Wait<=1000000))=false:=by
    rw [OG,decide_eq_false_iff_not,decide_eq_false_iff_not];omega
   rw [this];exact ⟨2,rfl,λh=>by omega⟩
theorem Stk.asc {x:Step} (h:Stk x) {i j:Nat} {y z:Ab} (hij:i < j) (hy:x.Strokes[i]?=some y) (hz:x.Strokes[j]?=some z):y.Actuator < z.Actuator:=by
 induction j generalizing z with
 | zero=>omega
 | succ j ih=>
  have hj:=(LU.1 hz).1;have hw:=ak (show j < x.Strokes.length by omega);have h1:=h.srt j _ z hw hz;rcases NE (show i<=j by omega) with e | e
  ·subst e;rw [hw] at hy;obtain rfl:=Option.some.inj hy;exact h1
  ·have:=ih e hw;omega
def kf (x:Step) (i:Nat) (v:Bool) (a:Nat):Bool:=match (x.Strokes.take i).find? (λy=>y.Actuator.toNat == a) with | some y=>y.Out | none=>v
theorem C9 {x:Step} {l:QQ} (h:Stk x) (hl:l.length<=1000) (hA:∀ y∈x.Strokes,y.Actuator < l.length):∃ r,Q6 FF x l=some r/\r.length=l.length/\∀ a,a < l.length->r.getD a false=kf x x.Strokes.length (l.getD a false) a:=by
 have h6:=h.le;unfold Q6;rw [Ar ay,ab,OJ];obtain ⟨v,⟨hv1,hv⟩,hh⟩:=Lj (L:=Mw x) (mk:=λi (v:QQ)=>((i:Int),v)) (N:=x.Strokes.length) (I:=λi v=>v.length=l.length/\∀ a,a < l.length->v.getD a false=kf x i (l.getD a false) a) (λn i v hi hI=>by
  have hx:=ak hi;have hac:=h.ac _ (MA hi);have hlt:=hA _ (MA hi);have hid:idx v x.Strokes[i].Actuator=v[x.Strokes[i].Actuator.toNat]?:=by
   rw [show x.Strokes[i].Actuator=((x.Strokes[i].Actuator.toNat:Nat):Int) by omega,Ak];rfl
  have hlt':x.Strokes[i].Actuator.toNat < v.length:=by rw [hI.1];omega
  rw [Mw];dsimp only;rw [Am,ar hi,af,Ak,hx,ab,ab,hid,ak hlt',ab,An aa];refine ⟨_,⟨(OD ..).trans hI.1,λa ha=>?_⟩,rfl⟩;rw [Hi hlt'];unfold kf;rw [N5,hx];simp only [QG];rw [List.find?_append];by_cases e:x.Strokes[i].Actuator.toNat=a
  ·rw [if_pos e];have hno:(x.Strokes.take i).find? (λy=>y.Actuator.toNat == a)=none:=by
    rw [QL];intro y hy;obtain ⟨j,hj⟩:=NH hy;have hj2:=(LU.1 hj).1;rw [NU] at hj2;rw [NM aa] at hj;have h1:=h.asc (show j < i by omega) hj hx;have h2:=h.ac y (L8 hj);simp;omega
   rw [hno];simp [e]
  ·rw [if_neg e,hI.2 a ha];have:[x.Strokes[i]].find? (λy=>y.Actuator.toNat == a)=none:=by simp [e]
   rw [this,Option.or_none];rfl) (λn v _=>by
  rw [Mw];dsimp only;rw [Am,aq aa,ae]) FF 0 l aa uF ⟨rfl,λa _=>by unfold kf;simp⟩
 try dsimp only at hh
 rw [n0] at hh;rw [hh];exact ⟨v,rfl,hv1,hv⟩
theorem gj {s:Ai} {k a:Nat} (h:Stk (aB s k)):kf (aB s k) (aB s k).Strokes.length ((an s).pos k a) a=(an s).pos (k + 1) a:=by
 unfold kf;rw [List.take_length];show _=if (a,true)∈S s k then true else if (a,false)∈S s k then false else (an s).pos k a
 cases hf:(aB s k).Strokes.find? (λy=>y.Actuator.toNat == a) with
 | none=>
  rw [QL] at hf;have hno:∀ o,(a,o) ∉ S s k:=λo ho=>by
   let ⟨y,hy,he⟩:=MJ.1 ho;have:=hf y hy;simp at this;exact this (Prod.mk.inj he).1
  rw [if_neg (hno true),if_neg (hno false)]
 | some y=>
  have hy:=List.mem_of_find?_eq_some hf;have ha:y.Actuator.toNat=a:=by have:=List.find?_some hf;simpa using this
  have hm:(a,y.Out)∈S s k:=MJ.2 ⟨y,hy,by rw [ha]⟩;have huniq:∀ o,(a,o)∈S s k->o=y.Out:=λo ho=>by
   let ⟨z,hz,he⟩:=MJ.1 ho;let ⟨he1,he2⟩:=Prod.mk.inj he;let ⟨i,hi⟩:=NH hy;let ⟨j,hj⟩:=NH hz;have h1:=h.ac y hy;have h2:=h.ac z hz;rcases OW i j with h3 | h3 | h3
   ·have:=h.asc h3 hi hj;omega
   ·subst h3;rw [hi] at hj;rw [Option.some.inj hj];exact he2.symm
   ·have:=h.asc h3 hj hi;omega
  cases ho:y.Out with
  | true=>rw [ho] at hm;rw [if_pos hm];exact ho
  | false=>
   rw [ho] at hm huniq;rw [if_neg (λe=>by have:=huniq true e;cases this),if_pos hm];exact ho
end
section
open Csc
variable {s:Ai}
theorem Yj {v:QQ} {z:Int} (h0:0<=z) (h:z < v.length):idx v z=some (v.getD z.toNat false):=by (have h1:z.toNat < v.length:=by omega);(have h2:idx v z=v[z.toNat]?:=by have:=Ak (xs:=v) (n:=z.toNat);rw [show ((z.toNat:Nat):Int)=z by omega] at this;exact this);rw [h2,ak h1,LV,ak h1];rfl
theorem GP {x:Step} {l:QQ} (h:Stk x) (hl:l.length<=1000):∃ b,Q5 FF x l=some b/\(b=true->∀ y∈x.Strokes,y.Actuator < l.length/\l.getD y.Actuator.toNat false=!y.Out):=by
 have h6:=h.le;have hh:=Lp (L:=My x l) (N:=x.Strokes.length) (Q:=λi=>match x.Strokes[i]? with | some y=>decide (y.Actuator>=(l.length:Int)) || (l.getD y.Actuator.toNat false == y.Out) | none=>false) (r:=λ_=>false) (λn i hi=>by
  have hx:=ak hi;have hac:=h.ac _ (MA hi);rw [My,Am,ar hi,af,Ak,hx,ab];dsimp only;by_cases hg:x.Strokes[i].Actuator>=(l.length:Int)
  ·rw [ar hg,af,ab,af];rfl
  ·rw [aq hg,ae,Yj hac.1 aa,ab,ab,N4,An aa]) (λn=>by
  rw [My,Am,aq aa,ae]) FF 0 aa uF
 rw [n0] at hh;unfold Q5;rcases hh with ⟨k,_,_,_,hh⟩ | ⟨hh,hq⟩
 ·rw [hh];exact ⟨false,rfl,λh=>by cases h⟩
 ·rw [hh];refine ⟨true,rfl,λ_ y hy=>?_⟩;obtain ⟨i,hi⟩:=NH hy;have:=hq i (NN _) (LU.1 hi).1;rw [hi] at this;dsimp only at this;rw [NZ,decide_eq_false_iff_not] at this;refine ⟨by omega,?_⟩;have h2:=this.2;cases e:l.getD y.Actuator.toNat false <;> cases e2:y.Out <;> rw [e,e2] at h2 <;> first | rfl | cases h2
structure mF (s:Ai) (k:Nat):Prop where
 st:Stk (aB s k)
 lt:∀ y∈(aB s k).Strokes,y.Actuator < s.Actuators
 ft:∀ a o,(a,o)∈S s k->(an s).pos k a=!o
theorem Bo {k:Nat} (hk:k < n s):s.Steps[k]?=some (aB s k):=by unfold aB;rw [LV,ak hk];rfl
theorem Qj (h1:1<=s.Actuators) (h6:s.Actuators<=6) (hn:n s<=64):∀ (m i:Nat) (l:QQ),i<=n s->n s - i < m->l.length=A s->(∀ a,a < A s->l.getD a false=(an s).pos i a) ->
  (∃ e,e≠0/\Tz FF s m (l,(i:Int))=some (.ret e))\/(∃ r,Tz FF s m (l,(i:Int))=some (.brk (r,(n s:Int)))/\r.length=A s/\(∀ a,a < A s->r.getD a false=(an s).pos (n s) a)/\∀ k,i<=k->k < n s->mF s k)
 | 0,i,l,_,h,_,_=>by omega
 | m + 1,i,l,hi1,hi2,hl,hp=>by
  have hA:((A s:Nat):Int)=s.Actuators:=by unfold A;omega
  rw [Tz];dsimp only;by_cases hi:i < n s
  ·have hx:=Bo hi;rw [show decide ((i:Int) < (s.Steps.length:Int))=true from ar (by unfold n at hi;omega),af,Ak,hx,ab];let ⟨e,he,hst⟩:=GQ (aB s i);rw [he,ab];by_cases h0:e=0
   ·subst h0;have hS:=hst rfl;have h6':=hS.le;rw [bc,ae];have hh:=Lp (L:=Tx s (aB s i)) (N:=(aB s i).Strokes.length) (Q:=λj=>match (aB s i).Strokes[j]? with | some y=>decide (y.Actuator>=s.Actuators) | none=>false) (r:=λ_=>6) (λn' j hj=>by
     have hx:=ak hj;rw [Tx,Am,ar hj,af,Ak,hx,ab,An aa]) (λn'=>by
     rw [Tx,Am,aq aa,ae]) FF 0 aa uF
    rw [n0] at hh;rcases hh with ⟨k,_,_,_,hh⟩ | ⟨hh,hq⟩
    ·rw [hh];exact .inl ⟨6,by omega,rfl⟩
    ·rw [hh,ab];dsimp only;have hlt:∀ y∈(aB s i).Strokes,y.Actuator < s.Actuators:=λy hy=>by
      let ⟨j,hj⟩:=NH hy;have:=hq j (NN _) (LU.1 hj).1;rw [hj] at this;have:=of_decide_eq_false this;omega
     let ⟨b,hb,hbt⟩:=GP (l:=l) hS aa;rw [hb,ab];cases b with
     | false=>rw [l8,af];exact .inl ⟨14,by omega,rfl⟩
     | true=>
      have hft:=hbt rfl;let ⟨r,hr,hrl,hrg⟩:=C9 (l:=l) hS aa (λy hy=>(hft y hy).1);rw [cE,ae,hr,ab,An aa];have hG:mF s i:=⟨hS,hlt,λa o ho=>by
       let ⟨y,hy,he⟩:=MJ.1 ho;let ⟨he1,he2⟩:=Prod.mk.inj he;have h3:=hft y hy;have h4:=hS.ac y hy;rw [← hp a aa,← he1,← he2];exact h3.2⟩
      rcases Qj h1 h6 hn m (i + 1) r aa aa aa (λa ha=>by
       rw [hrg a aa,hp a ha];exact gj hS) with h5 | ⟨r',g1,g2,g3,g4⟩
      ·exact .inl h5
      ·refine .inr ⟨r',g1,g2,g3,λk hk1 hk2=>?_⟩;rcases NE hk1 with e | e
       ·subst e;exact hG
       ·exact g4 k e hk2
   ·rw [show (e != 0)=true by simpa using h0,af];exact .inl ⟨e,h0,rfl⟩
  ·obtain rfl:i=n s:=by omega
   rw [show decide (((n s:Nat):Int) < (s.Steps.length:Int))=false from aq (by unfold n;omega),ae];exact .inr ⟨l,rfl,hl,hp,λk _ _=>by omega⟩
theorem J0 (h1:1<=s.Actuators) (h6:s.Actuators<=6) (hn:n s<=64):∃ e,mr FF s=some e/\(e=0->(∀ k,k < n s->mF s k)/\∀ a,a < A s->(an s).pos (n s) a=false):=by
 have hA:((A s:Nat):Int)=s.Actuators:=by unfold A;omega
 have hA6:A s<=6:=by omega
 unfold mr;rw [← hA,Ge aa,ab];rcases Qj h1 h6 hn FF 0 (List.replicate (A s) false) aa uF ah (λa ha=>by
  rw [LV,OB,if_pos ha];rfl) with ⟨e,he,h⟩ | ⟨r,h,g2,g3,g4⟩
 ·rw [n0] at h;rw [h];exact ⟨e,rfl,λh=>absurd h he⟩
 ·rw [n0] at h;rw [h,ab];dsimp only;have hh:=Lp (L:=Tw s (r,(n s:Int))) (N:=A s) (Q:=λj=>r.getD j false) (r:=λ_=>9) (λn' j hj=>by
   rw [Tw];rw [show decide ((j:Int) < s.Actuators)=true from ar aa,af];dsimp only;rw [Ak,ak aa,ab,LV,ak aa,N7,An aa]) (λn'=>by
   rw [Tw,show decide (((A s:Nat):Int) < s.Actuators)=false from aq aa,ae]) FF 0 aa uF
  rw [n0] at hh;rcases hh with ⟨k,_,_,_,hh⟩ | ⟨hh,hq⟩
  ·rw [hh];exact ⟨9,rfl,λh=>by omega⟩
  ·rw [hh];exact ⟨0,rfl,λ_=>⟨λk hk=>g4 k (NN _) hk,λa ha=>by rw [← g3 a ha];exact hq a (NN _) ha⟩⟩
theorem Rx {x:Step} {v:Int} (h:Stk x):∃ w,Q7 FF x v=some w/\(w != 0)=x.Strokes.any λy=>y.Actuator == v:=by
 have h6:=h.le;have hh:=Lp (L:=Mv x v) (N:=x.Strokes.length) (Q:=λi=>match x.Strokes[i]? with | some y=>y.Actuator == v | none=>false) (r:=λi=>match x.Strokes[i.toNat]? with | some y=>if y.Out=true then 1 else -1 | none=>1) (λn i hi=>by
  have hx:=ak hi;rw [Mv,Am,ar hi,af,Ak,hx,ab];dsimp only;rw [M3,hx];cases x.Strokes[i].Actuator == v with
  | true=>
   rw [af,af,ab];dsimp only;cases x.Strokes[i].Out <;> rfl
  | false=>rw [ae,ae,An aa]) (λn=>by
  rw [Mv,Am,aq aa,ae]) FF 0 aa uF
 rw [n0] at hh;unfold Q7;rcases hh with ⟨k,_,hk,hq,hh⟩ | ⟨hh,hq⟩
 ·have hx:=ak hk;rw [hh];refine ⟨_,rfl,?_⟩;rw [M3,hx];rw [hx] at hq;dsimp only at hq ⊢;have:(x.Strokes.any λy=>y.Actuator == v)=true:=MD.2 ⟨_,MA hk,hq⟩;rw [this];cases x.Strokes[k].Out <;> rfl
 ·rw [hh];refine ⟨0,rfl,?_⟩;have:(x.Strokes.any λy=>y.Actuator == v)=false:=by
   rw [MT];intro y hy;let ⟨i,hi⟩:=NH hy;have:=hq i (NN _) (LU.1 hi).1;rw [hi] at this;simpa using this
  rw [this];rfl
theorem JZ (hn:n s<=64) (hG:∀ k,k < n s->mF s k) (v:Int):∃ b,mq FF s v=some b/\(b=true->∃ k y,k < n s/\y∈(aB s k).Strokes/\y.Actuator=v):=by
 have hh:=Lp (L:=Tv FF s v) (N:=n s) (Q:=λi=>(aB s i).Strokes.any λy=>y.Actuator == v) (r:=λ_=>true) (λm i hi=>by
  obtain ⟨w,hw,hw2⟩:=Rx (v:=v) (hG i hi).st;rw [Tv,show decide ((i:Int) < (s.Steps.length:Int))=true from ar (by unfold n at hi;omega),af,Ak,Bo hi,ab,hw,ab,hw2,An aa]) (λm=>by
  rw [Tv,show decide (((n s:Nat):Int) < (s.Steps.length:Int))=false from aq (by unfold n;omega),ae]) FF 0 aa uF
 rw [n0] at hh;unfold mq;rcases hh with ⟨k,_,hk,hq,hh⟩ | ⟨hh,_⟩
 ·rw [hh];refine ⟨true,rfl,λ_=>?_⟩;obtain ⟨y,hy,hv⟩:=MD.1 hq;exact ⟨k,y,hk,hy,by simpa using hv⟩
 ·rw [hh];exact ⟨false,rfl,λh=>by cases h⟩
theorem B3 (s:Ai):∃ e,ju FF s=some e/\(e=0->Sqc s/\n s<=64/\∀ k,k < n s->Stk (aB s k)):=by
 unfold ju;by_cases hA:1<=s.Actuators/\s.Actuators<=6
 ·rw [aq (show ¬ s.Actuators < 1 by omega),aq (show ¬ s.Actuators > 6 by omega),PG,ae];by_cases h0:s.Steps.length=0
  ·rw [show ((s.Steps.length:Int) == 0)=true by rw [beq_iff_eq];omega,af];exact ⟨13,rfl,λh=>by omega⟩
  rw [show ((s.Steps.length:Int) == 0)=false by rw [beq_eq_false_iff_ne];omega,ae];by_cases h64:s.Steps.length > 64
  ·rw [ar (show (s.Steps.length:Int) > 64 by omega),af];exact ⟨5,rfl,λh=>by omega⟩
  rw [aq (show ¬ (s.Steps.length:Int) > 64 by omega),ae];have hn:n s<=64:=by unfold n;omega
  let ⟨e,he,hst⟩:=J0 hA.1 hA.2 hn;rw [he,ab];by_cases h0':e=0
  ·subst h0';let ⟨hG,hB⟩:=hst rfl;rw [bc,ae];have hAc:((A s:Nat):Int)=s.Actuators:=by unfold A;omega
   have hh:=jJ (L:=Ue FF s) (N:=A s) (P:=λi=>∃ k y,k < n s/\y∈(aB s k).Strokes/\y.Actuator=(i:Int)) (λm i hi=>by
    let ⟨b,hb,hb2⟩:=JZ hn hG (i:Int);rw [Ue,show decide ((i:Int) < s.Actuators)=true from ar aa,af,hb,ab];cases b with
    | false=>exact .inl ⟨13,by omega,rfl⟩
    | true=>rw [OC,ae,An aa];exact .inr ⟨hb2 rfl,rfl⟩) (λm=>by
    rw [Ue,show decide (((A s:Nat):Int) < s.Actuators)=false from aq aa,ae]) FF 0 aa uF
   rw [n0] at hh;rcases hh with ⟨e,he,hh⟩ | ⟨hh,hP⟩
   ·rw [hh];exact ⟨e,rfl,λh=>absurd h he⟩
   ·rw [hh];refine ⟨0,rfl,λ_=>⟨⟨hA.1,hA.2,by unfold n;omega,λk hk=>(hG k hk).st.ne,λk hk y hy=>⟨((hG k hk).st.ac y hy).1,(hG k hk).lt y hy⟩,λk hk=>(hG k hk).st.w.1,λk hk=>(hG k hk).ft,λa=>?_,?_⟩,hn,λk hk=>(hG k hk).st⟩⟩
    ·by_cases ha:a < A s
     ·exact hB a ha
     ·have:∀ k,k<=n s->(an s).pos k a=false:=by
       intro k
       induction k with
       | zero=>intro _;rfl
       | succ k ih=>
        intro hk;rw [Em (λo ho=>by
         let ⟨y,hy,he⟩:=MJ.1 ho;have h1:=(hG k aa).lt y hy;have h2:=((hG k aa).st.ac y hy).1;have h3:=(Prod.mk.inj he).1;omega)]
        exact ih aa
      exact this _ (MG _)
    ·intro a ha;let ⟨k,y,hk,hy,hv⟩:=hP a (NN _) ha;exact ⟨k,y.Out,hk,MJ.2 ⟨y,hy,by rw [hv];rfl⟩⟩
  ·rw [show (e != 0)=true by simpa using h0',af];exact ⟨e,rfl,λh=>absurd h h0'⟩
 ·have:(decide (s.Actuators < 1) || decide (s.Actuators > 6))=true:=by
   rw [OE,decide_eq_true_iff,decide_eq_true_iff];omega
  rw [this,af];exact ⟨2,rfl,λh=>by omega⟩
end
section
open Csc
variable {s:Ai}
theorem Zd {α:Type} {L:Nat->Int×List α->Option (Int×List α)} {N:Nat} {f:Nat->List α} {acc0:List α} (hN:N<=1000) (hf:∀ i,i < N->(f i).length<=100) (h0:acc0.length<=1000000)
  (h:∀ (n i:Nat) acc,i < N->acc.length<=2000000/\acc.length<=acc0.length + 100 * N->L (n + 1) ((i:Int),acc)=L n (((i + 1:Nat):Int),acc ++ f i)) (h':∀ n acc,L (n + 1) ((N:Int),acc)=some ((N:Int),acc)):L FF ((0:Int),acc0)=some ((N:Int),acc0 ++ (List.range N).flatMap f):=by
 have hlen:∀ i,i<=N->((List.range i).flatMap f).length<=100 * i:=by
  intro i
  induction i with
  | zero=>intro _;simp
  | succ i ih=>
   intro hi;rw [NP,N9,LW];have h1:=ih aa;have h2:=hf i aa;simp only [O5,List.flatMap_nil,M4];omega
 let ⟨v,hv,hh⟩:=Lj (L:=L) (mk:=λi (v:List α)=>((i:Int),v)) (N:=N) (I:=λi v=>v=acc0 ++ (List.range i).flatMap f) (λn i v hi hI=>by
  subst hI;refine ⟨_,?_,h n i _ hi (by rw [LW];have:=hlen i aa;omega)⟩;rw [NP,N9,MP];simp) (λn v _=>h' n v) FF 0 acc0 aa uF ah
 try dsimp only at hh
 rw [n0] at hh;rw [hh,hv]
theorem Ok {α:Type} {f:Nat->α} {N:Nat}:((List.range N).flatMap λi=>[f i])=(List.range N).map f:=(List.map_eq_flatMap ..).symm
theorem G5 {α:Type} {f:Nat->α} {p:Nat->Bool}:∀ {N:Nat},((List.range N).flatMap λi=>if p i=true then [f i] else [])=((List.range N).filter p).map f
 | 0=>rfl
 | N + 1=>by
  rw [NP,N9,O2,NY,G5];cases h:p N <;> simp [h]
def bv (p:UInt8) (k:Nat):QT:=if k < 10 then ⟨#[p,UInt8.ofNat (48 + k)]⟩ else ⟨#[p,UInt8.ofNat (48 + k / 10),UInt8.ofNat (48 + k % 10)]⟩
def aA:Sg->QT
 | .gl j=>bv 103 j
 | .tm k=>bv 119 k
 | .sg k=>bv 115 k
 | .pl a o=>⟨#[UInt8.ofNat (97 + a),if o=true then 112 else 109]⟩
theorem fZ:((List.range 64).all λk=>decide (dA FF (⟨#[103]⟩:QT) (k:Int)=some (bv 103 k)) && decide (dA FF (⟨#[119]⟩:QT) (k:Int)=some (bv 119 k)) && decide (dA FF (⟨#[115]⟩:QT) (k:Int)=some (bv 115 k)))=true:=by kernel_rfl
theorem Ph {k:Nat} (h:k < 64):dA FF (⟨#[103]⟩:QT) (k:Int)=some (bv 103 k)/\dA FF (⟨#[119]⟩:QT) (k:Int)=some (bv 119 k)/\dA FF (⟨#[115]⟩:QT) (k:Int)=some (bv 115 k):=by have h1:=L5.1 fZ k (L4.2 h);rw [L1,L1,decide_eq_true_iff,decide_eq_true_iff,decide_eq_true_iff] at h1;exact ⟨h1.1.1,h1.1.2,h1.2⟩
theorem gP:((List.range 6).all λa=>decide (((cC (⟨#[97,98,99,100,101,102]⟩:QT) (a:Int) (wr ((a:Int) + 1))).bind λx=>cz x (⟨#[112]⟩:QT))=some (aA (.pl a true))) && decide (((cC (⟨#[97,98,99,100,101,102]⟩:QT) (a:Int) (wr ((a:Int) + 1))).bind λx=>cz x (⟨#[109]⟩:QT))=some (aA (.pl a false))))=true:=by kernel_rfl
theorem CW {a:Nat} (h:a < 6) (o:Bool):∃ x,cC (⟨#[97,98,99,100,101,102]⟩:QT) (a:Int) (wr ((a:Int) + 1))=some x/\(bif o then cz x (⟨#[112]⟩:QT) else cz x (⟨#[109]⟩:QT))=some (aA (.pl a o)):=by have h1:=L5.1 gP a (L4.2 h);rw [L1,decide_eq_true_iff,decide_eq_true_iff] at h1;let ⟨x,hx,h2⟩:=N2.1 h1.1;let ⟨x',hx',h3⟩:=N2.1 h1.2;rw [hx] at hx';obtain rfl:=Option.some.inj hx';exact ⟨x,hx,by cases o <;> assumption⟩
structure Sq4 (s:Ai):Prop where
 q:Sqc s
 n:n s<=64
 st:∀ k,k < Csc.n s->Stk (aB s k)
theorem Sq4.A6 (h:Sq4 s):A s<=6:=by have:=h.q.a6;unfold A;omega
theorem Sq4.Ac (h:Sq4 s):s.Actuators=((A s:Nat):Int):=by have:=h.q.a0;unfold A;omega
theorem Sq4.G64 (h:Sq4 s):G s<=Csc.n s:=by
 have h0:=h.q.n0;have:∀ k,g s k<=k:=by
  intro k
  induction k with
  | zero=>exact MG _
  | succ k ih=>rcases Yo (s:=s) k with e | e <;> omega
 rw [KV];have:=this (Csc.n s - 1);omega
theorem Hr {k:Nat}:au s k<=k:=by unfold au;have:=OS (W s) (List.range k);rw [MS] at this;exact this
theorem eH (k:Nat):au s (k + 1)=au s k + (if W s k=true then 1 else 0):=by unfold au;rw [NP,O2,LW];cases h:W s k <;> simp [h]
theorem JN (h:Sq4 s) {i k:Nat} (hi:i < Csc.n s) (hk:k < Csc.n s):l9 FF s (i:Int) (k:Int)=some (rep s i k):=by
 have hA:=h.A6;have hh:=Lp (L:=Tg FF s (i:Int) (k:Int)) (N:=A s) (Q:=λa=>((aB s i).Strokes.any λy=>y.Actuator == (a:Int)) && ((aB s k).Strokes.any λy=>y.Actuator == (a:Int))) (r:=λ_=>true) (λm a ha=>by
  let ⟨w,hw,hw2⟩:=Rx (v:=(a:Int)) (h.st i hi);let ⟨w',hw',hw2'⟩:=Rx (v:=(a:Int)) (h.st k hk);rw [Tg,show decide ((a:Int) < s.Actuators)=true from ar (by rw [h.Ac];omega),af,Ak,Bo hi,ab,hw,ab,hw2,An aa];cases (aB s i).Strokes.any λy=>y.Actuator == (a:Int) with
  | false=>rfl
  | true=>
   rw [af,Ak,Bo hk,ab,hw',ab,hw2'];rfl) (λm=>by
  rw [Tg,show decide (((A s:Nat):Int) < s.Actuators)=false from aq (by rw [h.Ac];omega),ae]) FF 0 aa uF
 rw [n0] at hh;unfold l9;rcases hh with ⟨a,_,ha,hq,hh⟩ | ⟨hh,hq⟩
 ·rw [hh,ab];dsimp only;rw [L1,MD,MD] at hq;let ⟨⟨y,hy,hy2⟩,z,hz,hz2⟩:=hq;have e1:y.Actuator=(a:Int):=by simpa using hy2
  have e2:z.Actuator=(a:Int):=by simpa using hz2
  rw [K0 (s:=s) (i:=i) (k:=k) (a:=a) (o:=y.Out) (o':=z.Out) (MJ.2 ⟨y,hy,by rw [e1];rfl⟩) (MJ.2 ⟨z,hz,by rw [e2];rfl⟩)]
 ·rw [hh,ab];dsimp only;have:rep s i k=false:=by
   unfold rep;rw [MT];rintro ⟨a,o⟩ hx hc;rw [MD] at hc;let ⟨⟨a',o'⟩,hx',he⟩:=hc;obtain rfl:a=a':=by simpa using he
   let ⟨y,hy,hy2⟩:=MJ.1 hx;let ⟨z,hz,hz2⟩:=MJ.1 hx';have a1:=h.q.ac i hi y hy;have a2:=h.q.ac k hk z hz;have b1:=(Prod.mk.inj hy2).1;have b2:=(Prod.mk.inj hz2).1;have hac:=h.Ac;have:=hq a (NN _) aa;rw [OG,MT,MT] at this;rcases this with h3 | h3
   ·exact h3 y hy (by rw [beq_iff_eq];omega)
   ·exact h3 z hz (by rw [beq_iff_eq];omega)
  rw [this]
theorem Qq (h:Sq4 s) {k:Nat} (hk:k < Csc.n s) {l:QP} (hl:l.length<=1000) (z2:Int×QP) (hz:z2.1=(k:Int)):∀ (m i:Nat),i<=k->k - i < m->∃ z,Xi FF s z2 m ((i:Int),l)=some (z,if ((List.range k).any λj=>decide (i<=j) && rep s j k)=true then l ++ [(k:Int)] else l)
 | 0,i,_,h=>by omega
 | m + 1,i,h1,h2=>by
  have hn:=h.n;rw [Xi];dsimp only;rw [hz];by_cases hi:i < k
  ·rw [Am,ar hi,af,JN h aa hk,ab];cases hr:rep s i k with
   | true=>
    rw [af,Ar ay,ab];have:((List.range k).any λj=>decide (i<=j) && rep s j k)=true:=MD.2 ⟨i,L4.2 hi,by rw [hr];simp⟩;rw [if_pos this];exact ⟨_,rfl⟩
   | false=>
    rw [ae,An aa];let ⟨z,hz'⟩:=Qq h hk hl z2 hz m (i + 1) aa aa;have e:((List.range k).any λj=>decide (i<=j) && rep s j k)=((List.range k).any λj=>decide (i + 1<=j) && rep s j k):=by
     rw [NB,MD,MD];constructor
     ·rintro ⟨j,hj,hp⟩;rw [L1,decide_eq_true_iff] at hp;refine ⟨j,hj,?_⟩;rw [L1,decide_eq_true_iff];have:j≠i:=λe=>by subst e;rw [hr] at hp;cases hp.2
      exact ⟨by omega,hp.2⟩
     ·rintro ⟨j,hj,hp⟩;rw [L1,decide_eq_true_iff] at hp;refine ⟨j,hj,?_⟩;rw [L1,decide_eq_true_iff];exact ⟨by omega,hp.2⟩
    rw [e];exact ⟨z,hz'⟩
  ·rw [Am,aq hi,ae];have:((List.range k).any λj=>decide (i<=j) && rep s j k)=false:=by
    rw [MT];intro j hj;have:=L4.1 hj;rw [aq aa];simp
   rw [this,if_neg (by decide)];exact ⟨_,rfl⟩
def az (l:QR):QP:=l.map λx=>((x:Nat):Int)
theorem Hd {l:QR} {i:Nat}:(az l)[i]?=(l[i]?).map λx=>((x:Nat):Int):=L7 ..
theorem Hg (h:Sq4 s):dR FF s=some (az (dv s)):=by
 have hn:=h.n;have h0:=h.q.n0;unfold dR;have key:∀ (m k:Nat),1<=k->k<=Csc.n s->Csc.n s - k < m->Xj FF s m ((k:Int),az (dl s (k - 1)))=some ((Csc.n s:Int),az (dv s)):=by
  intro m
  induction m with
  | zero=>intro k _ _ h;omega
  | succ m ih=>
   intro k h1 h2 h3;rw [Xj];dsimp only;have hlen:(az (dl s (k - 1))).length=g s (k - 1) + 1:=by unfold az;rw [L9,CK]
   have hgle:g s (k - 1)<=k - 1:=by
    have:∀ k,g s k<=k:=by
     intro k
     induction k with
     | zero=>exact MG _
     | succ k ih=>rcases Yo (s:=s) k with e | e <;> omega
    exact this _
   by_cases hk:k < Csc.n s
   ·have hlast:idx (az (dl s (k - 1))) (wr (((az (dl s (k - 1))).length:Int) - 1))=some (((gb s (k - 1)).1:Nat):Int):=by
     rw [hlen,Aq aa aa,show ((g s (k - 1) + 1:Nat):Int) - 1=((g s (k - 1):Nat):Int) by omega,Ak,Hd,Vz];rfl
    have hble:=J9 (s:=s) (k - 1);let ⟨z,hz⟩:=Qq h hk (l:=az (dl s (k - 1))) aa ((k:Int),az (dl s (k - 1))) rfl FF (gb s (k - 1)).1 aa uF;rw [show decide ((k:Int) < (s.Steps.length:Int))=true from ar (by unfold Csc.n at hk;omega),af,hlast,ab,hz,ab,An aa];have:=ih (k + 1) aa aa aa;rw [← this];congr 2;obtain ⟨k,rfl⟩:∃ k',k=k' + 1:=⟨k - 1,by omega⟩;rw [NV,NV,gv];show (if brk s (gb s k).1 (k + 1)=true then _ else _)=_
    split
    ·unfold az;rw [NY];rfl
    ·rfl
   ·obtain rfl:k=Csc.n s:=by omega
    rw [show decide (((Csc.n s:Nat):Int) < (s.Steps.length:Int))=false from aq (by unfold Csc.n;omega),ae];rfl
 have:=key FF 1 (MG _) aa uF;rw [show ((1:Int),([(0:Int)]:QP))=(((1:Nat):Int),az (dl s (1 - 1))) from rfl,this];rfl
end
section
open Csc
variable {s:Ai}
theorem dL {x:Sg}:(an s).L x=2 * A s + 1 + no s x:=rfl
theorem Jz (h:Sq4 s):fY FF s=some ((2 * A s + 1:Nat):Int):=by have hA:=h.A6;unfold fY;rw [h.Ac,Aq (x:=2 * ((A s:Nat):Int)) aa aa,Aq aa aa];congr 1
theorem Ax {n:Nat}:U8 FF (n:Int)=some (lnx n):=rfl
theorem Be {op:Int}:∀ {l:QR},VG FF op (l.map lnx)=some (Cd op l)
 | []=>rfl
 | [n]=>rfl
 | a :: b :: t=>by
  unfold VG;rw [show ((((a :: b :: t).map lnx).length:Int) == 1)=false by rw [beq_eq_false_iff_ne];simp;omega,ae];rfl
theorem gH {l:QR}:(az l).length=l.length:=L9 ..
theorem Hc:(az (dv s)).length=G s:=gH
def cG (s:Ai):QR:=(List.range (G s)).map λj=>(an s).L (.gl j)
theorem Se {j:Nat} (hj:j < G s):(az (cG s))[j]?=some (((an s).L (.gl j):Nat):Int):=by rw [Hd];unfold cG;rw [L7,ME hj];rfl
theorem Pi (h:Sq4 s):ff FF s=some (az (cG s)):=by
 have hA:=h.A6;have hG:=h.G64;have hn:=h.n;unfold ff;rw [Hg h,ab,Hc];by_cases h2:G s=2
 ·rw [show ((G s:Int) == 2)=true by rw [beq_iff_eq];omega,af,Jz h,ab,ab,An aa];unfold cG az;rw [h2];show some [((2 * A s + 1 + 1:Nat):Int),((2 * A s + 1:Nat):Int)]=some [(((an s).L (.gl 0):Nat):Int),(((an s).L (.gl 1):Nat):Int)];rw [dL,dL];show _=some [((2 * A s + 1 + (if G s=2 then 1 - 0 else 0):Nat):Int),((2 * A s + 1 + (if G s=2 then 1 - 1 else 1):Nat):Int)]
  rw [h2];rfl
 ·rw [show ((G s:Int) == 2)=false by rw [beq_eq_false_iff_ne];omega,ae];have:=Zd (L:=Oi FF s (az (dv s))) (N:=G s) (f:=λj=>[(((an s).L (.gl j):Nat):Int)]) (acc0:=[]) aa (λ_ _=>by simp) ah (λm i acc hi ha=>by
   rw [Oi];dsimp only;rw [Hc,Am,ar hi,af,Jz h,ab,Ar ay,ab,An aa,Aq aa aa];congr 4;rw [dL];show _=((2 * A s + 1 + (if G s=2 then 1 - i else i):Nat):Int)
   rw [if_neg h2];omega) (λm acc=>by
   rw [Oi];dsimp only;rw [Hc,Am,aq aa,ae])
  rw [this,Ok];unfold cG az;rw [O3];rfl
theorem iz {i k:Nat} (hi:i < G s) (hk:k < n s):∃ b,(dv s)[i]?=some b/\(b<=k↔i<=g s k)/\(i=g s k->b=(gb s k).1)/\b < n s:=by (have hG:=KV (s:=s);let ⟨b,h1,h2,h3,_,_⟩:=Yt (s:=s) (j:=i) (k:=n s - 1) aa;let ⟨t,ht⟩:=HA (s:=s) (show k<=n s - 1 by omega);have key:∀ b',(dl s k)[i]?=some b'->b'=b:=λb' hb'=>by rw [ht,L2 (LU.1 hb').1,hb'] at h1;exact Option.some.inj h1);refine ⟨b,h1,⟨λhb=>?_,λhg=>?_⟩,λe=>?_,by omega⟩;have:=Lb (s:=s) hb;omega;let ⟨b',h4,h5,_⟩:=Yt (s:=s) (j:=i) (k:=k) hg;rw [← key b' h4];exact h5;subst e;exact (key _ (Vz k)).symm
theorem eC (h:Sq4 s) {k:Nat} (hk:k < n s):g s k < G s:=by have:=Lb (s:=s) (show k<=n s - 1 by omega);rw [KV];omega
theorem Yg (h:Sq4 s) {k:Nat} (hk:k < n s):VJ FF (az (dv s)) (k:Int)=some ((g s k:Nat):Int):=by
 have hG:=h.G64;have hn:=h.n;have hg:=eC h hk;unfold VJ;obtain ⟨v,hv,hh⟩:=Lj (L:=Mo (az (dv s)) (k:Int)) (mk:=λi (v:Int)=>(v,(i:Int))) (N:=G s) (I:=λi v=>v=((min (i - 1) (g s k):Nat):Int)) (λm i v hi hI=>by
  obtain ⟨b,h1,h2,_,_⟩:=iz hi hk;rw [Mo];dsimp only;rw [Hc,Am,ar hi,af,Ak,Hd,h1];rw [show (some b).map (λx=>((x:Nat):Int))=some (b:Int) from rfl,ab];by_cases hb:b<=k
  ·rw [ar (by omega:(b:Int)<=(k:Int)),af,ab,An aa];refine ⟨_,?_,rfl⟩;have:=h2.1 hb;rw [NV,Nat.min_eq_left this]
  ·rw [aq (by omega:¬ (b:Int)<=(k:Int)),ae,ab,An aa];refine ⟨_,?_,rfl⟩;have:¬ i<=g s k:=λe=>hb (h2.2 e);rw [hI,NV,Nat.min_eq_right aa,Nat.min_eq_right aa]) (λm v _=>by
  rw [Mo];dsimp only;rw [Hc,Am,aq aa,ae]) FF 0 0 aa uF ah
 try dsimp only at hh
 rw [n0] at hh;rw [hh,ab,hv,Nat.min_eq_right aa]
theorem Yw {k:Nat}:W s k=true↔(aB s k).Wait≠0:=by unfold W;simp
def eS (s:Ai):QP:=(List.range (n s)).map λk=>if W s k=true then (((an s).L (.tm k):Nat):Int) else -1
def pl (s:Ai):Plan:=⟨s,eS s⟩
theorem Uq {k:Nat} (hk:k < n s):(eS s)[k]?=some (if W s k=true then (((an s).L (.tm k):Nat):Int) else -1):=by unfold eS;rw [L7,ME hk];rfl
theorem DS:(eS s).length=n s:=by unfold eS;rw [L9,MS]
theorem GN (h:Sq4 s):U7 FF s ((2 * A s + 1 + G s:Nat):Int)=some (pl s):=by
 have hG:=h.G64;have hn:=h.n;have hA:=h.A6;unfold U7;obtain ⟨v,hv,hh⟩:=Lj (L:=Dp s) (mk:=λi (v:Int×QP)=>(v.1,(i:Int),v.2)) (N:=n s) (I:=λi v=>v=(((2 * A s + 1 + G s + au s i:Nat):Int),(List.range i).map λk=>if W s k=true then (((an s).L (.tm k):Nat):Int) else -1)) (λm i v hi hI=>by
  subst hI;have hc:=Hr (s:=s) (k:=i);have hcs:=eH (s:=s) i;rw [Dp];dsimp only;rw [show decide ((i:Int) < (s.Steps.length:Int))=true from ar (by unfold n at hi;omega),af,Ak,Bo hi,ab];by_cases hw:W s i=true
  ·have:=Yw.1 hw;rw [show ((aB s i).Wait == 0)=false by rw [beq_eq_false_iff_ne];exact this,ae,Ar ay,ab,An aa,An aa];refine ⟨(((2 * A s + 1 + G s + au s i + 1:Nat):Int),(List.range i).map (λk=>if W s k=true then (((an s).L (.tm k):Nat):Int) else -1) ++ [((2 * A s + 1 + G s + au s i:Nat):Int)]),?_,rfl⟩
   rw [NP,NY,hcs];simp only [MF,M6,if_pos hw];have e:(an s).L (.tm i)=2 * A s + 1 + G s + au s i:=by show 2 * A s + 1 + (G s + au s i)=_;omega
   rw [e];rfl
  ·have:(aB s i).Wait=0:=by
    rcases Int.lt_trichotomy (aB s i).Wait 0 with e | e | e
    ·exact absurd (Yw.2 aa) hw
    ·exact e
    ·exact absurd (Yw.2 aa) hw
   rw [show ((aB s i).Wait == 0)=true by rw [beq_iff_eq];exact this,af,Ar ay,ab,An aa];refine ⟨(((2 * A s + 1 + G s + au s i:Nat):Int),(List.range i).map (λk=>if W s k=true then (((an s).L (.tm k):Nat):Int) else -1) ++ [-1]),?_,rfl⟩
   rw [NP,NY,hcs];simp only [MF,M6,if_neg hw];rfl) (λm v hI=>by
  rw [Dp];dsimp only;rw [show decide (((n s:Nat):Int) < (s.Steps.length:Int))=false from aq (by unfold n;omega),ae]) FF 0 (((2 * A s + 1 + G s:Nat):Int),[]) aa uF rfl
 try dsimp only at hh
 rw [n0] at hh;rw [hh,ab];subst hv;rfl
theorem BO (h:Sq4 s):kS FF s=some (pl s):=by have hG:=h.G64;have hn:=h.n;have hA:=h.A6;unfold kS;rw [Jz h,ab,Hg h,ab,Hc,Aq aa aa];have:=GN h;rw [show ((2 * A s + 1:Nat):Int) + (G s:Int)=((2 * A s + 1 + G s:Nat):Int) by omega,this];rfl
theorem jm {α β:Type} {l:List α} {d:α} {f:α->β}:((List.range l.length).map λi=>f (l.getD i d))=l.map f:=by refine P3 ah λi h1 h2=>?_;rw [P2,P2,List.getElem_range,LV,ak (by simpa using h2)];rfl
theorem Kt (h:Sq4 s) {k:Nat} (hk:k < n s):VA FF (aB s k)=some (((S s k).map CasD.sw).map lnx):=by
 have h6:=(h.st k hk).le;unfold VA;have:=Zd (L:=Mq FF (aB s k)) (N:=(aB s k).Strokes.length) (f:=λi=>[lnx (CasD.sw (((aB s k).Strokes.getD i default).Actuator.toNat,((aB s k).Strokes.getD i default).Out))]) (acc0:=[]) aa (λ_ _=>by simp) ah (λm i acc hi ha=>by
  have hx:=ak hi;have hac:=(h.st k hk).ac _ (MA hi);have hd:(aB s k).Strokes.getD i default=(aB s k).Strokes[i]:=by rw [LV,hx];rfl
  rw [Mq];dsimp only;rw [Am,ar hi,af,Ak,hx,ab,ab,An aa,hd];rw [Aq (x:=2 * (aB s k).Strokes[i].Actuator) aa aa];cases ho:(aB s k).Strokes[i].Out with
  | true=>
   rw [af,Aq aa aa,ab,show 2 * (aB s k).Strokes[i].Actuator + 1=((CasD.sw ((aB s k).Strokes[i].Actuator.toNat,true):Nat):Int) by unfold CasD.sw;show _=((2 * (aB s k).Strokes[i].Actuator.toNat + 1:Nat):Int);omega,Ax,ab,Ar ay,ab]
  | false=>
   rw [ae,ab,show 2 * (aB s k).Strokes[i].Actuator=((CasD.sw ((aB s k).Strokes[i].Actuator.toNat,false):Nat):Int) by unfold CasD.sw;show _=((2 * (aB s k).Strokes[i].Actuator.toNat + 0:Nat):Int);omega,Ax,ab,Ar ay,ab]) (λm acc=>by
  rw [Mq];dsimp only;rw [Am,aq aa,ae])
 rw [this,Ok,ab];unfold S;rw [O3,O3,OJ];exact congrArg some (jm (l:=(aB s k).Strokes) (d:=default) (f:=λy=>lnx (CasD.sw (y.Actuator.toNat,y.Out))))
theorem Ku (h:Sq4 s) {k:Nat} (hk:k < n s):VC FF (pl s) (k:Int)=some (((an s).en k).map lnx):=by unfold VC;show (idx (eS s) (k:Int)).bind _=_;rw [Ak,Uq hk,ab];unfold CasD.en;by_cases hw:W s k=true;rw [if_pos hw,if_pos (show (an s).W k=true from hw),ar aa,af];show (idx (eS s) (k:Int)).bind _=_;rw [Ak,Uq hk,if_pos hw,ab,Ax];rfl;rw [if_neg hw,if_neg (show ¬ (an s).W k=true from hw),aq aa,ae];show (idx s.Steps (k:Int)).bind _=_;rw [Ak,Bo hk,ab,Kt h hk];rfl
theorem Ru (h:Sq4 s) {j:Nat} (hj:j < G s):VE FF s (az (dv s)) (j:Int)=some ((bS s j:Nat):Int):=by have hG:=h.G64;have hn:=h.n;have h0:=h.q.n0;have hGe:=KV (s:=s);unfold VE bS;rw [An aa,Hc,Am];by_cases h1:j + 1 < G s;(rw [ar h1,af,if_pos h1,Ak,Hd];let ⟨b,h2,h3,h4,_,_⟩:=Yt (s:=s) (j:=j + 1) (k:=n s - 1) aa;have h5:(dv s)[j + 1]?=some b:=h2;have hb:0 < b:=by (rcases PJ b with e | e);subst e;have:g s 0=0:=rfl;omega;exact e);rw [h5,LV,h5];show some (wr ((b:Int) - 1))=some ((b - 1:Nat):Int);rw [Aq aa aa];congr 1;omega;rw [aq h1,ae,if_neg h1];show some (wr (((n s:Nat):Int) - 1))=_;rw [Aq aa aa];congr 1;omega
theorem Uv {a b:Nat} (h:0 < b):rem (a:Int) (b:Int)=some ((a % b:Nat):Int):=by unfold rem;rw [if_neg aa,Int.tmod_eq_emod_of_nonneg aa];congr 1
theorem Hq (h:Sq4 s) {j:Nat} (hj:j < G s):bS s j < n s:=(ez h.q.n0 hj).1
theorem JY (h:Sq4 s):mp FF (pl s)=some (cI aA s):=by
 have hG:=h.G64;have hn:=h.n;have h0:=h.q.n0;have h2:=h.q.g2;unfold mp;show (dR FF s).bind _=_;rw [Hg h,ab];show (ff FF s).bind _=_;rw [Pi h,ab,Hc];unfold cI;by_cases e:G s=2
 ·rw [show ((G s:Int) == 2)=true by rw [beq_iff_eq];omega,af,if_pos e];have a0:=Ru h (j:=0) aa;have a1:=Ru h (j:=1) aa;have b0:=Ku h (Hq h (j:=0) aa);have b1:=Ku h (Hq h (j:=1) aa);have l1:=Se (s:=s) (j:=1) aa;rw [← Ak] at l1;show (VE FF s (az (dv s)) ((0:Nat):Int)).bind _=_;rw [a0,ab,b0,ab];show (VE FF s (az (dv s)) ((1:Nat):Int)).bind _=_;rw [a1,ab,b1,ab,Be,ab,Be,ab];show (idx (az (cG s)) ((1:Nat):Int)).bind _=_;rw [l1,ab,Ax];rfl
 ·rw [show ((G s:Int) == 2)=false by rw [beq_eq_false_iff_ne];omega,ae,if_neg e];have:=Zd (L:=Tu FF (pl s) (az (dv s)) (az (cG s))) (N:=G s) (f:=λj=>[(⟨aA (.gl j),1,Cd 3 ((an s).L (.gl ((an s).pv j)) :: (an s).en (bS s ((an s).pv j))),lnx ((an s).L (.gl ((an s).nx j))),0,decide (j=0)⟩:Ae)]) (acc0:=[]) aa (λ_ _=>by simp) ah (λm i acc hi ha=>by
   have hp:(an s).pv i < G s:=CasD.pvl (q:=an s) h2 hi;have hx:(an s).nx i < G s:=CasD.nxl (q:=an s) h2;have ep:(i + G s - 1) % G s=(an s).pv i:=by
    show _=if i=0 then G s - 1 else i - 1
    by_cases e0:i=0
    ·subst e0;rw [if_pos rfl,NW,OY aa]
    ·rw [if_neg e0,show i + G s - 1=(i - 1) + G s by omega,Nat.add_mod_right,OY aa]
   have ex:(i + 1) % G s=(an s).nx i:=by
    show _=if i + 1 < G s then i + 1 else 0
    by_cases e0:i + 1 < G s
    ·rw [if_pos e0,OY e0]
    ·rw [if_neg e0,show i + 1=G s by omega,Nat.mod_self]
   rw [Tu];dsimp only;rw [Hc,Am,ar hi,af,Aq (x:=(i:Int) + (G s:Int)) aa aa,Aq aa aa,show (i:Int) + (G s:Int) - 1=((i + G s - 1:Nat):Int) by omega,Uv aa,ep,ab,Ak,Se hp,ab,Ax,ab];show (VE FF s (az (dv s)) (((an s).pv i:Nat):Int)).bind _=_;rw [Ru h hp,ab,Ku h (Hq h hp),ab,Ar (by
    have:((an s).en (bS s ((an s).pv i))).length<=6:=by
     unfold CasD.en;split
     ·simp
     ·rw [L9];show ((aB s (bS s ((an s).pv i))).Strokes.map _).length<=6;rw [L9];exact (h.st _ (Hq h hp)).le
    simp;omega),ab,(Ph (k:=i) aa).1,ab,show [lnx ((an s).L (.gl ((an s).pv i)))] ++ ((an s).en (bS s ((an s).pv i))).map lnx=(((an s).L (.gl ((an s).pv i))) :: (an s).en (bS s ((an s).pv i))).map lnx from rfl,Be,ab,An aa,Uv aa,ex,ab,Ak,Se hx,ab,Ax,ab,Ar ay,ab,show ((i:Int) == 0)=decide (i=0) by rw [NB];simp]
   rfl) (λm acc=>by
   rw [Tu];dsimp only;rw [Hc,Am,aq aa,ae])
  rw [this,Ok];rfl
end
section
open Csc
variable {s:Ai}
def kk (s:Ai):QR:=(List.range (n s)).map λk=>(an s).L (.gl (g s k))
def cW (s:Ai):QR:=(List.range (n s)).map λk=>(an s).L (.sg k)
theorem gJ {k:Nat} (hk:k < n s):(az (kk s))[k]?=some (((an s).L (.gl (g s k)):Nat):Int):=by rw [Hd];unfold kk;rw [L7,ME hk];rfl
theorem fm {k:Nat} (hk:k < n s):(az (cW s))[k]?=some (((an s).L (.sg k):Nat):Int):=by rw [Hd];unfold cW;rw [L7,ME hk];rfl
theorem fI:(pl s).S=s:=rfl
theorem fH:(pl s).Timers=eS s:=rfl
theorem gY {k:Nat} (hk:k < n s):decide ((k:Int) < ((eS s).length:Int))=true:=ar (by rw [DS];omega)
theorem gX:decide (((n s:Nat):Int) < ((eS s).length:Int))=false:=aq (by rw [DS];omega)
theorem AT {k:Nat} (hk:k < n s):decide ((k:Int) < (s.Steps.length:Int))=true:=ar (by unfold n at hk;omega)
theorem AS:decide (((n s:Nat):Int) < (s.Steps.length:Int))=false:=aq (by unfold n;omega)
theorem JW (h:Sq4 s):kR FF s=some (az (kk s)):=by
 have hn:=h.n;unfold kR;have:=Zd (L:=Tt FF s) (N:=n s) (f:=λk=>[(((an s).L (.gl (g s k)):Nat):Int)]) (acc0:=[]) aa (λ_ _=>by simp) ah (λm i acc hi ha=>by
  rw [Tt];dsimp only;rw [AT hi,af,Pi h,ab,Hg h,ab,Yg h hi,ab,Ak,Se (eC h hi),ab,Ar ay,ab,An aa]) (λm acc=>by
  rw [Tt];dsimp only;rw [AS,ae])
 rw [this,Ok];unfold kk az;rw [O3];rfl
theorem Um (h:Sq4 s) {k:Nat} (hk:k < n s):((S s k).map CasD.sw).length<=6:=by rw [L9];show ((aB s k).Strokes.map _).length<=6;rw [L9];exact (h.st k hk).le
theorem LD (h:Sq4 s) {k:Nat} (hk:k < n s):((an s).en k).length<=6:=by unfold CasD.en;split;simp;exact Um h hk
theorem JX (h:Sq4 s):ib FF (pl s) (az (kk s))=some (((List.range (n s)).filter (W s)).map (sT aA s)):=by
 have hn:=h.n;unfold ib;have:=Zd (L:=Kb FF (pl s) (az (kk s))) (N:=n s) (f:=λk=>if W s k=true then [sT aA s k] else []) (acc0:=[]) aa (λi _=>by split <;> simp) ah (λm i acc hi ha=>by
  have hS:=Um h hi;rw [Kb];dsimp only;rw [show decide ((i:Int) < ((pl s).Timers.length:Int))=true from gY hi,af];simp only [fI,fH];rw [Ak,Uq hi,ab];by_cases hw:W s i=true
  ·rw [if_pos hw,if_pos hw,ar aa,af,Ak,gJ hi,ab,Ax,ab];rw [Ak,Bo hi,ab,Kt h hi,ab,Ar (by simp at hS ⊢;omega),ab,(Ph (k:=i) aa).2.1,ab,show [lnx ((an s).L (.gl (g s i)))] ++ ((S s i).map CasD.sw).map lnx=((an s).L (.gl (g s i)) :: (S s i).map CasD.sw).map lnx from rfl,Be,ab,ab,Ar ay,ab,ab,An aa];rfl
  ·rw [if_neg hw,if_neg hw,aq aa,ae,ab,An aa,M4]) (λm acc=>by
  rw [Kb];dsimp only;rw [show decide (((n s:Nat):Int) < ((pl s).Timers.length:Int))=false from gX,ae])
 rw [this,G5];rfl
theorem CB {k:Nat} (hk:0 < k):(gb s k).1=k↔g s (k - 1)≠g s k:=by obtain ⟨k,rfl⟩:∃ k',k=k' + 1:=⟨k - 1,by omega⟩;have hb:=J9 (s:=s) k;rw [NV,dD,iv];by_cases h:brk s (gb s k).1 (k + 1)=true;rw [if_pos h,if_pos h];exact ⟨λ_=>by omega,λ_=>rfl⟩;rw [if_neg h,if_neg h];exact ⟨λe=>by omega,λe=>absurd rfl e⟩
theorem EU (h:Sq4 s) {k:Nat} (hk:k < n s):mo FF (pl s) (k:Int)=some (Cd 3 ((an s).L (.gl (g s k)) :: (an s).bg k)):=by have hn:=h.n;have hA:=h.A6;have hg:=eC h hk;unfold mo;show (dR FF s).bind _=_;rw [Hg h,ab];show (ff FF s).bind _=_;rw [Pi h,ab,Yg h hk,ab,Ak,Se hg,ab,Ax,ab];unfold CasD.bg;by_cases h0:k=0;subst h0;rw [show (((0:Nat):Int) == 0)=true from rfl,af,if_pos rfl];show (U8 FF (wr (2 * s.Actuators))).bind _=_;rw [h.Ac,Aq aa aa,show 2 * ((A s:Nat):Int)=((2 * A s:Nat):Int) by omega,Ax,ab];show (VG FF 3 ([(an s).L (.gl (g s 0)),2 * A s].map lnx)).bind _=_;rw [Be];rfl;rw [show ((k:Int) == 0)=false by rw [beq_eq_false_iff_ne];omega,ae,if_neg h0];let ⟨b,h1,_,h3,_⟩:=iz (s:=s) hg hk;have h4:=h3 rfl;rw [ab,Ak,Hd,h1,h4];show (bif ((((gb s k).1:Nat):Int) == (k:Int)) then _ else _)=_;by_cases hf:g s (k - 1)=g s k;have hne:(gb s k).1≠k:=λe=>(CB aa).1 e hf;rw [show ((((gb s k).1:Nat):Int) == (k:Int))=false by rw [Cm,beq_eq_false_iff_ne];exact hne,ae,if_pos (show (an s).g (k - 1)=(an s).g k from hf),Aq aa aa,show (k:Int) - 1=((k - 1:Nat):Int) by omega,Ku h aa,ab,Ar (by have:=LD h (show k - 1 < n s by omega);simp;omega),ab];show (VG FF 3 (((an s).L (.gl (g s k)) :: (an s).en (k - 1)).map lnx)).bind _=_;rw [Be];rfl;have he:(gb s k).1=k:=(CB aa).2 hf;rw [show ((((gb s k).1:Nat):Int) == (k:Int))=true by rw [Cm,beq_iff_eq];exact he,af,if_neg (show ¬ (an s).g (k - 1)=(an s).g k from hf)];rfl
theorem Zx (h:Sq4 s) {acc:List Ae} (ha:acc.length<=1000):Rv FF s (pl s) FF ((0:Int),acc)=some ((n s:Int),acc ++ (List.range (n s)).map (sS aA s)):=by
 have hn:=h.n;have:=Zd (L:=Rv FF s (pl s)) (N:=n s) (f:=λk=>[sS aA s k]) (acc0:=acc) aa (λ_ _=>by simp) aa (λm i acc hi ha=>by
  rw [Rv];dsimp only;rw [AT hi,af,(Ph (k:=i) aa).2.2,ab,EU h hi,ab,Ar ay,ab,An aa];rfl) (λm acc=>by
  rw [Rv];dsimp only;rw [AS,ae])
 rw [this,Ok]
theorem GM (h:Sq4 s):VL FF (pl s)=some ((au s (n s):Nat):Int):=by
 have hn:=h.n;unfold VL;obtain ⟨v,hv,hh⟩:=Lj (L:=Mn (pl s)) (mk:=λi (v:Int)=>(v,(i:Int))) (N:=n s) (I:=λi v=>v=((au s i:Nat):Int)) (λm i v hi hI=>by
  subst hI;have hc:=Hr (s:=s) (k:=i);rw [Mn];dsimp only;refine ⟨_,rfl,?_⟩;rw [show decide ((i:Int) < ((pl s).Timers.length:Int))=true from gY hi,af];simp only [fI,fH];rw [Ak,Uq hi,ab,eH];by_cases hw:W s i=true
  ·rw [if_pos hw,if_pos hw,ar aa,af,An aa,ab,An aa]
  ·rw [if_neg hw,if_neg hw,aq aa,ae,ab,An aa];rfl) (λm v _=>by
  rw [Mn];dsimp only;rw [show decide (((n s:Nat):Int) < ((pl s).Timers.length:Int))=false from gX,ae]) FF 0 0 aa uF rfl
 try dsimp only at hh
 rw [n0] at hh;rw [hh,hv];rfl
theorem ES (h:Sq4 s):kQ FF s=some (az (cW s)):=by
 have hn:=h.n;have hG:=h.G64;have hA:=h.A6;have hc:=Hr (s:=s) (k:=n s);unfold kQ;rw [BO h,ab];have:=Zd (L:=Tr FF s (pl s)) (N:=n s) (f:=λk=>[(((an s).L (.sg k):Nat):Int)]) (acc0:=[]) aa (λ_ _=>by simp) ah (λm i acc hi ha=>by
  rw [Tr];dsimp only;rw [AT hi,af,Jz h,ab,Hg h,ab,GM h,ab,Hc,Aq (x:=((2 * A s + 1:Nat):Int) + (G s:Int)) aa aa,Aq (x:=((2 * A s + 1:Nat):Int) + (G s:Int) + (au s (n s):Int)) aa aa,Aq aa aa,Ar ay,ab,An aa];congr 4;rw [dL];show _=((2 * A s + 1 + (G s + au s (n s) + i):Nat):Int);omega) (λm acc=>by
  rw [Tr];dsimp only;rw [AS,ae])
 rw [this,Ok];unfold cW az;rw [O3];rfl
theorem AM {α:Type} {e:α} {p:Nat->Bool}:∀ {N:Nat},(∀ i j,i < N->j < N->p i=true->p j=true->i=j)->((List.range N).flatMap λi=>if p i=true then [e] else [])=if ((List.range N).any p)=true then [e] else []
 | 0,_=>rfl
 | N + 1,h=>by
  rw [NP,N9,AM λi j hi hj=>h i j aa aa,List.any_append];cases hN:p N with
  | true=>
   have:(List.range N).any p=false:=by
    rw [MT];intro i hi hp;have:=h i N (by have:=L4.1 hi;omega) aa hp hN;have:=L4.1 hi;omega
   rw [this];simp [hN]
  | false=>simp [hN]
theorem Zq (h:Sq4 s) {a k:Nat} {o:Bool} (hk:k < n s) (z1:Int×List Ae) (hz1:z1.1=(a:Int)) (z7:Int×List Expr) (hz7:z7.1=(k:Int)) {acc:List Expr} (ha:acc.length<=10000) :
  Gf FF (pl s) (az (cW s)) z1 o z7 FF ((0:Int),acc)=some (((aB s k).Strokes.length:Int),acc ++ if decide ((a,o)∈S s k)=true then [lnx ((an s).L (.sg k))] else []):=by
 have hS:=h.st k hk;have h6:=hS.le;have:=Zd (L:=Gf FF (pl s) (az (cW s)) z1 o z7) (N:=(aB s k).Strokes.length) (f:=λi=>if (((aB s k).Strokes.getD i default).Actuator == (a:Int) && (((aB s k).Strokes.getD i default).Out == o))=true then [lnx ((an s).L (.sg k))] else []) (acc0:=acc) aa (λi _=>by split <;> simp) aa (λm i acc hi ha=>by
  have hx:=ak hi;have hd:(aB s k).Strokes.getD i default=(aB s k).Strokes[i]:=by rw [LV,hx];rfl
  rw [Gf];dsimp only;simp only [fI,fH];rw [hz7,hz1,Ak,Bo hk,ab,Am,ar hi,af,ab,Ak,hx,ab,hd];unfold KG;dsimp only;rw [ON];cases ((aB s k).Strokes[i].Actuator == (a:Int)) && ((aB s k).Strokes[i].Out == o) with
  | true=>rw [af,if_pos rfl,Ak,fm hk,ab,Ax,ab,Ar ay,ab,ab,An aa]
  | false=>rw [ae,if_neg (by decide),ab,An aa,M4]) (λm acc=>by
  rw [Gf];dsimp only;simp only [fI,fH];rw [hz7,Ak,Bo hk,ab,Am,aq aa,ae])
 rw [this];congr 3;have hget:∀ i,i < (aB s k).Strokes.length->(aB s k).Strokes[i]?=some ((aB s k).Strokes.getD i default):=λi hi=>by
  rw [LV,ak hi];rfl
 rw [AM (λi j hi hj h1 h2=>by
  rw [L1,beq_iff_eq] at h1 h2;rcases OW i j with e | e | e
  ·have:=hS.asc e (hget i hi) (hget j hj);omega
  ·exact e
  ·have:=hS.asc e (hget j hj) (hget i hi);omega)]
 congr 1;rw [eq_iff_iff,MD,decide_eq_true_iff];constructor
 ·rintro ⟨i,hi,hp⟩;have hi:=L4.1 hi;rw [L1,beq_iff_eq,beq_iff_eq] at hp;exact MJ.2 ⟨_,L8 (hget i hi),by rw [hp.1,hp.2];rfl⟩
 ·intro hm;let ⟨y,hy,he⟩:=MJ.1 hm;let ⟨he1,he2⟩:=Prod.mk.inj he;let ⟨i,hi⟩:=NH hy;have hil:=(LU.1 hi).1;have hac:=hS.ac y hy;refine ⟨i,L4.2 hil,?_⟩;have:=(hget i hil).symm.trans hi;rw [Option.some.inj this,L1,beq_iff_eq,beq_iff_eq];exact ⟨by omega,he2⟩
theorem Zs (h:Sq4 s) {a:Nat} {o:Bool} (z1:Int×List Ae) (hz1:z1.1=(a:Int)):Gg FF (pl s) (az (cW s)) z1 o FF ((0:Int),[])=some ((n s:Int),(((an s).at_ a o).map λk=>(an s).L (.sg k)).map lnx):=by
 have hn:=h.n;have:=Zd (L:=Gg FF (pl s) (az (cW s)) z1 o) (N:=n s) (f:=λk=>if decide ((a,o)∈S s k)=true then [lnx ((an s).L (.sg k))] else []) (acc0:=[]) aa (λi _=>by split <;> simp) ah (λm i acc hi ha=>by
  rw [Gg];dsimp only;rw [show decide ((i:Int) < ((pl s).S.Steps.length:Int))=true from AT hi,af];have hl:acc.length<=6400:=by have:=ha.2;simp at this;omega
  rw [Zq h hi z1 hz1 _ rfl aa,ab,An aa]) (λm acc=>by
  rw [Gg];dsimp only;rw [show decide (((n s:Nat):Int) < ((pl s).S.Steps.length:Int))=false from AS,ae])
 rw [this,G5];unfold CasD.at_;rw [O3];rfl
theorem Zt (h:Sq4 s) {a:Nat} (ha:a < A s) (z1:Int×List Ae) (hz1:z1.1=(a:Int)) {acc:List Ae} (hl:acc.length<=10000):Bq FF (pl s) (az (cW s)) z1 FF ((0:Int),acc)=some (2,acc ++ [sP aA s true a,sP aA s false a]):=by (have hA:=h.A6;have key:∀ (m:Nat) (i:Nat) (o:Bool) (acc:List Ae),i < 2->([true,false]:QQ)[i]?=some o->acc.length<=20000->Bq FF (pl s) (az (cW s)) z1 (m + 1) ((i:Int),acc)=Bq FF (pl s) (az (cW s)) z1 m (((i + 1:Nat):Int),acc ++ [sP aA s o a]):=λm i o acc hi ho hl=>by (let ⟨x,hx,hx2⟩:=CW (show a < 6 by omega) o;rw [Bq];dsimp only;rw [show decide ((i:Int) < (([true,false]:QQ).length:Int))=true from ar (by show (i:Int) < 2;omega),af,Ak,ho,ab,Zs h z1 hz1,ab,hz1,hx,ab];have e:(bif o then (cz x (⟨#[112]⟩:QT)).bind λx22=>some x22 else (cz x (⟨#[109]⟩:QT)).bind λx23=>some x23)=some (aA (.pl a o)):=by cases o;rw [ae] at hx2 ⊢;rw [hx2];rfl;rw [af] at hx2 ⊢;rw [hx2];rfl);rw [e,ab,Be,ab,Ar ay,ab,An aa];rfl);have k1:=key 99999 0 true acc aa rfl aa;have k2:=key 99998 1 false (acc ++ [sP aA s true a]) aa rfl ay;show Bq FF (pl s) (az (cW s)) z1 (99999 + 1) (((0:Nat):Int),acc)=_;rw [k1];show Bq FF (pl s) (az (cW s)) z1 (99998 + 1) (((1:Nat):Int),acc ++ [sP aA s true a])=_;rw [k2];show Bq FF (pl s) (az (cW s)) z1 (99997 + 1) ((2:Int),acc ++ [sP aA s true a] ++ [sP aA s false a])=_;rw [Bq];dsimp only;rw [show decide ((2:Int) < (([true,false]:QQ).length:Int))=false from rfl,ae,MP];rfl
theorem JU (h:Sq4 s):ia FF (pl s) (az (cW s))=some ((List.range (A s)).flatMap λa=>[sP aA s true a,sP aA s false a]):=by
 have hA:=h.A6;unfold ia;have:=Zd (L:=Ka FF (pl s) (az (cW s))) (N:=A s) (f:=λa=>[sP aA s true a,sP aA s false a]) (acc0:=[]) aa (λ_ _=>by simp) ah (λm i acc hi ha=>by
  have hl:acc.length<=600:=by have:=ha.2;simp at this;omega
  rw [Ka];dsimp only;rw [show decide ((i:Int) < (pl s).S.Actuators)=true from ar (by show (i:Int) < s.Actuators;rw [h.Ac];omega),af,Zt h hi _ rfl aa,ab,An aa]) (λm acc=>by
  rw [Ka];dsimp only;rw [show decide (((A s:Nat):Int) < (pl s).S.Actuators)=false from aq (by show ¬ ((A s:Nat):Int) < s.Actuators;rw [h.Ac];omega),ae])
 rw [this];rfl
abbrev aW (s:Ai):Aa:=blt aA ⟨#[115,116,97,114,116]⟩ s
theorem JT (h:Sq4 s):Sz FF s.Actuators [⟨#[115,116,97,114,116]⟩] (aY aA s)=some (aW s,[⟨#[115,116,97,114,116]⟩],aY aA s):=by
 have hA:=h.A6;have hG:=h.G64;have hn:=h.n;have hc:=Hr (s:=s) (k:=n s);have hl:=Fx (N:=aA) (s:=s);unfold Sz;have h92:VM FF (⟨s.Actuators,[⟨#[115,116,97,114,116]⟩],aY aA s,[],[]⟩:Aa)=some ((2 * A s + 1 + (G s + au s (n s) + n s + 2 * A s):Nat):Int):=by
  unfold VM;dsimp only;rw [hl,h.Ac];show some (wr (wr (wr (2 * ((A s:Nat):Int)) + 1) + _))=_;rw [Aq (x:=2 * ((A s:Nat):Int)) aa aa,Aq (x:=2 * ((A s:Nat):Int) + 1) aa aa,Aq aa aa];congr 1
 rw [h92,ab];obtain ⟨v,hv,hh⟩:=Lj (L:=Ci s.Actuators ((2 * A s + 1 + (G s + au s (n s) + n s + 2 * A s):Nat):Int)) (mk:=λi (v:QP×QP)=>((i:Int),v.1,v.2)) (N:=A s) (I:=λi v=>v=((List.range i).map (λa=>(((an s).L (.pl a true):Nat):Int)),(List.range i).map (λa=>(((an s).L (.pl a false):Nat):Int)))) (λm i v hi hI=>by
  subst hI;rw [Ci];dsimp only;rw [show decide ((i:Int) < s.Actuators)=true from ar (by rw [h.Ac];omega),af,h.Ac,Aq (x:=2 * ((A s:Nat):Int)) aa aa,Aq (x:=2 * (i:Int)) aa aa,Aq (x:=((2 * A s + 1 + (G s + au s (n s) + n s + 2 * A s):Nat):Int) - 2 * ((A s:Nat):Int)) aa aa,Aq (x:=((2 * A s + 1 + (G s + au s (n s) + n s + 2 * A s):Nat):Int) - 2 * ((A s:Nat):Int) + 2 * (i:Int)) aa aa,Aq aa aa,Ar ay,ab,Ar ay,ab,An aa];refine ⟨((List.range i).map (λa=>(((an s).L (.pl a true):Nat):Int)) ++ [((2 * A s + 1 + (G s + au s (n s) + n s + 2 * A s):Nat):Int) - 2 * ((A s:Nat):Int) + 2 * (i:Int)],(List.range i).map (λa=>(((an s).L (.pl a false):Nat):Int)) ++ [((2 * A s + 1 + (G s + au s (n s) + n s + 2 * A s):Nat):Int) - 2 * ((A s:Nat):Int) + 2 * (i:Int) + 1]),?_,rfl⟩;rw [NP,NY,NY];have e1:(((an s).L (.pl i true):Nat):Int)=((2 * A s + 1 + (G s + au s (n s) + n s + 2 * A s):Nat):Int) - 2 * ((A s:Nat):Int) + 2 * (i:Int):=by
   rw [dL];show ((2 * A s + 1 + (G s + au s (n s) + n s + 2 * i + (if true=true then 0 else 1)):Nat):Int)=_
   rw [if_pos rfl];omega
  have e2:(((an s).L (.pl i false):Nat):Int)=((2 * A s + 1 + (G s + au s (n s) + n s + 2 * A s):Nat):Int) - 2 * ((A s:Nat):Int) + 2 * (i:Int) + 1:=by
   rw [dL];show ((2 * A s + 1 + (G s + au s (n s) + n s + 2 * i + (if false=true then 0 else 1)):Nat):Int)=_
   rw [if_neg (by decide)];omega
  simp only [MF,M6];rw [e1,e2]) (λm v _=>by
  rw [Ci];dsimp only;rw [show decide (((A s:Nat):Int) < s.Actuators)=false from aq (by rw [h.Ac];omega),ae]) FF 0 ([],[]) aa uF rfl
 try dsimp only at hh
 rw [n0] at hh;rw [hh,hv];rfl
theorem J4 (h:Sq4 s):mu FF s=some (aW s):=by
 have hA:=h.A6;have hG:=h.G64;have hn:=h.n;have hc:=Hr (s:=s) (k:=n s);have hT:(((List.range (n s)).filter (W s)).map (sT aA s)).length=au s (n s):=by rw [L9];rfl
 have hS:((List.range (n s)).map (sS aA s)).length=n s:=by rw [L9,MS]
 have hP:((List.range (A s)).flatMap λa=>[sP aA s true a,sP aA s false a]).length=2 * A s:=Eb;have hGl:=Ej (N:=aA) (s:=s);unfold mu;rw [BO h,ab,JY h,ab,JW h,ab,JX h,ab,Ar aa,ab,Zx h (by rw [LW];omega),ab,ES h,ab,JU h,ab];dsimp only;rw [Ar (by rw [LW,LW];omega),ab,MP,MP];show (Sz FF s.Actuators [⟨#[115,116,97,114,116]⟩] (aY aA s)).bind _=_;rw [JT h];rfl
end
theorem Vv {E:Nat->Int}:∀ {k i:Nat},(∀ j,i<=j->j < i + k->E j=0)->Yq E k i=0
 | 0,_,_=>rfl
 | k + 1,i,h=>by
  unfold Yq;rw [if_pos (h i aa aa)];exact Vv λj h1 h2=>h j aa aa
theorem CM {c:Aa} (hw:Fw c):∃ e,SM FF c=some e/\jt FF c=some e/\(e=0->Rt c)/\(Bd_ c->(∀ i,i < c.Inputs.length->bp c (2 * cA c + i)=0)->(∀ i,i < c.Signals.length->bJ c i=0)->eg c=0->e=0):=by
 unfold SM SK jt;by_cases hA:c.Actuators < 1\/c.Actuators > 6
 ·have:(decide (c.Actuators < 1) || decide (c.Actuators > 6))=true:=by simpa using hA
  rw [this];exact ⟨2,rfl,rfl,by simp,λh=>by have:=h.a1;have:=h.a6;omega⟩
 have:(decide (c.Actuators < 1) || decide (c.Actuators > 6))=false:=by simp;omega
 rw [this,ae,ae];by_cases hI:c.Inputs.length > 16\/c.Signals.length > 64
 ·have:(decide ((c.Inputs.length:Int) > 16) || decide ((c.Signals.length:Int) > 64))=true:=by simp;omega
  rw [this];exact ⟨5,rfl,rfl,by simp,λh=>by have:=h.i;have:=h.s;omega⟩
 have:(decide ((c.Inputs.length:Int) > 16) || decide ((c.Signals.length:Int) > 64))=false:=by simp;omega
 rw [this,ae,ae];have h:Bd_ c:=⟨by omega,by omega,by omega,by omega⟩;have ha:=h.a';have h2:=h.i;have h3:=h.s;have hS:cS c=2 * cA c + c.Inputs.length:=rfl;have hL:cL c=cS c + c.Signals.length:=rfl;have hF:600<=FF:=by unfold FF;omega
 let ⟨z,m1,e1,k1⟩:=Gn h FF 0 [] aa uF (Yy.zero c);rw [n0] at e1;rw [e1,ab];dsimp only;have A1:=KB (L:=Eu FF c) (mk:=λi m=>((i:Int),m)) (N:=c.Inputs.length) (E:=λi=>bp c (2 * cA c + i)) (r:=λe=>Sum.inl e) (I:=λi m=>Yy c (2 * cA c + i) m) (λn i m hi hm=>by
  have hnm:aO c (2 * cA c + i)=c.Inputs[i]:=by
   unfold aO;rw [if_neg aa,if_pos aa,show 2 * cA c + i - 2 * cA c=i by omega];simp [ak hi]
  let ⟨m',hm',hk'⟩:=Qx h (hw.nm (2 * cA c + i)) hF hm c.Actuators c.Inputs c.Signals c.Plus c.Minus;rw [hnm] at hm';rw [Eu];dsimp only;rw [Am,ar hi,af,Ak,ak hi,ab,hm',ab];dsimp only;refine ⟨λh0=>⟨m',hk' h0,?_⟩,λh0=>?_⟩
  ·rw [h0,bc,ae,An aa]
  ·rw [show (bp c (2 * cA c + i) != 0)=true by simpa using h0,af]) (λn m _=>by
  rw [Eu];dsimp only;rw [Am,aq aa,ae]) c.Inputs.length FF 0 m1 aa uF k1
 have B1:=KB (L:=Km FF c) (mk:=λi (_:Unit)=>(i:Int)) (N:=c.Inputs.length) (E:=λi=>bp c (2 * cA c + i)) (r:=λe=>e) (I:=λ_ _=>True) (λn i _ hi _=>by
  rw [Km,Am,ar hi,af,h.wa,Aq aa aa,show ((2 * cA c:Nat):Int) + (i:Int)=((2 * cA c + i:Nat):Int) by omega,Vf h aa (hw.nm _) hF,ab];refine ⟨λh0=>⟨(),trivial,?_⟩,λh0=>?_⟩
  ·rw [h0,bc,ae,An aa]
  ·rw [show (bp c (2 * cA c + i) != 0)=true by simpa using h0,af]) (λn _ _=>by
  rw [Km,Am,aq aa,ae]) c.Inputs.length FF 0 () aa uF trivial
 try dsimp only at A1 B1
 rw [n0] at A1 B1;have hzA:(∀ i,i < c.Inputs.length->bp c (2 * cA c + i)=0)->Yq (λi=>bp c (2 * cA c + i)) c.Inputs.length 0=0:=λh=>Vv λj _ hj=>h j aa;generalize Yq (λi=>bp c (2 * cA c + i)) c.Inputs.length 0=E1 at A1 B1 hzA;rcases A1 with ⟨z1,m2,k2,A1⟩ | ⟨z1,A1⟩
 case inr=>
  rcases B1 with ⟨z2,_⟩ | ⟨_,B1⟩
  ·exact absurd z2 z1
  rw [A1,B1];exact ⟨E1,rfl,rfl,λh=>absurd h z1,λ_ h _ _=>absurd (hzA h) z1⟩
 rcases B1 with ⟨_,_,_,B1⟩ | ⟨z2,_⟩
 case inr=>exact absurd z1 z2
 rw [A1,B1,ab,ab];dsimp only;have hget:∀ i,i < c.Signals.length->∃ x,c.Signals[i]?=some x/\bJ c i=cp c i x:=λi hi=>⟨c.Signals[i],ak hi,by unfold bJ;rw [ak hi]⟩;have A2:=KB (L:=Et FF c) (mk:=λi m=>((i:Int),m)) (N:=c.Signals.length) (E:=bJ c) (r:=λe=>Sum.inl e) (I:=λi m=>Yy c (cS c + i) m) (λn i m hi hm=>by
  let ⟨x,hx,hsg⟩:=hget i hi;let ⟨m',hm',hk'⟩:=Xp h hw hx hm;rw [Et,hsg];dsimp only;rw [Am,ar hi,af,hm',ab];dsimp only;refine ⟨λh0=>⟨m',hk' h0,?_⟩,λh0=>?_⟩
  ·rw [h0,bc,ae,An aa]
  ·rw [show (cp c i x != 0)=true by simpa using h0,af]) (λn m _=>by
  rw [Et];dsimp only;rw [Am,aq aa,ae]) c.Signals.length FF 0 m2 aa uF k2
 have B2:=KB (L:=Kl FF c) (mk:=λi (_:Unit)=>(i:Int)) (N:=c.Signals.length) (E:=bJ c) (r:=λe=>e) (I:=λ_ _=>True) (λn i _ hi _=>by
  let ⟨x,hx,hsg⟩:=hget i hi;rw [Kl,Am,ar hi,af,BJ h hw hx,ab,hsg];refine ⟨λh0=>⟨(),trivial,?_⟩,λh0=>?_⟩
  ·rw [h0,bc,ae,An aa]
  ·rw [show (cp c i x != 0)=true by simpa using h0,af]) (λn _ _=>by
  rw [Kl,Am,aq aa,ae]) c.Signals.length FF 0 () aa uF trivial
 try dsimp only at A2 B2
 rw [n0] at A2 B2;have hz:Yq (bJ c) c.Signals.length 0=0->∀ j,j < c.Signals.length->bJ c j=0:=λh j hj=>Sj h j aa aa;have hzB:(∀ i,i < c.Signals.length->bJ c i=0)->Yq (bJ c) c.Signals.length 0=0:=λh=>Vv λj _ hj=>h j aa;generalize Yq (bJ c) c.Signals.length 0=E2 at A2 B2 hz hzB;rcases A2 with ⟨z1,m3,k3,A2⟩ | ⟨z1,A2⟩
 case inr=>
  rcases B2 with ⟨z2,_⟩ | ⟨_,B2⟩
  ·exact absurd z2 z1
  rw [A2,B2];exact ⟨E2,rfl,rfl,λh=>absurd h z1,λ_ _ h _=>absurd (hzB h) z1⟩
 rcases B2 with ⟨_,_,_,B2⟩ | ⟨z2,_⟩
 case inr=>exact absurd z1 z2
 rw [A2,B2,ab,ab];dsimp only;rw [BH h];refine ⟨eg c,?_,rfl,λh0=>?_,λ_ _ _ h=>h⟩
 ·unfold eg;by_cases h1:(c.Plus.length:Int)≠c.Actuators\/(c.Minus.length:Int)≠c.Actuators
  ·rw [if_pos h1,show (((c.Plus.length:Int) != c.Actuators) || ((c.Minus.length:Int) != c.Actuators))=true by simpa using h1,af];rfl
  ·rw [if_neg h1,show (((c.Plus.length:Int) != c.Actuators) || ((c.Minus.length:Int) != c.Actuators))=false by simp;omega,ae];have h6:=h.a6;rw [Rh aa aa,ab,BM h ay,ab];cases (c.Plus ++ c.Minus).any (aV (cL c)) <;> rfl
 ·unfold eg at h0;split at h0
  ·contradiction
  ·split at h0
   ·contradiction
   ·rename_i h1 h2;have h6:=h.a;have hsz:∀ x∈c.Signals,(0<=x.Kind/\x.Kind < 3/\okE 16 (cL c) x.On/\(x.Kind=1->okE 16 (cL c) x.Off))/\(x.Kind=2->x.Init=false):=λx hx=>by
     let ⟨i,hi⟩:=NH hx;have h5:=hz z1 i (LU.1 hi).1;have:cp c i x=0:=by
      unfold bJ at h5;rw [hi] at h5;exact h5
     exact A5 hw hi this
    refine ⟨h,λx hx=>(hsz x hx).1,by omega,by omega,λl hl=>?_,λx hx=>(hsz x hx).2⟩
    ·have h5:(c.Plus ++ c.Minus).any (aV (cL c))=false:=by simpa using h2
     have:=MT.1 h5 l hl;unfold aV at this;simp at this;omega
structure Fla (x:Expr):Prop where
 l:x.Args.length<=100
 a:∀ y∈x.Args,y.Args=[]
theorem Fla.lnx (n:Nat):Fla (lnx n):=⟨by unfold Pn.lnx;simp,λy h=>by cases h⟩
theorem Fla.sev {op:Int}:∀ {l:QR},l.length<=100->Fla (Cd op l)
 | [],_=>⟨by unfold Cd;simp,λy h=>by cases h⟩
 | [n],_=>Fla.lnx n
 | a :: b :: t,h=>⟨by show ((a :: b :: t).map Pn.lnx).length<=100;rw [L9];exact h,λy hy=>by
   have hy:y∈(a :: b :: t).map Pn.lnx:=hy;obtain ⟨n,_,rfl⟩:=MJ.1 hy;rfl⟩
theorem Fla.not {n:Nat}:Fla ⟨2,0,[Pn.lnx n]⟩:=⟨by simp,λy hy=>by
 obtain rfl:=MZ.1 hy;rfl⟩
theorem Fla.zxp:Fla zxp:=⟨by simp,λy h=>by cases h⟩
theorem F6 {f:Nat} {y:Expr} {v:Int} (h:y.Args=[]):VP (f + 2) y v=some 1:=by show (Do (VP (f + 1)) y v (f + 1) (1,0)).bind _=_;rw [Do];dsimp only;rw [h];rfl
theorem F0 {f:Nat} {y:Expr} {v:Int} (h:y.Args=[]) (hv:2<=v):VQ (f + 2) y v=some true:=by show (bif decide (v < 1) then some false else bif v == 1 then _ else (Cv (VQ (f + 1)) y v (f + 1) 0).bind _)=_;rw [aq aa,ae,show (v == 1)=false by rw [beq_eq_false_iff_ne];omega,ae,Cv,h];rfl
theorem GL {x:Expr} (h:Fla x):VR FF x=some true:=by
 have hl:=h.l;have h30:VP FF x 256=some ((1 + x.Args.length:Nat):Int):=by
  have key:∀ (m i:Nat),i<=x.Args.length->x.Args.length - i < m->Do (VP 99999) x 256 m (((1 + i:Nat):Int),(i:Int))=some (((1 + x.Args.length:Nat):Int),(x.Args.length:Int)):=by
   intro m
   induction m with
   | zero=>intro i _ h;omega
   | succ m ih=>
    intro i h1 h2;rw [Do];dsimp only;by_cases hi:i < x.Args.length
    ·rw [Am,ar hi,ar (by omega:((1 + i:Nat):Int)<=256),ON,af,Ak,ak hi,ab];have:=F6 (f:=99997) (v:=wr (256 - ((1 + i:Nat):Int))) (h.a _ (MA hi));rw [this,ab,An aa,An aa];exact ih (i + 1) aa aa
    ·obtain rfl:i=x.Args.length:=by omega
     rw [Am,aq aa,OU,ae]
  show (Do (VP 99999) x 256 99999 (((1 + 0:Nat):Int),((0:Nat):Int))).bind _=_;rw [key 99999 0 aa aa];rfl
 have h31:VQ FF x 16=some true:=by
  have key:∀ (m i:Nat),i<=x.Args.length->x.Args.length - i < m->Cv (VQ 99999) x 16 m (i:Int)=some (.brk (x.Args.length:Int)):=by
   intro m
   induction m with
   | zero=>intro i _ h;omega
   | succ m ih=>
    intro i h1 h2;rw [Cv];by_cases hi:i < x.Args.length
    ·rw [Am,ar hi,af,Ak,ak hi,ab,show wr ((16:Int) - 1)=15 from rfl,F0 (f:=99997) (h.a _ (MA hi)) aa,ab,OC,ae,An aa];exact ih (i + 1) aa aa
    ·obtain rfl:i=x.Args.length:=by omega
     rw [Am,aq aa,ae]
  show (Cv (VQ 99999) x 16 99999 ((0:Nat):Int)).bind _=_;rw [key 99999 0 aa aa];rfl
 unfold VR;rw [h30,ab,ar (by omega:((1 + x.Args.length:Nat):Int)<=256),af,h31];rfl
theorem Wf {x:Expr} (h:Fla x):iG x/\VR FF x=some true:=by have h1:=GL h;let ⟨b,hb,hb2⟩:=Gw (f:=FF) uF x;rw [h1] at hb;exact ⟨hb2 (Option.some.inj hb).symm,h1⟩
theorem fL {N n:Nat} (h:n < N):bX (N:Int) (lnx n)=0:=by unfold bX lnx;simp;rw [aq aa,aq aa];rfl
theorem Ss {d N n:Nat} (h:n < N):ba (d + 1) (N:Int) (lnx n)=0:=by unfold ba;rw [if_pos (fL h)];rfl
theorem AL:∀ {l:QP},(∀ a∈l,a=0)->cK l=0
 | [],_=>rfl
 | a :: l,h=>by
  unfold cK;rw [if_pos (h a ah)];exact AL λb hb=>h b (by simp [hb])
theorem Db {d N:Nat} {op:Int} (ho:op=3\/op=4):∀ {l:QR},l≠[]->(∀ n∈l,n < N)->ba (d + 2) (N:Int) (Cd op l)=0
 | [],h,_=>absurd rfl h
 | [n],_,h=>Ss (h n ah)
 | a :: b :: t,_,h=>by
  have hn:bX (N:Int) (Cd op (a :: b :: t))=0:=by
   show bX (N:Int) ⟨op,0,(a :: b :: t).map lnx⟩=0;unfold bX;rcases ho with rfl | rfl <;> simp <;> (rw [aq aa]; rfl)
  show (if bX (N:Int) (Cd op (a :: b :: t))=0 then cK (((a :: b :: t).map lnx).map (ba (d + 1) (N:Int))) else _)=0
  rw [if_pos hn];refine AL λe he=>?_;obtain ⟨y,hy,rfl⟩:=MJ.1 he;obtain ⟨n,hn,rfl⟩:=MJ.1 hy;exact Ss (h n hn)
theorem HD {d N n:Nat} (h:n < N):ba (d + 2) (N:Int) ⟨2,0,[lnx n]⟩=0:=by (have hn:bX (N:Int) ⟨2,0,[lnx n]⟩=0:=by unfold bX;simp);show (if bX (N:Int) ⟨2,0,[lnx n]⟩=0 then cK (([lnx n]).map (ba (d + 1) (N:Int))) else _)=0;rw [if_pos hn];refine AL λe he=>?_;obtain ⟨y,hy,rfl⟩:=MJ.1 he;obtain rfl:=MZ.1 hy;exact Ss h
theorem Zn {d n:Nat} {k:Int} (h:bW (d + 1) k (lnx n)=true):k=(n:Int):=by unfold bW lnx at h;simp at h;omega
theorem Zm {d:Nat} {op k:Int} (ho:op=3\/op=4):∀ {l:QR},bW (d + 2) k (Cd op l)=true->∃ n∈l,k=(n:Int)
 | [],h=>by
  unfold Cd bW at h;rcases ho with rfl | rfl <;> simp at h
 | [n],h=>⟨n,by simp,Zn h⟩
 | a :: b :: t,h=>by
  have h:bW (d + 2) k ⟨op,0,(a :: b :: t).map lnx⟩=true:=h;unfold bW at h;rw [if_neg (by show ¬ op=1;omega),MD] at h;let ⟨y,hy,h⟩:=h;obtain ⟨n,hn,rfl⟩:=MJ.1 hy;exact ⟨n,hn,Zn h⟩
theorem EG {d n:Nat} {k:Int} (h:bW (d + 2) k ⟨2,0,[lnx n]⟩=true):k=(n:Int):=by unfold bW at h;rw [if_neg (by show ¬ (2:Int)=1;omega),MD] at h;let ⟨y,hy,h⟩:=h;obtain rfl:=MZ.1 hy;exact Zn h
section
open Csc
variable {s:Ai}
structure jU (s:Ai):Prop extends Sq4 s where
 sig:(aY aA s).length<=64
def nma:List QT:=(List.range 12).map fx ++ ([⟨#[115,116,97,114,116]⟩] ++ ((List.range 64).map (bv 103) ++ ((List.range 64).map (bv 119) ++ ((List.range 64).map (bv 115) ++ (List.range 6).flatMap λa=>[aA (.pl a true),aA (.pl a false)]))))
theorem fO:nma.length=217:=by kernel_rfl
theorem fN:nma.all (λx=>wd x && decide (x.size<=24))=true:=by kernel_rfl
theorem JE:((List.range 217).all λi=>(List.range i).all λj=>!((nma.getD j ⟨#[]⟩).data.toList == (nma.getD i ⟨#[]⟩).data.toList))=true:=by kernel_rfl
def lE (A n:Nat) (x:Sg):Prop:=match x with
 | .gl j=>j < n
 | .tm k=>k < n
 | .sg k=>k < n
 | .pl a _=>a < A
def bu (s:Ai) (x:Sg):Nat:=match x with
 | .gl j=>13 + j
 | .tm k=>77 + k
 | .sg k=>141 + k
 | .pl a o=>205 + 2 * a + (if o=true then 0 else 1)
theorem je {i:Nat} (h:i < 12):nma[i]?=some (fx i):=by unfold nma;rw [L2 (by simpa using h),L7,ME h];rfl
theorem jd {x:Sg} {A n:Nat} (hA:A<=6) (hn:n<=64) (hx:lE A n x):nma[bu s x]?=some (aA x):=by
 unfold nma;cases x with
 | gl j=>
  have hj:j < n:=hx;rw [LX (by simp [bu];omega),LX (by simp [bu];omega),L2 (by simp [bu];omega),L7,ME (by simp [bu];omega)];simp only [bu,L9,MS,NJ,N6,Option.map_some];congr 2;omega
 | tm k=>
  have hk:k < n:=hx;rw [LX (by simp [bu];omega),LX (by simp [bu];omega),LX (by simp [bu];omega),L2 (by simp [bu];omega),L7,ME (by simp [bu];omega)];simp only [bu,L9,MS,NJ,N6,Option.map_some];congr 2;omega
 | sg k=>
  have hk:k < n:=hx;rw [LX (by simp [bu];omega),LX (by simp [bu];omega),LX (by simp [bu];omega),LX (by simp [bu];omega),L2 (by simp [bu];omega),L7,ME (by simp [bu];omega)];simp only [bu,L9,MS,NJ,N6,Option.map_some];congr 2;omega
 | pl a o=>
  have ha:a < A:=hx;let ⟨h1,h2⟩:=Ha (f:=λa=>aA (.pl a true)) (h:=λa=>aA (.pl a false)) (n:=6) (a:=a) aa;rw [LX (by simp [bu];omega),LX (by simp [bu];omega),LX (by simp [bu];omega),LX (by simp [bu];omega),LX (by simp [bu];omega)];simp only [bu,L9,MS,NJ,N6];cases o with
  | true=>rw [if_pos rfl,show 205 + 2 * a + 0 - 12 - (0 + 1) - 64 - 64 - 64=2 * a by omega];exact h1
  | false=>rw [if_neg (by decide),show 205 + 2 * a + 1 - 12 - (0 + 1) - 64 - 64 - 64=2 * a + 1 by omega];exact h2
theorem fR {x y:Sg} {A n:Nat} (hA:A<=6) (hn:n<=64) (hx:lE A n x) (hy:lE A n y) (h:bu s x=bu s y):x=y:=by
 cases x <;> cases y <;> simp only [bu] at h <;> simp only [lE] at hx hy
 case gl.gl=>congr 1;omega
 case tm.tm=>congr 1;omega
 case sg.sg=>congr 1;omega
 case pl.pl a o b p=>
  cases o <;> cases p <;> simp at h
  ·congr 1;omega
  ·omega
  ·omega
  ·congr 1;omega
 all_goals first | omega | (split at h <;> omega)
theorem er (h:Sq4 s) {x:Sg} (hx:(an s).ok x):lE (A s) (n s) x:=by
 have hG:=h.G64;cases x with
 | gl j=>have hj:j < G s:=hx;show j < n s;omega
 | tm k=>exact hx.1
 | sg k=>exact hx
 | pl a o=>exact hx
theorem K5 (h:jU s) {i:Nat} (hi:i < cL (aW s)):∃ p,nma[p]?=some (aO (aW s) i)/\((i < 2 * A s/\p=i)\/(i=2 * A s/\p=12)\/∃ x,(an s).ok x/\i=2 * A s + 1 + no s x/\p=bu s x):=by
 have h4:=h.toSq4;have hA:=h4.A6;have hcS:cS (aW s)=2 * A s + 1:=rfl;have hcL:cL (aW s)=cS (aW s) + (aY aA s).length:=rfl;have hcas:=h.q.cas (N:=aA) (i:=⟨#[115,116,97,114,116]⟩);unfold aO;show ∃ p,nma[p]?=some (if i < 2 * A s then fx i else if i < cS (aW s) then _ else _)/\_
 by_cases h1:i < 2 * A s
 ·rw [if_pos h1];exact ⟨i,je aa,.inl ⟨h1,rfl⟩⟩
 ·rw [if_neg h1];by_cases h2:i < cS (aW s)
  ·obtain rfl:i=2 * A s:=by omega
   rw [if_pos h2];refine ⟨12,?_,.inr (.inl ⟨rfl,rfl⟩)⟩;show nma[12]?=some (([⟨#[115,116,97,114,116]⟩]:List QT).getD (2 * A s - 2 * A s) _);rw [PB];unfold nma;rw [LX ah];rfl
  ·rw [if_neg h2];let ⟨x,hx,he,_⟩:=hcas.sur (i - cS (aW s)) (by show _ < (aY aA s).length;omega);have he:no s x=i - cS (aW s):=he;refine ⟨bu s x,?_,.inr (.inr ⟨x,hx,by omega,rfl⟩)⟩;rw [jd hA h4.n (er h4 hx)];show _=some ((((aY aA s)[i - cS (aW s)]?).map (·.Name)).getD _);rw [← he];have hnm:((aY aA s)[no s x]?).map (·.Name)=some (aA x):=by
    cases x with
    | gl j=>
     have hj:j < G s:=hx;have h2:=h.q.g2;by_cases e:G s=2
     ·rcases (show j=0\/j=1 by omega) with rfl | rfl
      ·show ((aY aA s)[if G s=2 then 1 - 0 else 0]?).map _=_
       rw [if_pos e,Pw aa];unfold cI;rw [if_pos e];rfl
      ·show ((aY aA s)[if G s=2 then 1 - 1 else 1]?).map _=_
       rw [if_pos e,Pw aa];unfold cI;rw [if_pos e];rfl
     ·show ((aY aA s)[if G s=2 then 1 - j else j]?).map _=_
      rw [if_neg e,Pw hj];unfold cI;rw [if_neg e,L7,ME hj];rfl
    | tm k=>show ((aY aA s)[G s + au s k]?).map _=_;rw [H1 hx.1 hx.2];rfl
    | sg k=>show ((aY aA s)[G s + au s (n s) + k]?).map _=_;rw [dZ hx];rfl
    | pl a o=>show ((aY aA s)[G s + au s (n s) + n s + 2 * a + (if o=true then 0 else 1)]?).map _=_;rw [d7 hx];rfl
   rw [hnm];rfl
theorem BG (h:jU s) {i:Nat} (hi:i < cL (aW s)):bp (aW s) i=0:=by (have h4:=h.toSq4;have hA:=h4.A6;have hn:=h4.n;let ⟨p,hp,hpk⟩:=K5 h hi;have hpl:=(LU.1 hp).1;have ok:=L5.1 fN _ (L8 hp);rw [L1,decide_eq_true_iff] at ok;unfold bp;rw [if_pos ok.1,if_neg aa];have:((List.range i).any λj=>(aO (aW s) j).data.toList == (aO (aW s) i).data.toList)=false:=by (rw [MT];intro j hj he;have hj:=L4.1 hj;let ⟨r,hr,hrk⟩:=K5 h (show j < cL (aW s) by omega);have hrl:=(LU.1 hr).1;rw [fO] at hpl hrl;have hne:p≠r:=by (intro e;subst e;have b1:∀ x,(an s).ok x->13<=bu s x:=λx _=>by cases x <;> simp only [bu] <;> omega);(rcases hpk with ⟨a1,a2⟩ | ⟨a1,a2⟩ | ⟨x,a0,a1,a2⟩ <;> rcases hrk with ⟨c1,c2⟩ | ⟨c1,c2⟩ | ⟨y,c0,c1,c2⟩);omega;omega;have:=b1 y c0;omega;omega;omega;have:=b1 y c0;omega;have:=b1 x a0;omega;have:=b1 x a0;omega;have:=fR (s:=s) hA hn (er h4 a0) (er h4 c0) (a2.symm.trans c2);subst this;omega);(have key:∀ a b,a < 217->b < a->((nma.getD b ⟨#[]⟩).data.toList == (nma.getD a ⟨#[]⟩).data.toList)=false:=λa b ha hb=>by have h1:=L5.1 JE a (L4.2 ha);have h2:=L5.1 h1 b (L4.2 hb);simpa using h2);(have gp:nma.getD p ⟨#[]⟩=aO (aW s) i:=by rw [LV,hp];rfl);(have gr:nma.getD r ⟨#[]⟩=aO (aW s) j:=by rw [LV,hr];rfl);(rcases M7 r p with h5 | h5);have:=key p r hpl h5;rw [gp,gr,he] at this;cases this;have:=key r p hrl aa;rw [gp,gr,beq_iff_eq.1 he] at this;simp at this);rw [this,if_neg (by decide)]
theorem lK {x:Sg} (hx:no s x < (aY aA s).length):(an s).L x < cL (aW s):=by show 2 * A s + 1 + no s x < 2 * A s + 1 + (aY aA s).length;omega
theorem hX (h:Sq4 s) {x:Sg} (hx:(an s).ok x):no s x < (aY aA s).length:=by
 have h2:=h.q.g2;rw [Fx];cases x with
 | gl j=>
  have hj:j < G s:=hx;show (if G s=2 then 1 - j else j) < _
  split <;> omega
 | tm k=>
  have hk:k < n s:=hx.1;have h1:=(LU.1 (Bi hk hx.2)).1;show G s + au s k < G s + au s (n s) + n s + 2 * A s;have:au s k < au s (n s):=h1;omega
 | sg k=>
  have hk:k < n s:=hx;show G s + au s (n s) + k < _;omega
 | pl a o=>
  have ha:a < A s:=hx;show G s + au s (n s) + n s + 2 * a + (if o=true then 0 else 1) < _
  split <;> omega
theorem HZ (h:Sq4 s) {k:Nat} (hk:k < n s):∀ m∈(S s k).map CasD.sw,m < 2 * A s:=by
 intro m hm;obtain ⟨x,hx,rfl⟩:=MJ.1 hm;have:=(h.q.cas (N:=aA) (i:=⟨#[]⟩)).Sa k hk x hx;have hb:x.2.toNat<=1:=by cases x.2 <;> decide
 have:x.1 < A s:=this;unfold CasD.sw;omega
def DA (s:Ai) (m:Nat):Prop:=m < 2 * A s + 1 + (G s + au s (n s))
theorem CH (h:Sq4 s) {k:Nat} (hk:k < n s):∀ m∈(an s).en k,DA s m:=by intro m hm;unfold CasD.en at hm;split at hm;rename_i hw;obtain rfl:=MZ.1 hm;have h1:=(LU.1 (Bi (p:=W s) hk hw)).1;have:au s k < au s (n s):=h1;show 2 * A s + 1 + (G s + au s k) < _;omega;have:=HZ h hk m hm;unfold DA;omega
theorem Ym (h:Sq4 s) {j:Nat} (hj:j < G s):(an s).L (.gl j) < 2 * A s + 1 + G s:=by have:=h.q.g2;show 2 * A s + 1 + (if G s=2 then 1 - j else j) < _;split <;> omega
theorem jR (h:Sq4 s) {k:Nat} (hk:k < n s):∀ m∈(an s).bg k,DA s m:=by intro m hm;unfold CasD.bg at hm;split at hm;obtain rfl:=MZ.1 hm;show 2 * A s < _;omega;split at hm;exact CH h aa m hm;cases hm
theorem Kv {m:Nat} (h:DA s m):m < cL (aW s):=by have hl:=Fx (N:=aA) (s:=s);unfold DA at h;show m < 2 * A s + 1 + (aY aA s).length;omega
theorem iy (h:Sq4 s) {k:Nat} (hk:k < n s):(an s).en k≠[]:=by unfold CasD.en;split;simp;intro e;have:=O6.1 e;exact h.q.sq.ne k hk this
theorem iF (h:Sqc s) {a:Nat} (ha:a < A s) (o:Bool):(an s).at_ a o≠[]:=by
 have hsq:=h.sq;let ⟨k,o',hk,hm⟩:=h.mv a ha;have key:∀ o,(∃ k,k < n s/\(a,o)∈S s k)->(an s).at_ a o≠[]:=λo ⟨k,hk,hm⟩ e=>by
  have:k∈(an s).at_ a o:=by
   unfold CasD.at_;rw [NX,L4];exact ⟨hk,ar hm⟩
  rw [e] at this;cases this
 refine key o ?_;by_cases e:o=o'
 ·subst e;exact ⟨k,hk,hm⟩
 ·-- otherwise the actuator would not come back
  rcases Classical.em (∃ k,k < n s/\(a,o)∈S s k) with hx | hx
  ·exact hx
  ·exfalso;have hno:∀ i,i < n s->(a,o) ∉ S s i:=λi hi hm=>hx ⟨i,hi,hm⟩;cases o' with
   | true=>
    obtain rfl:o=false:=by cases o <;> simp_all
    have:∀ d,k + 1 + d<=n s->(an s).pos (k + 1 + d) a=true:=by
     intro d
     induction d with
     | zero=>intro _;exact hsq.pos_in hk hm
     | succ d ih=>
      intro hd;have h1:=ih aa;show (if (a,true)∈S s (k + 1 + d) then true else if (a,false)∈S s (k + 1 + d) then false else (an s).pos (k + 1 + d) a)=true
      rw [if_neg (hno (k + 1 + d) aa),h1]; split <;> rfl
    have:=this (n s - (k + 1)) aa;rw [show k + 1 + (n s - (k + 1))=n s by omega,h.back a] at this;cases this
   | false=>
    obtain rfl:o=true:=by cases o <;> simp_all
    have:∀ d,d<=n s->(an s).pos d a=false:=by
     intro d
     induction d with
     | zero=>intro _;rfl
     | succ d ih=>
      intro hd;have h1:=ih aa;show (if (a,true)∈S s d then true else if (a,false)∈S s d then false else (an s).pos d a)=false
      rw [if_neg (hno d aa),h1]; split <;> rfl
    have h2:=h.fits k hk a false hm;rw [this k aa] at h2;cases h2
theorem GU {c:Aa} {i:Nat} {x:Ae} (h:∀ k,bW 16 ((cS c + k:Nat):Int) x.On=true->k < i):late c i x=false:=by unfold late;rw [MT];intro k _ hk;rw [L1,L1,decide_eq_true_iff] at hk;have:=h k hk.2.2;omega
theorem Jp {c:Aa} {i:Nat} {N:QT} {on:Expr} (hx:c.Signals[i]?=some ⟨N,0,on,zxp,0,false⟩) (hn:bp c (cS c + i)=0) (ho:ba 16 (cL c) on=0) (hl:∀ k,bW 16 ((cS c + k:Nat):Int) on=true->k < i):bJ c i=0:=by unfold bJ;rw [hx];show cp c i ⟨N,0,on,zxp,0,false⟩=0;unfold cp;rw [if_neg (by rw [hn];simp),if_neg (by show ¬ ((0:Int) < 0\/3<=(0:Int));omega),if_neg (by show ¬ ba 16 (cL c) on≠0;rw [ho];simp),if_neg (by show ¬ (0:Int)=1;omega),if_pos rfl,GU hl];rfl
theorem Ut {c:Aa} {i:Nat} {N:QT} {on off:Expr} {b:Bool} (hx:c.Signals[i]?=some ⟨N,1,on,off,0,b⟩) (hn:bp c (cS c + i)=0) (ho:ba 16 (cL c) on=0) (hf:ba 16 (cL c) off=0):bJ c i=0:=by unfold bJ;rw [hx];show cp c i ⟨N,1,on,off,0,b⟩=0;unfold cp;rw [if_neg (by rw [hn];simp),if_neg (by show ¬ ((1:Int) < 0\/3<=(1:Int));omega),if_neg (by show ¬ ba 16 (cL c) on≠0;rw [ho];simp),if_pos rfl,if_neg (by show ¬ ba 16 (cL c) off≠0;rw [hf];simp),if_neg (by show ¬ (0:Int)≠0;simp)]
theorem DZ {c:Aa} {i:Nat} {N:QT} {on:Expr} {d:Int} (hx:c.Signals[i]?=some ⟨N,2,on,zxp,d,false⟩) (hn:bp c (cS c + i)=0) (ho:ba 16 (cL c) on=0) (h1:1<=d) (h2:d<=1000000):bJ c i=0:=by unfold bJ;rw [hx];show cp c i ⟨N,2,on,zxp,d,false⟩=0;unfold cp;rw [if_neg (by rw [hn];simp),if_neg (by show ¬ ((2:Int) < 0\/3<=(2:Int));omega),if_neg (by show ¬ ba 16 (cL c) on≠0;rw [ho];simp),if_neg (by show ¬ (2:Int)=1;omega),if_neg (by show ¬ (2:Int)=0;omega),if_neg (by show ¬ (d < 1\/d > 1000000);omega)];rfl
theorem H2 (h:jU s) {i:Nat} (hi:i < (aY aA s).length):bJ (aW s) i=0:=by
 have h4:=h.toSq4;have hcas:=h.q.cas (N:=aA) (i:=⟨#[115,116,97,114,116]⟩);have h2:=h.q.g2;have hcS:cS (aW s)=2 * A s + 1:=rfl;have hnm:bp (aW s) (cS (aW s) + i)=0:=BG h (by show _ + i < _ + (aY aA s).length;omega);let ⟨x,hx,he,_⟩:=hcas.sur i hi;have hl:=Fx (N:=aA) (s:=s);cases x with
 | gl j=>
  have hj:j < G s:=hx;have he:(if G s=2 then 1 - j else j)=i:=he
  by_cases e:G s=2
  ·rw [if_pos e] at he;rcases (show j=0\/j=1 by omega) with rfl | rfl
   ·obtain rfl:i=1:=by omega
    have hg:(aW s).Signals[1]?=some ⟨aA (.gl 0),0,⟨2,0,[lnx ((an s).L (.gl 1))]⟩,zxp,0,false⟩:=by
     show (aY aA s)[1]?=_;rw [Pw aa];unfold cI;rw [if_pos e];rfl
    refine Jp hg hnm (HD (Kv (by have:=Ym h4 (j:=1) aa;unfold DA;omega))) λk hk=>?_;have:=EG hk;have h5:(an s).L (.gl 1)=2 * A s + 1 + (if G s=2 then 1 - 1 else 1):=rfl
    rw [if_pos e] at h5;omega
   ·obtain rfl:i=0:=by omega
    have hg:(aW s).Signals[0]?=some ⟨aA (.gl 1),1,Cd 3 ((an s).en (bS s 0)),Cd 3 ((an s).en (bS s 1)),0,false⟩:=by
     show (aY aA s)[0]?=_;rw [Pw aa];unfold cI;rw [if_pos e];rfl
    have l0:=Hq h4 (j:=0) aa;have l1:=Hq h4 (j:=1) aa;exact Ut hg hnm (Db (.inl rfl) (iy h4 l0) λm hm=>Kv (CH h4 l0 m hm)) (Db (.inl rfl) (iy h4 l1) λm hm=>Kv (CH h4 l1 m hm))
  ·rw [if_neg e] at he;subst he;have hg:(aW s).Signals[j]?=some ⟨aA (.gl j),1,Cd 3 ((an s).L (.gl ((an s).pv j)) :: (an s).en (bS s ((an s).pv j))),lnx ((an s).L (.gl ((an s).nx j))),0,decide (j=0)⟩:=by
    show (aY aA s)[j]?=_;rw [Pw hj];unfold cI;rw [if_neg e,L7,ME hj];rfl
   have hp:(an s).pv j < G s:=CasD.pvl (q:=an s) h2 hj;have hn:(an s).nx j < G s:=CasD.nxl (q:=an s) h2;have lp:=Hq h4 hp;exact Ut hg hnm (Db (.inl rfl) ah λm hm=>by
    rcases MH.1 hm with rfl | hm
    ·exact Kv (by have:=Ym h4 hp;unfold DA;omega)
    ·exact Kv (CH h4 lp m hm)) (Ss (Kv (by have:=Ym h4 hn;unfold DA;omega)))
 | tm k=>
  have hk:k < n s:=hx.1;have hw:W s k=true:=hx.2;have he:G s + au s k=i:=he;subst he;have hg:=H1 (N:=aA) hk hw;have hwt:=(h.st k hk).w;have:=Yw.1 hw;exact DZ hg hnm (Db (.inl rfl) ah λm hm=>by
   rcases MH.1 hm with rfl | hm
   ·exact Kv (by have:=Ym h4 (eC h4 hk);unfold DA;omega)
   ·exact Kv (by have:=HZ h4 hk m hm;unfold DA;omega)) aa hwt.2
 | sg k=>
  have hk:k < n s:=hx;have he:G s + au s (n s) + k=i:=he;subst he;have hg:=dZ (N:=aA) hk;have hlow:∀ m∈((an s).L (.gl (g s k)) :: (an s).bg k),DA s m:=λm hm=>by
   rcases MH.1 hm with rfl | hm
   ·have:=Ym h4 (eC h4 hk);unfold DA;omega
   ·exact jR h4 hk m hm
  refine Jp hg hnm (Db (.inl rfl) ah λm hm=>Kv (hlow m hm)) λj hj=>?_;let ⟨m,hm,he⟩:=Zm (.inl rfl) hj;have:=hlow m hm;unfold DA at this;omega
 | pl a o=>
  have ha:a < A s:=hx;have he:G s + au s (n s) + n s + 2 * a + (if o=true then 0 else 1)=i:=he
  have hg:=d7 (N:=aA) (o:=o) ha;rw [he] at hg;have hlow:∀ m∈((an s).at_ a o).map λk=>(an s).L (.sg k),m < 2 * A s + 1 + (G s + au s (n s) + n s):=λm hm=>by
   obtain ⟨k,hk,rfl⟩:=MJ.1 hm;unfold CasD.at_ at hk;have hk:k < n s:=L4.1 (NX.1 hk).1;show 2 * A s + 1 + (G s + au s (n s) + k) < _;omega
  refine Jp hg hnm (Db (.inr rfl) (by
   intro e;exact iF h.q ha o (O6.1 e)) λm hm=>?_) λj hj=>?_
  ·have:=hlow m hm;show m < 2 * A s + 1 + (aY aA s).length;omega
  ·let ⟨m,hm,hme⟩:=Zm (.inr rfl) hj;have:=hlow m hm;have:i>=G s + au s (n s) + n s:=by rw [← he];omega
   omega
theorem jy (h:jU s):Fw (aW s):=by (have h4:=h.toSq4;have hn64:=h4.n;have hG:=h4.G64;have hnames:∀ x∈(aY aA s),x.Name.size<=200/\Fla x.On/\Fla x.Off:=by (intro x hx;have hnb:∀ p k,(bv p k).size<=3:=λp k=>by unfold bv;split;show 2<=3;omega;show 3<=3;omega);(have hen:∀ k,k < n s->((an s).en k).length<=6:=λk hk=>LD h4 hk;unfold aY at hx;rcases MC.1 hx with hx | hx);unfold cI at hx;split at hx;(rcases MH.1 hx with rfl | hx);have l0:=hen _ (Hq h4 (j:=0) (by have:=h.q.g2;omega));have l1:=hen _ (Hq h4 (j:=1) (by have:=h.q.g2;omega));exact ⟨by have:=hnb 103 1;show (bv 103 1).size<=200;omega,Fla.sev aa,Fla.sev aa⟩;obtain rfl:=MZ.1 hx;exact ⟨by have:=hnb 103 0;show (bv 103 0).size<=200;omega,Fla.not,Fla.zxp⟩;obtain ⟨j,hj,rfl⟩:=MJ.1 hx;have hj:=L4.1 hj;have l0:=hen _ (Hq h4 (CasD.pvl (q:=an s) h.q.g2 hj));exact ⟨by have:=hnb 103 j;show (bv 103 j).size<=200;omega,Fla.sev ay,Fla.lnx _⟩;(rcases MC.1 hx with hx | hx);obtain ⟨k,hk,rfl⟩:=MJ.1 hx;have hk:=L4.1 (NX.1 hk).1;have:=Um h4 hk;exact ⟨by have:=hnb 119 k;show (bv 119 k).size<=200;omega,Fla.sev (by simp at this ⊢;omega),Fla.zxp⟩;(rcases MC.1 hx with hx | hx);(obtain ⟨k,hk,rfl⟩:=MJ.1 hx;have hk:=L4.1 hk;have hb:((an s).bg k).length<=6:=by unfold CasD.bg;split;simp;split;exact hen _ aa;simp);exact ⟨by have:=hnb 115 k;show (bv 115 k).size<=200;omega,Fla.sev ay,Fla.zxp⟩;(let ⟨a,ha,hx⟩:=List.mem_flatMap.1 hx;have key:∀ o,(sP aA s o a).Name.size<=200/\Fla (sP aA s o a).On/\Fla (sP aA s o a).Off:=λo=>by refine ⟨by show (2:Nat)<=200;omega,Fla.sev ?_,Fla.zxp⟩;rw [L9];unfold CasD.at_;have:=OS (λk=>decide ((a,o)∈(an s).S k)) (List.range (an s).n);rw [MS] at this;have:(an s).n=n s:=rfl;omega);(rcases MH.1 hx with rfl | hx);exact key true;obtain rfl:=MZ.1 hx;exact key false);exact ⟨λx hx=>by obtain rfl:=MZ.1 hx;decide,λx hx=>(hnames x hx).1,λx hx=>Wf (hnames x hx).2.1,λx hx=>Wf (hnames x hx).2.2⟩
theorem i7 (h:jU s):Rc (aW s):=by
 have h4:=h.toSq4;have hw:=jy h;have hsg:=h.sig;have ha:=h4.Ac;obtain ⟨e,e1,e2,e3,e4⟩:=CM hw;have hb:Bd_ (aW s):=⟨h.q.a0,h.q.a6,by show 1<=16;omega,hsg⟩;have hl:=Fx (N:=aA) (s:=s);have hp:∀ l∈(aW s).Plus ++ (aW s).Minus,aV (cL (aW s)) l=false:=λl hl'=>by
  have:∃ a o,a < A s/\l=(((an s).L (.pl a o):Nat):Int):=by
   rcases MC.1 hl' with h | h <;> obtain ⟨a,ha,rfl⟩:=MJ.1 h
   ·exact ⟨a,true,L4.1 ha,rfl⟩
   ·exact ⟨a,false,L4.1 ha,rfl⟩
  obtain ⟨a,o,ha,rfl⟩:=this;have:=lK (hX h4 (x:=.pl a o) ha);unfold aV;rw [NZ,decide_eq_false_iff_not,decide_eq_false_iff_not];omega
 have h0:e=0:=e4 hb (λi hi=>BG h (by
  have hi:i < 1:=hi;show 2 * A s + i < 2 * A s + 1 + (aY aA s).length;omega)) (λi hi=>H2 h hi) (by
  unfold eg;have l1:(aW s).Plus.length=A s:=by show ((List.range (A s)).map _).length=_;rw [L9,MS]
  have l2:(aW s).Minus.length=A s:=by show ((List.range (A s)).map _).length=_;rw [L9,MS]
  rw [if_neg (by rw [l1,l2];show ¬ (((A s:Nat):Int)≠s.Actuators\/((A s:Nat):Int)≠s.Actuators);omega),if_neg (by
   intro hh;obtain ⟨l,hl,hb⟩:=MD.1 hh;rw [hp l hl] at hb;cases hb)])
 subst h0;exact ⟨e3 rfl,hw,e1,e2⟩
end
section
theorem gD (b:Bool):AU b≠1/\AU b≠3:=by cases b <;> decide
variable {c:Aa} {q:CasD} {s:Ad} {st:Bool}
theorem Bs.rg (hc:CasP c q) {E:Nat->Int} {V M:Nat->Bool} {T:Nat->Int} (h:Bs c q s E V M T st) {i:Nat} (hi:s.Timers.getD i 0=1):∃ k,k < q.n/\q.W k=true/\i=q.no (.tm k)/\T k=1:=by
 have hlt:i < c.Signals.length:=by
  rw [← h.fit.t];rcases M7 i s.Timers.length with h1 | h1
  ·exact h1
  ·rw [LV,M5 h1] at hi;cases hi
 have hk2:c.Signals[i].Kind=2:=by
  rcases Classical.em (c.Signals[i].Kind=2) with e | e
  ·exact e
  ·have h1:i < s.Timers.length:=by rw [h.fit.t];exact hlt
   have h2:i < s.Values.length:=by rw [h.fit.x];exact hlt
   have:=(h.fit.k i _ _ _ (ak hlt) (ak h1) (ak h2)).1 e;rw [LV,ak h1] at hi;have hi:s.Timers[i]=1:=hi;omega
 obtain ⟨x,hx,rfl,hsg⟩:=hc.sur i hlt;have hg:=ak hlt;cases x with
 | gl j=>
  exfalso;by_cases h2:q.G=2
  ·by_cases e:j=1
   ·subst e;let ⟨y,h1,h3,_⟩:=hc.glT h2;rw [hg] at h1;rw [Option.some.inj h1] at hk2;omega
   ·obtain rfl:j=0:=by have:j < q.G:=hx;omega
    let ⟨y,h1,h3,_⟩:=hc.glU h2;rw [hg] at h1;rw [Option.some.inj h1] at hk2;omega
  ·let ⟨y,h1,h3,_⟩:=hc.glS h2 j hx;rw [hg] at h1;rw [Option.some.inj h1] at hk2;omega
 | tm k=>exact ⟨k,hx.1,hx.2,rfl,by rw [← (h.t k hx.1 hx.2).1];exact hi⟩
 | sg k=>exfalso;let ⟨y,h1,h3,_⟩:=hc.sgS (hsg k rfl) k hx;rw [hg] at h1;rw [Option.some.inj h1] at hk2;omega
 | pl a o=>exfalso;let ⟨y,h1,h3,_⟩:=hc.plS a o hx;rw [hg] at h1;rw [Option.some.inj h1] at hk2;omega
theorem RunS.pend (hc:CasP c q) {k:Nat} {mv:Nat->Bool} {t:Int} (h:RunS c q s k mv t st) {x:Af} (hx:x∈Pn.pend s):(∃ a,a < q.A/\mv a=true/\x=⟨0,(a:Int),false⟩)\/(t=1/\q.W k=true/\x=⟨1,(q.no (.tm k):Int),false⟩):=by
 unfold Pn.pend at hx;rcases MC.1 hx with hx | hx
 ·let ⟨a,ha,he⟩:=O1.1 hx;have ha:=L4.1 ha;have ha':a < q.A:=by rw [← hc.a,← h.at_.b.fit.e];exact ha
  unfold Ux at he;split at he
  ·rename_i hE;rw [h.at_.b.e a ha'] at hE;refine .inl ⟨a,ha',?_,(Option.some.inj he).symm⟩;cases hm:mv a with
   | true=>rfl
   | false=>
    exfalso;unfold CasD.Ek at hE;rw [if_neg (by rw [hm];decide)] at hE;have:=gD (q.pos (k + 1) a);rcases hE with e | e
    ·exact this.1 e
    ·exact this.2 e
  ·cases he
 ·let ⟨i,hi,he⟩:=O1.1 hx;unfold CZ at he;split at he
  ·rename_i hT;obtain ⟨k',h1,h2,rfl,h4⟩:=h.at_.b.rg hc hT;have he:=(Option.some.inj he).symm;unfold CasD.Tk at h4;split at h4
   ·rename_i e;subst e;exact .inr ⟨h4,h2,he⟩
   ·split at h4
    ·cases h4
    ·cases h4
  ·cases he
end
section
variable {c:Aa} {q:CasD} {s:Ad}
def LS (c:Aa) (q:CasD) (s:Ad):Prop:=∃ k mv t,RunS c q s k mv t true
theorem Nxt.cst1 {u:Ad} {k:Nat} (h:Nxt c q u k true):LS c q u:=by (rcases h with ⟨h,_⟩ | ⟨_,h,_⟩);exact ⟨_,_,_,h⟩;cases h
theorem LS.clo (hc:CasP c q) (hs:SqP q) (hp:lI q) (h:LS c q s):∀ x∈Pn.pend s,(ai c s x).2=0/\(∀ y,¬ cH c s x y)/\LS c q (ai c s x).1:=by (intro x hx;let ⟨k,mv,t,h⟩:=h;rcases h.pend hc hx with ⟨a,ha,hm,rfl⟩ | ⟨rfl,hw,rfl⟩);(let ⟨u,h1,hn,h2⟩:=jF hc hs h ha hm;rw [h1];refine ⟨rfl,hn,?_⟩;rcases h2 with ⟨t',h2⟩ | ⟨_,h2⟩);exact ⟨_,_,_,h2⟩;exact h2.cst1;let ⟨u,h1,hn,h2⟩:=jE hc hs hp h;rw [h1];exact ⟨rfl,hn,h2.cst1⟩
end
section
open Csc
variable {s:Ai}
namespace Csc
def kL (s:Ai):Sg->Nat
 | .gl j=>if n s=2 then 1 - j else j
 | .tm k=>n s + au s k
 | .sg k=>if n s=2 then 1 - k else k
 | .pl a o=>n s + au s (n s) + 2 * a + (if o=true then 0 else 1)
def Av (s:Ai):CasD:=⟨A s,n s,n s,S s,W s,λk=>k,λj=>j,kL s,true⟩
def sgC (N:Sg->QT) (s:Ai):List Ae:=
 if n s=2 then [⟨N (.gl 1),1,Cd 3 ((Av s).ex 0),Cd 3 ((Av s).ex 1),0,true⟩,⟨N (.gl 0),0,⟨2,0,[lnx ((Av s).L (.gl 1))]⟩,zxp,0,false⟩]
 else (List.range (n s)).map λj=>⟨N (.gl j),1,Cd 3 ((Av s).L (.gl ((Av s).pv j)) :: (Av s).ex ((Av s).pv j)),lnx ((Av s).L (.gl ((Av s).nx j))),0,decide (j + 1=n s)⟩
def jZ (N:Sg->QT) (s:Ai) (k:Nat):Ae:=⟨N (.tm k),2,Cd 3 ((Av s).L (.gl k) :: (S s k).map CasD.sw),zxp,(aB s k).Wait,false⟩
def cr (N:Sg->QT) (s:Ai) (o:Bool) (a:Nat):Ae:=⟨N (.pl a o),0,Cd 4 (((Av s).at_ a o).map λk=>(Av s).L (.sg k)),zxp,0,false⟩
def Dt (N:Sg->QT) (s:Ai):List Ae:=sgC N s ++ (((List.range (n s)).filter (W s)).map (jZ N s) ++ (List.range (A s)).flatMap λa=>[cr N s true a,cr N s false a])
def HH (N:Sg->QT) (i:QT) (s:Ai):Aa:=⟨s.Actuators,[i],Dt N s,(List.range (A s)).map λa=>(((Av s).L (.pl a true):Nat):Int),(List.range (A s)).map λa=>(((Av s).L (.pl a false):Nat):Int)⟩
end Csc
variable {N:Sg->QT} {i:QT}
theorem Hs:(sgC N s).length=n s:=by unfold sgC;split;rename_i h;rw [h];rfl;rw [L9,MS]
theorem Ei:(Dt N s).length=n s + au s (n s) + 2 * A s:=by unfold Dt;rw [LW,LW,Hs,L9,Eb];show n s + (au s (n s) + 2 * A s)=_;omega
theorem Fy {j:Nat} (hj:j < n s):(Dt N s)[j]?=(sgC N s)[j]?:=by unfold Dt;rw [L2 (by rw [Hs];exact hj)]
theorem A4 {k:Nat} (hk:k < n s) (hw:W s k=true):(Dt N s)[n s + au s k]?=some (jZ N s k):=by have h1:=Bi hk hw;have h2:=(LU.1 h1).1;unfold Dt;rw [LX (by rw [Hs];omega),Hs,show n s + au s k - n s=au s k by omega,L2 (by rw [L9];exact h2),L7];show (((List.range (n s)).filter (W s))[((List.range k).filter (W s)).length]?).map _=_;rw [h1];rfl
theorem DY {a:Nat} {o:Bool} (ha:a < A s):(Dt N s)[n s + au s (n s) + 2 * a + (if o=true then 0 else 1)]?=some (cr N s o a):=by
 have hl:(((List.range (n s)).filter (W s)).map (jZ N s)).length=au s (n s):=by rw [L9];rfl
 let ⟨h1,h2⟩:=Ha (f:=cr N s true) (h:=cr N s false) ha;unfold Dt;rw [LX (by rw [Hs];omega),Hs,LX aa,hl];cases o with
 | true=>rw [if_pos rfl,show n s + au s (n s) + 2 * a + 0 - n s - au s (n s)=2 * a by omega];exact h1
 | false=>rw [if_neg (by decide),show n s + au s (n s) + 2 * a + 1 - n s - au s (n s)=2 * a + 1 by omega];exact h2
theorem k6:∀ k,g s k<=k
 | 0=>MG _
 | k + 1=>by have:=k6 k; rcases Yo (s:=s) k with h | h <;> omega
theorem Sqc.n2 (h:Sqc s):2<=n s:=by have h1:=h.g2;have h2:=KV (s:=s);have h3:=k6 (s:=s) (n s - 1);omega
theorem ja:∀ (k a:Nat),(Av s).pos k a=(an s).pos k a
 | 0,_=>rfl
 | k + 1,a=>by
  show (if (a,true)∈S s k then true else if (a,false)∈S s k then false else (Av s).pos k a)=if (a,true)∈S s k then true else if (a,false)∈S s k then false else (an s).pos k a
  rw [ja k a]
theorem Sqc.sqC (h:Sqc s):SqP (Av s) where
 n0:=h.n0
 ne:=λk hk=>h.sq.ne k hk
 fits:=λk hk a o ha=>by rw [ja];exact h.fits k hk a o ha
 back:=λa=>by rw [ja];exact h.back a
 g0:=rfl
 gs:=λk _=>.inr rfl
 gl:=by show n s - 1 + 1=n s;have:=h.n0;omega
 gu:=λi k hik _ hg=>by have hg:i=k:=hg;omega
 gch:=λ_ _=>rfl
 la:=λj hj=>⟨rfl,λ_=>rfl⟩
theorem Sqc.casC (h:Sqc s):CasP (HH N i s) (Av s) where
 a:=rfl
 i:=rfl
 g2:=h.n2
 gn:=λk hk=>hk
 ln:=λj hj=>hj
 Sa:=λk hk x hx=>by
  obtain ⟨y,hy,rfl⟩:=MJ.1 hx;have:=h.ac k hk y hy;show y.Actuator.toNat < s.Actuators.toNat
  omega
 sur:=λj hj=>by
  have hj:j < n s + au s (n s) + 2 * A s:=by rw [← Ei (N:=N)];exact hj
  have h2:=h.n2;rcases M7 j (n s) with h1 | h1
  ·refine ⟨.gl (if n s=2 then 1 - j else j),?_,?_,λk e=>by cases e⟩
   ·show (if n s=2 then 1 - j else j) < n s
    split <;> omega
   ·show (if n s=2 then 1 - (if n s=2 then 1 - j else j) else (if n s=2 then 1 - j else j))=j
    split <;> omega
  ·rcases M7 j (n s + au s (n s)) with h3 | h3
   ·let ⟨k,hk,hw,he⟩:=Nc (p:=W s) (n:=n s) (i:=j - n s) (by show _ < au s (n s);omega);refine ⟨.tm k,⟨hk,hw⟩,?_,λk e=>by cases e⟩;show n s + au s k=j;unfold au;omega
   ·refine ⟨.pl ((j - n s - au s (n s)) / 2) (decide ((j - n s - au s (n s)) % 2=0)),show _ < A s by omega,?_,λk e=>by cases e⟩;show n s + au s (n s) + 2 * ((j - n s - au s (n s)) / 2) + (if decide ((j - n s - au s (n s)) % 2=0)=true then 0 else 1)=j
    by_cases e:(j - n s - au s (n s)) % 2=0
    ·rw [ar e,if_pos rfl];omega
    ·rw [aq e,if_neg (by decide)];omega
 tmS:=λk hk hw=>⟨_,A4 hk hw,rfl,rfl⟩
 sgS:=λe=>by cases e
 chn:=λ_=>⟨rfl,λk=>⟨rfl,rfl,rfl⟩⟩
 plS:=λa o ha=>⟨_,DY ha,rfl,rfl⟩
 glS:=λhG j hj=>by
  have hG:n s≠2:=hG;have hj:j < n s:=hj;refine ⟨⟨N (.gl j),1,Cd 3 ((Av s).L (.gl ((Av s).pv j)) :: (Av s).ex ((Av s).pv j)),lnx ((Av s).L (.gl ((Av s).nx j))),0,decide (j + 1=n s)⟩,?_,rfl,rfl,rfl⟩;show (Dt N s)[if n s=2 then 1 - j else j]?=_
  rw [if_neg hG,Fy hj];unfold sgC;rw [if_neg hG,L7,ME hj];rfl
 glT:=λhG=>by
  have hG:n s=2:=hG;refine ⟨⟨N (.gl 1),1,Cd 3 ((Av s).ex 0),Cd 3 ((Av s).ex 1),0,true⟩,?_,rfl,rfl,rfl⟩;show (Dt N s)[if n s=2 then 1 - 1 else 1]?=_
  rw [if_pos hG,Fy aa];unfold sgC;rw [if_pos hG];rfl
 glU:=λhG=>by
  have hG:n s=2:=hG;refine ⟨⟨N (.gl 0),0,⟨2,0,[lnx ((Av s).L (.gl 1))]⟩,zxp,0,false⟩,?_,rfl,rfl⟩;show (Dt N s)[if n s=2 then 1 - 0 else 0]?=_
  rw [if_pos hG,Fy aa];unfold sgC;rw [if_pos hG];rfl
 ogs:=λe=>by cases e
 osp:=λk a o hk ha=>by
  have hk:k < n s:=hk;show (if n s=2 then 1 - k else k) < n s + au s (n s) + 2 * a + (if o=true then 0 else 1)
  split <;> omega
 pls:=λa ha=>Dq (show a < A s from ha)
 mns:=λa ha=>Dq (show a < A s from ha)
theorem Sqc.tmpC:lI (Av s) where
 inj:=λa b ha hwa hb hwb he=>by
  have he:n s + au s a=n s + au s b:=he;have h1:=Bi ha hwa;have h2:=Bi hb hwb;have h3:((List.range a).filter (W s)).length=((List.range b).filter (W s)).length:=by unfold au at he;omega
  have h1:((List.range (n s)).filter (W s))[((List.range a).filter (W s)).length]?=some a:=h1;rw [h3] at h1;exact Option.some.inj (h1.symm.trans h2)
 jn:=λj k hj hk hw=>by
  have hj:j < n s:=hj;show (if n s=2 then 1 - j else j)≠n s + au s k
  split <;> omega
theorem Sqc.iniC (h:Sqc s) (hf:Fit (HH N i s) (Pn.ini (HH N i s))):Bs (HH N i s) (Av s) (Pn.ini (HH N i s)) ((Av s).Ep 0) ((Av s).pos 0) (CasD.Mj ((Av s).n - 1)) (λ_=>0) false:=by (have h2:=h.n2;have hl:=Ei (N:=N) (s:=s);have hv:∀ j x,(Dt N s)[j]?=some x->(Pn.ini (HH N i s)).Values.getD j false=x.Init:=λj x hx=>by have hlt:=(LU.1 hx).1;show ((List.range (Dt N s).length).map (B6 (HH N i s))).getD j false=_;rw [Dq hlt];unfold B6;rw [show (HH N i s).Signals[j]?=some x from hx];rfl);(have hrep:∀ {α:Type} (m j:Nat) (d:α),(List.replicate m d).getD j d=d:=λm j d=>by rw [LV,OB]; split <;> rfl);refine ⟨hf,λa ha=>?_,λa ha=>?_,rfl,λj hj hg=>?_,λhG=>?_,λk hk hw=>⟨?_,?_⟩⟩;exact hrep _ _ _;exact hrep _ _ _;have hj:j < n s:=hj;show (Pn.ini (HH N i s)).Values.getD (if n s=2 then 1 - j else j) false=CasD.Mj (n s - 1) j;by_cases e:n s=2;(obtain rfl:=hg e;rw [if_pos e];have:(Dt N s)[1 - 1]?=some ⟨N (.gl 1),1,Cd 3 ((Av s).ex 0),Cd 3 ((Av s).ex 1),0,true⟩:=by rw [Fy aa];unfold sgC;rw [if_pos e];rfl);rw [hv _ _ this,e];rfl;(rw [if_neg e];have:(Dt N s)[j]?=some ⟨N (.gl j),1,Cd 3 ((Av s).L (.gl ((Av s).pv j)) :: (Av s).ex ((Av s).pv j)),lnx ((Av s).L (.gl ((Av s).nx j))),0,decide (j + 1=n s)⟩:=by rw [Fy hj];unfold sgC;rw [if_neg e,L7,ME hj];rfl);rw [hv _ _ this];unfold CasD.Mj;show decide (j + 1=n s)=(j == n s - 1);rw [NB];simp;omega;have hG:n s=2:=hG;show CasD.Mj (n s - 1) 0=!CasD.Mj (n s - 1) 1;rw [hG];rfl;exact hrep _ _ _;show (Pn.ini (HH N i s)).Values.getD (n s + au s k) false=_;rw [hv _ _ (A4 hk hw)];rfl
theorem fq {c:Aa} {q:CasD} {s:Ad} (hc:CasP c q) (hs:SqP q) (hch:q.ch=true) (hb:Bs c q s (q.Ep 0) (q.pos 0) (CasD.Mj (q.n - 1)) (λ_=>0) false) :
  ∃ u,rst c 65 s=some u/\((q.W (q.n - 1)=false/\eP c q u)\/(q.W (q.n - 1)=true/\RunS c q u (q.n - 1) (λ_=>false) 1 false))/\∀ y,¬ rstP c 65 s y:=by
 have hn:=hs.n0;have hg:=hs.gch hch;have hT:∀ t,∀ k,k < q.n->q.W k=true->(k=q.n - 1->t=0)->(0:Int)=q.Tk (q.n - 1) t k:=λt k hk hw ht=>by
  unfold CasD.Tk;split
  ·rename_i e;exact (ht e).symm
  ·rw [if_neg];rw [hg,hg];omega
 cases hw:q.W (q.n - 1) with
 | false=>
  have hR:=Oy hc hs;have hb2:=hb.cong hc.g2 (E':=q.Ep 0) (V':=q.pos 0) (M':=CasD.Mj q.ij) (T':=q.Ti) (λ_ _=>rfl) (λ_ _=>rfl) (λ_ _=>by rw [ga hs hch,hg]) λk hk hwk=>by
   rw [gQ hch];exact hT 2 k hk hwk λe=>by rw [e,hw] at hwk;cases hwk
  let ⟨u,g1,g2,g3⟩:=J6 hc hs hb2 (.fix hR.fM hR.fT hR.fn) aa;exact ⟨u,g1,.inl ⟨rfl,g2⟩,g3⟩
 | true=>
  have hb2:=hb.cong hc.g2 (E':=q.Ek (q.n - 1) λ_=>false) (V':=q.pos (q.n - 1 + 1)) (M':=CasD.Mj (q.g (q.n - 1))) (T':=q.Tk (q.n - 1) 0) (λa _=>by rw [← DE,← HS hs]) (λa _=>by rw [← Uw hs]) (λ_ _=>by rw [hg]) λk hk hwk=>hT 0 k hk hwk λ_=>rfl;let ⟨u,g1,g2,g3⟩:=gV hc hs aa (λ_=>rfl) hw hb2;exact ⟨u,g1,.inr ⟨rfl,g2⟩,g3⟩
end
section
open Csc
variable {s:Ai}
def aK:Sg->QT
 | .gl j=>bv 109 j
 | .tm k=>bv 119 k
 | .sg k=>bv 109 k
 | .pl a o=>aA (.pl a o)
def aU (s:Ai):Aa:=HH aK ⟨#[115,116,97,114,116]⟩ s
def bq (s:Ai):QR:=(List.range (n s)).map λk=>(Av s).L (.gl k)
def eT (s:Ai):QP:=(List.range (n s)).map λk=>if W s k=true then (((Av s).L (.tm k):Nat):Int) else -1
theorem Qf {k:Nat} (hk:k < n s):(az (bq s))[k]?=some (((Av s).L (.gl k):Nat):Int):=by rw [Hd];unfold bq;rw [L7,ME hk];rfl
theorem Zh {k:Nat} (hk:k < n s):(eT s)[k]?=some (if W s k=true then (((Av s).L (.tm k):Nat):Int) else -1):=by unfold eT;rw [L7,ME hk];rfl
theorem HR {x:Sg}:(Av s).L x=2 * A s + 1 + kL s x:=rfl
theorem Vy (h:Sq4 s) {k:Nat} (hk:k < n s):((Av s).en k).length<=6:=by unfold CasD.en;split;simp;exact Um h hk
theorem pvC {i:Nat} (h2:2<=n s) (hi:i < n s):(i + n s - 1) % n s=(Av s).pv i:=by have e:(Av s).pv i=if i=0 then n s - 1 else i - 1:=rfl;rw [e];by_cases h0:i=0;subst h0;rw [if_pos rfl,NW,OY aa];rw [if_neg h0,show i + n s - 1=i - 1 + n s by omega,Nat.add_mod_right,OY aa]
theorem nxC {i:Nat} (h2:2<=n s) (hi:i < n s):(i + 1) % n s=(Av s).nx i:=by have e:(Av s).nx i=if i + 1 < n s then i + 1 else 0:=rfl;rw [e];by_cases h0:i + 1 < n s;rw [if_pos h0,OY h0];rw [if_neg h0,show i + 1=n s by omega,Nat.mod_self]
theorem ef {i:Nat} (hi:i < n s):(Av s).pv i < n s:=by show (if i=0 then n s - 1 else i - 1) < n s;split <;> omega
theorem hO {i:Nat} (hi:i < n s):(Av s).nx i < n s:=by show (if i + 1 < n s then i + 1 else 0) < n s;split <;> omega
def qg (s:Ai) (j:Nat):Ae:=⟨aK (.gl j),1,Cd 3 ((Av s).L (.gl ((Av s).pv j)) :: (Av s).ex ((Av s).pv j)),lnx ((Av s).L (.gl ((Av s).nx j))),0,decide (j + 1=n s)⟩
def Nj (s:Ai):Plan:=⟨s,eT s⟩
theorem ek:(Nj s).S=s:=rfl
theorem eh:(Nj s).Timers=eT s:=rfl
theorem DT:(eT s).length=n s:=by unfold eT;rw [L9,MS]
theorem iI {k:Nat} (hk:k < n s):decide ((k:Int) < ((eT s).length:Int))=true:=ar (by rw [DT];omega)
theorem iH:decide (((n s:Nat):Int) < ((eT s).length:Int))=false:=aq (by rw [DT];omega)
theorem H0 {k:Nat} (hk:k < n s):(az (bq s))[k]?=some (((Av s).L (.sg k):Nat):Int):=Qf hk
theorem JV:((List.range 64).all λk=>decide (dA FF (⟨#[109]⟩:QT) (k:Int)=some (bv 109 k)))=true:=by kernel_rfl
theorem EV {k:Nat} (h:k < 64):dA FF (⟨#[109]⟩:QT) (k:Int)=some (bv 109 k):=by have h1:=L5.1 JV k (L4.2 h);rwa [decide_eq_true_iff] at h1
theorem Vg (h:Sq4 s):jp FF s=some ((2 * A s + 1:Nat):Int):=Jz h
theorem C8 (h:Sq4 s):U7 FF s ((2 * A s + 1 + n s:Nat):Int)=some (Nj s):=by
 have hG:=h.G64;have hn:=h.n;have hA:=h.A6;unfold U7;obtain ⟨v,hv,hh⟩:=Lj (L:=Dp s) (mk:=λi (v:Int×QP)=>(v.1,(i:Int),v.2)) (N:=n s) (I:=λi v=>v=(((2 * A s + 1 + n s + au s i:Nat):Int),(List.range i).map λk=>if W s k=true then (((Av s).L (.tm k):Nat):Int) else -1)) (λm i v hi hI=>by
  subst hI;have hc:=Hr (s:=s) (k:=i);have hcs:=eH (s:=s) i;rw [Dp];dsimp only;rw [show decide ((i:Int) < (s.Steps.length:Int))=true from ar (by unfold n at hi;omega),af,Ak,Bo hi,ab];by_cases hw:W s i=true
  ·have:=Yw.1 hw;rw [show ((aB s i).Wait == 0)=false by rw [beq_eq_false_iff_ne];exact this,ae,Ar ay,ab,An aa,An aa];refine ⟨(((2 * A s + 1 + n s + au s i + 1:Nat):Int),(List.range i).map (λk=>if W s k=true then (((Av s).L (.tm k):Nat):Int) else -1) ++ [((2 * A s + 1 + n s + au s i:Nat):Int)]),?_,rfl⟩
   rw [NP,NY,hcs];simp only [MF,M6,if_pos hw];have e:(Av s).L (.tm i)=2 * A s + 1 + n s + au s i:=by show 2 * A s + 1 + (n s + au s i)=_;omega
   rw [e];rfl
  ·have:(aB s i).Wait=0:=by
    rcases Int.lt_trichotomy (aB s i).Wait 0 with e | e | e
    ·exact absurd (Yw.2 aa) hw
    ·exact e
    ·exact absurd (Yw.2 aa) hw
   rw [show ((aB s i).Wait == 0)=true by rw [beq_iff_eq];exact this,af,Ar ay,ab,An aa];refine ⟨(((2 * A s + 1 + n s + au s i:Nat):Int),(List.range i).map (λk=>if W s k=true then (((Av s).L (.tm k):Nat):Int) else -1) ++ [-1]),?_,rfl⟩
   rw [NP,NY,hcs];simp only [MF,M6,if_neg hw];rfl) (λm v hI=>by
  rw [Dp];dsimp only;rw [show decide (((n s:Nat):Int) < (s.Steps.length:Int))=false from aq (by unfold n;omega),ae]) FF 0 (((2 * A s + 1 + n s:Nat):Int),[]) aa uF rfl
 try dsimp only at hh
 rw [n0] at hh;rw [hh,ab];subst hv;rfl
theorem Vh (h:Sq4 s):ka FF s=some (Nj s):=by have hn:=h.n;have hA:=h.A6;unfold ka;rw [Vg h,ab];show (U7 FF s (wr (((2 * A s + 1:Nat):Int) + ((n s:Nat):Int)))).bind _=_;rw [Aq aa aa];have:=C8 h;rw [show ((2 * A s + 1:Nat):Int) + (n s:Int)=((2 * A s + 1 + n s:Nat):Int) by omega,this];rfl
theorem Mt (h:Sq4 s) {k:Nat} (hk:k < n s):VC FF (Nj s) (k:Int)=some (((Av s).en k).map lnx):=by unfold VC;show (idx (eT s) (k:Int)).bind _=_;rw [Ak,Zh hk,ab];unfold CasD.en;by_cases hw:W s k=true;rw [if_pos hw,if_pos (show (Av s).W k=true from hw),ar aa,af];show (idx (eT s) (k:Int)).bind _=_;rw [Ak,Zh hk,if_pos hw,ab,Ax];rfl;rw [if_neg hw,if_neg (show ¬ (Av s).W k=true from hw),aq aa,ae];show (idx s.Steps (k:Int)).bind _=_;rw [Ak,Bo hk,ab,Kt h hk];rfl
theorem Vn (h:Sq4 s):im FF s=some (az (bq s)):=by
 have hA:=h.A6;have hn:=h.n;have hns:s.Steps.length=n s:=rfl;unfold im;rw [hns];by_cases h2:n s=2
 ·rw [show ((n s:Int) == 2)=true by rw [beq_iff_eq];omega,af,Vg h,ab,ab,An aa];unfold bq az;rw [h2];show some [((2 * A s + 1 + 1:Nat):Int),((2 * A s + 1:Nat):Int)]=some [(((Av s).L (.gl 0):Nat):Int),(((Av s).L (.gl 1):Nat):Int)];rw [HR,HR];show _=some [((2 * A s + 1 + (if n s=2 then 1 - 0 else 0):Nat):Int),((2 * A s + 1 + (if n s=2 then 1 - 1 else 1):Nat):Int)]
  rw [h2];rfl
 ·rw [show ((n s:Int) == 2)=false by rw [beq_eq_false_iff_ne];omega,ae];have:=Zd (L:=Nw FF s) (N:=n s) (f:=λj=>[(((Av s).L (.gl j):Nat):Int)]) (acc0:=[]) aa (λ_ _=>by simp) ah (λm i acc hi ha=>by
   rw [Nw];dsimp only;rw [AT hi,af,Vg h,ab,Ar ay,ab,An aa,Aq aa aa];congr 4;rw [HR];show _=((2 * A s + 1 + (if n s=2 then 1 - i else i):Nat):Int)
   rw [if_neg h2];omega) (λm acc=>by
   rw [Nw];dsimp only;rw [AS,ae])
  rw [this,Ok];unfold bq az;rw [O3,OJ];rfl
theorem JS (h:Sq4 s):mn FF s=some (sgC aK s):=by
 have hA:=h.A6;have hn:=h.n;have h2:=h.q.n2;have hns:s.Steps.length=n s:=rfl;have hst:U8 FF (wr ((2:Int) * s.Actuators))=some (lnx (2 * A s)):=by
  rw [h.Ac,Aq aa aa,show 2 * ((A s:Nat):Int)=((2 * A s:Nat):Int) by omega,Ax]
 unfold mn sgC;rw [Vh h,ab,Vn h,ab,hst,ab,hns];by_cases e:n s=2
 ·have he0:=Vy h (show 0 < n s by omega);have he1:=Vy h (show 1 < n s by omega);have x0:(Av s).ex 0=(Av s).en 0:=by
   show (Av s).en 0 ++ (if true=true/\0 + 1=n s then [2 * A s] else [])=_
   rw [if_neg aa,M4]
  have x1:(Av s).ex 1=(Av s).en 1 ++ [2 * A s]:=by
   show (Av s).en 1 ++ (if true=true/\1 + 1=n s then [2 * A s] else [])=_
   rw [if_pos ⟨rfl,by omega⟩]
  have h138:VO FF s (0:Int)=some (Cd 3 ((Av s).en 0)):=by
   unfold VO;rw [Vh h,ab,← n0,Mt h (show 0 < n s by omega),ab,Be];rfl
  rw [if_pos e,e,show (((2:Nat):Int) == 2)=true from rfl,af,show (1:Int)=((1:Nat):Int) from rfl,Mt h (show 1 < n s by omega),ab,Ar ay,ab,OJ,Ar ay,ab];rw [show ((Av s).en 1).map lnx ++ [lnx (2 * A s)]=((Av s).en 1 ++ [2 * A s]).map lnx by rw [NY];rfl,Be,ab,h138,ab,Ak,Qf (show 1 < n s by omega),ab,Ax,ab,x0,x1];rfl
 ·rw [if_neg e,show (((n s:Nat):Int) == 2)=false by rw [beq_eq_false_iff_ne];omega,ae];have:=Zd (L:=Tq FF s (Nj s) (az (bq s)) (lnx (2 * A s))) (N:=n s) (f:=λj=>[qg s j]) (acc0:=[]) aa (λ_ _=>by simp) ah (λm i acc hi ha=>by
   have hp:=ef hi;have hx:=hO hi;have hel:=Vy h hp;have hl:acc.length<=6400:=by have:=ha.2;simp at this;omega
   have hon:(bif ((i:Int) == 0) then (app ([lnx ((Av s).L (.gl ((Av s).pv i)))] ++ ((Av s).en ((Av s).pv i)).map lnx) ([lnx (2 * A s)]:List Expr)).bind λx28=>some x28 else some ([lnx ((Av s).L (.gl ((Av s).pv i)))] ++ ((Av s).en ((Av s).pv i)).map lnx))=some (((Av s).L (.gl ((Av s).pv i)) :: (Av s).ex ((Av s).pv i)).map lnx):=by
    have hex:(Av s).ex ((Av s).pv i)=(Av s).en ((Av s).pv i) ++ (if i=0 then [2 * A s] else []):=by
     show (Av s).en ((Av s).pv i) ++ (if true=true/\(Av s).pv i + 1=n s then [2 * A s] else [])=_
     congr 1;have e:(Av s).pv i=if i=0 then n s - 1 else i - 1:=rfl
     by_cases h0:i=0
     ·rw [if_pos h0,if_pos ⟨rfl,by rw [e,if_pos h0];omega⟩]
     ·rw [if_neg h0,if_neg λhh=>by have:=hh.2;rw [e,if_neg h0] at this;omega]
    rw [hex];by_cases h0:i=0
    ·subst h0;rw [show (((0:Nat):Int) == 0)=true from rfl,af,Ar ay,ab,if_pos rfl,MF,NY];rfl
    ·rw [show ((i:Int) == 0)=false by rw [beq_eq_false_iff_ne];omega,ae,if_neg h0,M4];rfl
   have hlast:((i:Int) == (wr ((s.Steps.length:Int) - 1)))=decide (i + 1=n s):=by
    show ((i:Int) == wr (((n s:Nat):Int) - 1))=_;rw [Aq aa aa,NB];simp;omega
   rw [Tq];dsimp only;rw [AT hi,af,hlast,hns,Aq (x:=(i:Int) + (n s:Int)) aa aa,Aq (x:=(i:Int) + (n s:Int) - 1) aa aa,show (i:Int) + (n s:Int) - 1=((i + n s - 1:Nat):Int) by omega,Uv aa,ab,pvC h2 hi,Ak,Qf hp,ab,Ax,ab,Mt h hp,ab,Ar ay,ab,hon,ab,EV aa,ab,Be,ab,An aa,Uv aa,ab,nxC h2 hi,Ak,Qf hx,ab,Ax,ab,Ar ay,ab];rfl) (λm acc=>by
   rw [Tq];dsimp only;rw [AS,ae])
  rw [this,Ok];rfl
theorem EY (h:Sq4 s):ib FF (Nj s) (az (bq s))=some (((List.range (n s)).filter (W s)).map (jZ aK s)):=by
 have hn:=h.n;unfold ib;have:=Zd (L:=Kb FF (Nj s) (az (bq s))) (N:=n s) (f:=λk=>if W s k=true then [jZ aK s k] else []) (acc0:=[]) aa (λi _=>by split <;> simp) ah (λm i acc hi ha=>by
  have hS:=Um h hi;rw [Kb];dsimp only;rw [show decide ((i:Int) < ((Nj s).Timers.length:Int))=true from iI hi,af];simp only [ek,eh];rw [Ak,Zh hi,ab];by_cases hw:W s i=true
  ·rw [if_pos hw,if_pos hw,ar aa,af,Ak,Qf hi,ab,Ax,ab];rw [Ak,Bo hi,ab,Kt h hi,ab,Ar (by simp at hS ⊢;omega),ab,(Ph (k:=i) aa).2.1,ab,show [lnx ((Av s).L (.gl i))] ++ ((S s i).map CasD.sw).map lnx=((Av s).L (.gl i) :: (S s i).map CasD.sw).map lnx from rfl,Be,ab,ab,Ar ay,ab,ab,An aa];rfl
  ·rw [if_neg hw,if_neg hw,aq aa,ae,ab,An aa,M4]) (λm acc=>by
  rw [Kb];dsimp only;rw [show decide (((n s:Nat):Int) < ((Nj s).Timers.length:Int))=false from iH,ae])
 rw [this,G5];rfl
theorem Xa (h:Sq4 s) {a k:Nat} {o:Bool} (hk:k < n s) (z1:Int×List Ae) (hz1:z1.1=(a:Int)) (z7:Int×List Expr) (hz7:z7.1=(k:Int)) {acc:List Expr} (ha:acc.length<=10000) :
  Gf FF (Nj s) (az (bq s)) z1 o z7 FF ((0:Int),acc)=some (((aB s k).Strokes.length:Int),acc ++ if decide ((a,o)∈S s k)=true then [lnx ((Av s).L (.sg k))] else []):=by
 have hS:=h.st k hk;have h6:=hS.le;have:=Zd (L:=Gf FF (Nj s) (az (bq s)) z1 o z7) (N:=(aB s k).Strokes.length) (f:=λi=>if (((aB s k).Strokes.getD i default).Actuator == (a:Int) && (((aB s k).Strokes.getD i default).Out == o))=true then [lnx ((Av s).L (.sg k))] else []) (acc0:=acc) aa (λi _=>by split <;> simp) aa (λm i acc hi ha=>by
  have hx:=ak hi;have hd:(aB s k).Strokes.getD i default=(aB s k).Strokes[i]:=by rw [LV,hx];rfl
  rw [Gf];dsimp only;simp only [ek,eh];rw [hz7,hz1,Ak,Bo hk,ab,Am,ar hi,af,ab,Ak,hx,ab,hd];unfold KG;dsimp only;rw [ON];cases ((aB s k).Strokes[i].Actuator == (a:Int)) && ((aB s k).Strokes[i].Out == o) with
  | true=>rw [af,if_pos rfl,Ak,H0 hk,ab,Ax,ab,Ar ay,ab,ab,An aa]
  | false=>rw [ae,if_neg (by decide),ab,An aa,M4]) (λm acc=>by
  rw [Gf];dsimp only;simp only [ek,eh];rw [hz7,Ak,Bo hk,ab,Am,aq aa,ae])
 rw [this];congr 3;have hget:∀ i,i < (aB s k).Strokes.length->(aB s k).Strokes[i]?=some ((aB s k).Strokes.getD i default):=λi hi=>by
  rw [LV,ak hi];rfl
 rw [AM (λi j hi hj h1 h2=>by
  rw [L1,beq_iff_eq] at h1 h2;rcases OW i j with e | e | e
  ·have:=hS.asc e (hget i hi) (hget j hj);omega
  ·exact e
  ·have:=hS.asc e (hget j hj) (hget i hi);omega)]
 congr 1;rw [eq_iff_iff,MD,decide_eq_true_iff];constructor
 ·rintro ⟨i,hi,hp⟩;have hi:=L4.1 hi;rw [L1,beq_iff_eq,beq_iff_eq] at hp;exact MJ.2 ⟨_,L8 (hget i hi),by rw [hp.1,hp.2];rfl⟩
 ·intro hm;let ⟨y,hy,he⟩:=MJ.1 hm;let ⟨he1,he2⟩:=Prod.mk.inj he;let ⟨i,hi⟩:=NH hy;have hil:=(LU.1 hi).1;have hac:=hS.ac y hy;refine ⟨i,L4.2 hil,?_⟩;have:=(hget i hil).symm.trans hi;rw [Option.some.inj this,L1,beq_iff_eq,beq_iff_eq];exact ⟨by omega,he2⟩
theorem Xb (h:Sq4 s) {a:Nat} {o:Bool} (z1:Int×List Ae) (hz1:z1.1=(a:Int)):Gg FF (Nj s) (az (bq s)) z1 o FF ((0:Int),[])=some ((n s:Int),(((Av s).at_ a o).map λk=>(Av s).L (.sg k)).map lnx):=by
 have hn:=h.n;have:=Zd (L:=Gg FF (Nj s) (az (bq s)) z1 o) (N:=n s) (f:=λk=>if decide ((a,o)∈S s k)=true then [lnx ((Av s).L (.sg k))] else []) (acc0:=[]) aa (λi _=>by split <;> simp) ah (λm i acc hi ha=>by
  rw [Gg];dsimp only;rw [show decide ((i:Int) < ((Nj s).S.Steps.length:Int))=true from AT hi,af];have hl:acc.length<=6400:=by have:=ha.2;simp at this;omega
  rw [Xa h hi z1 hz1 _ rfl aa,ab,An aa]) (λm acc=>by
  rw [Gg];dsimp only;rw [show decide (((n s:Nat):Int) < ((Nj s).S.Steps.length:Int))=false from AS,ae])
 rw [this,G5];unfold CasD.at_;rw [O3];rfl
theorem Xc (h:Sq4 s) {a:Nat} (ha:a < A s) (z1:Int×List Ae) (hz1:z1.1=(a:Int)) {acc:List Ae} (hl:acc.length<=10000):Bq FF (Nj s) (az (bq s)) z1 FF ((0:Int),acc)=some (2,acc ++ [cr aK s true a,cr aK s false a]):=by (have hA:=h.A6;have key:∀ (m:Nat) (i:Nat) (o:Bool) (acc:List Ae),i < 2->([true,false]:QQ)[i]?=some o->acc.length<=20000->Bq FF (Nj s) (az (bq s)) z1 (m + 1) ((i:Int),acc)=Bq FF (Nj s) (az (bq s)) z1 m (((i + 1:Nat):Int),acc ++ [cr aK s o a]):=λm i o acc hi ho hl=>by (let ⟨x,hx,hx2⟩:=CW (show a < 6 by omega) o;rw [Bq];dsimp only;rw [show decide ((i:Int) < (([true,false]:QQ).length:Int))=true from ar (by show (i:Int) < 2;omega),af,Ak,ho,ab,Xb h z1 hz1,ab,hz1,hx,ab];have e:(bif o then (cz x (⟨#[112]⟩:QT)).bind λx22=>some x22 else (cz x (⟨#[109]⟩:QT)).bind λx23=>some x23)=some (aA (.pl a o)):=by cases o;rw [ae] at hx2 ⊢;rw [hx2];rfl;rw [af] at hx2 ⊢;rw [hx2];rfl);rw [e,ab,Be,ab,Ar ay,ab,An aa];rfl);have k1:=key 99999 0 true acc aa rfl aa;have k2:=key 99998 1 false (acc ++ [cr aK s true a]) aa rfl ay;show Bq FF (Nj s) (az (bq s)) z1 (99999 + 1) (((0:Nat):Int),acc)=_;rw [k1];show Bq FF (Nj s) (az (bq s)) z1 (99998 + 1) (((1:Nat):Int),acc ++ [cr aK s true a])=_;rw [k2];show Bq FF (Nj s) (az (bq s)) z1 (99997 + 1) ((2:Int),acc ++ [cr aK s true a] ++ [cr aK s false a])=_;rw [Bq];dsimp only;rw [show decide ((2:Int) < (([true,false]:QQ).length:Int))=false from rfl,ae,MP];rfl
theorem ET (h:Sq4 s):ia FF (Nj s) (az (bq s))=some ((List.range (A s)).flatMap λa=>[cr aK s true a,cr aK s false a]):=by
 have hA:=h.A6;unfold ia;have:=Zd (L:=Ka FF (Nj s) (az (bq s))) (N:=A s) (f:=λa=>[cr aK s true a,cr aK s false a]) (acc0:=[]) aa (λ_ _=>by simp) ah (λm i acc hi ha=>by
  have hl:acc.length<=600:=by have:=ha.2;simp at this;omega
  rw [Ka];dsimp only;rw [show decide ((i:Int) < (Nj s).S.Actuators)=true from ar (by show (i:Int) < s.Actuators;rw [h.Ac];omega),af,Xc h hi _ rfl aa,ab,An aa]) (λm acc=>by
  rw [Ka];dsimp only;rw [show decide (((A s:Nat):Int) < (Nj s).S.Actuators)=false from aq (by show ¬ ((A s:Nat):Int) < s.Actuators;rw [h.Ac];omega),ae])
 rw [this];rfl
theorem ER (h:Sq4 s):Sz FF s.Actuators [⟨#[115,116,97,114,116]⟩] (Dt aK s)=some (aU s,[⟨#[115,116,97,114,116]⟩],Dt aK s):=by
 have hA:=h.A6;have hG:=h.G64;have hn:=h.n;have hc:=Hr (s:=s) (k:=n s);have hl:=Ei (N:=aK) (s:=s);unfold Sz;have h92:VM FF (⟨s.Actuators,[⟨#[115,116,97,114,116]⟩],Dt aK s,[],[]⟩:Aa)=some ((2 * A s + 1 + (n s + au s (n s) + 2 * A s):Nat):Int):=by
  unfold VM;dsimp only;rw [hl,h.Ac];show some (wr (wr (wr (2 * ((A s:Nat):Int)) + 1) + _))=_;rw [Aq (x:=2 * ((A s:Nat):Int)) aa aa,Aq (x:=2 * ((A s:Nat):Int) + 1) aa aa,Aq aa aa];congr 1
 rw [h92,ab];obtain ⟨v,hv,hh⟩:=Lj (L:=Ci s.Actuators ((2 * A s + 1 + (n s + au s (n s) + 2 * A s):Nat):Int)) (mk:=λi (v:QP×QP)=>((i:Int),v.1,v.2)) (N:=A s) (I:=λi v=>v=((List.range i).map (λa=>(((Av s).L (.pl a true):Nat):Int)),(List.range i).map (λa=>(((Av s).L (.pl a false):Nat):Int)))) (λm i v hi hI=>by
  subst hI;rw [Ci];dsimp only;rw [show decide ((i:Int) < s.Actuators)=true from ar (by rw [h.Ac];omega),af,h.Ac,Aq (x:=2 * ((A s:Nat):Int)) aa aa,Aq (x:=2 * (i:Int)) aa aa,Aq (x:=((2 * A s + 1 + (n s + au s (n s) + 2 * A s):Nat):Int) - 2 * ((A s:Nat):Int)) aa aa,Aq (x:=((2 * A s + 1 + (n s + au s (n s) + 2 * A s):Nat):Int) - 2 * ((A s:Nat):Int) + 2 * (i:Int)) aa aa,Aq aa aa,Ar ay,ab,Ar ay,ab,An aa];refine ⟨((List.range i).map (λa=>(((Av s).L (.pl a true):Nat):Int)) ++ [((2 * A s + 1 + (n s + au s (n s) + 2 * A s):Nat):Int) - 2 * ((A s:Nat):Int) + 2 * (i:Int)],(List.range i).map (λa=>(((Av s).L (.pl a false):Nat):Int)) ++ [((2 * A s + 1 + (n s + au s (n s) + 2 * A s):Nat):Int) - 2 * ((A s:Nat):Int) + 2 * (i:Int) + 1]),?_,rfl⟩;rw [NP,NY,NY];have e1:(((Av s).L (.pl i true):Nat):Int)=((2 * A s + 1 + (n s + au s (n s) + 2 * A s):Nat):Int) - 2 * ((A s:Nat):Int) + 2 * (i:Int):=by
   rw [HR];show ((2 * A s + 1 + (n s + au s (n s) + 2 * i + (if true=true then 0 else 1)):Nat):Int)=_
   rw [if_pos rfl];omega
  have e2:(((Av s).L (.pl i false):Nat):Int)=((2 * A s + 1 + (n s + au s (n s) + 2 * A s):Nat):Int) - 2 * ((A s:Nat):Int) + 2 * (i:Int) + 1:=by
   rw [HR];show ((2 * A s + 1 + (n s + au s (n s) + 2 * i + (if false=true then 0 else 1)):Nat):Int)=_
   rw [if_neg (by decide)];omega
  simp only [MF,M6];rw [e1,e2]) (λm v _=>by
  rw [Ci];dsimp only;rw [show decide (((A s:Nat):Int) < s.Actuators)=false from aq (by rw [h.Ac];omega),ae]) FF 0 ([],[]) aa uF rfl
 try dsimp only at hh
 rw [n0] at hh;rw [hh,hv];rfl
theorem J3 (h:Sq4 s):mt FF s=some (aU s):=by
 have hA:=h.A6;have hn:=h.n;have hc:=Hr (s:=s) (k:=n s);have hT:(((List.range (n s)).filter (W s)).map (jZ aK s)).length=au s (n s):=by rw [L9];rfl
 have hP:((List.range (A s)).flatMap λa=>[cr aK s true a,cr aK s false a]).length=2 * A s:=Eb;have hGl:=Hs (N:=aK) (s:=s);unfold mt;rw [Vh h,ab,JS h,ab,Vn h,ab,EY h,ab,Ar aa,ab,ab,ET h,ab,Ar (by rw [LW];omega),ab,MP];show (Sz FF s.Actuators [⟨#[115,116,97,114,116]⟩] (Dt aK s)).bind _=_;rw [ER h];rfl
end
section
open Csc
variable {s:Ai}
structure p9 (s:Ai):Prop extends Sq4 s where
 sgc:(Dt aK s).length<=64
abbrev mK:QT:=⟨#[115,116,97,114,116]⟩
def Zb:List QT:=(List.range 12).map fx ++ ([⟨#[115,116,97,114,116]⟩] ++ ((List.range 64).map (bv 109) ++ ((List.range 64).map (bv 119) ++ (List.range 6).flatMap λa=>[aA (.pl a true),aA (.pl a false)])))
theorem JG:Zb.length=153:=by kernel_rfl
theorem JF:Zb.all (λx=>wd x && decide (x.size<=24))=true:=by kernel_rfl
theorem EJ:((List.range 153).all λi=>(List.range i).all λj=>!((Zb.getD j ⟨#[]⟩).data.toList == (Zb.getD i ⟨#[]⟩).data.toList))=true:=by kernel_rfl
def Pc (x:Sg):Nat:=match x with
 | .gl j=>13 + j
 | .tm k=>77 + k
 | .sg k=>300 + k
 | .pl a o=>141 + 2 * a + (if o=true then 0 else 1)
theorem fQ {i:Nat} (h:i < 12):Zb[i]?=some (fx i):=by unfold Zb;rw [L2 (by simpa using h),L7,ME h];rfl
def jc (A n:Nat) (x:Sg):Prop:=match x with
 | .gl j=>j < n
 | .tm k=>k < n
 | .sg _=>False
 | .pl a _=>a < A
theorem fP {x:Sg} {A n:Nat} (hA:A<=6) (hn:n<=64) (hx:jc A n x):Zb[Pc x]?=some (aK x):=by
 unfold Zb;cases x with
 | gl j=>
  have hj:j < n:=hx;rw [LX (by simp [Pc];omega),LX (by simp [Pc];omega),L2 (by simp [Pc];omega),L7,ME (by simp [Pc];omega)];simp only [Pc,L9,MS,NJ,N6,Option.map_some];congr 2;omega
 | tm k=>
  have hk:k < n:=hx;rw [LX (by simp [Pc];omega),LX (by simp [Pc];omega),LX (by simp [Pc];omega),L2 (by simp [Pc];omega),L7,ME (by simp [Pc];omega)];simp only [Pc,L9,MS,NJ,N6,Option.map_some];congr 2;omega
 | sg k=>exact hx.elim
 | pl a o=>
  have ha:a < A:=hx;let ⟨h1,h2⟩:=Ha (f:=λa=>aA (.pl a true)) (h:=λa=>aA (.pl a false)) (n:=6) (a:=a) aa;rw [LX (by simp [Pc];omega),LX (by simp [Pc];omega),LX (by simp [Pc];omega),LX (by simp [Pc];omega)];simp only [Pc,L9,MS,NJ,N6];cases o with
  | true=>rw [if_pos rfl,show 141 + 2 * a + 0 - 12 - (0 + 1) - 64 - 64=2 * a by omega];exact h1
  | false=>rw [if_neg (by decide),show 141 + 2 * a + 1 - 12 - (0 + 1) - 64 - 64=2 * a + 1 by omega];exact h2
theorem JJ {x y:Sg} {A n:Nat} (hA:A<=6) (hn:n<=64) (hx:jc A n x) (hy:jc A n y) (h:Pc x=Pc y):x=y:=by
 cases x <;> cases y <;> simp only [Pc] at h <;> simp only [jc] at hx hy
 case gl.gl=>congr 1;omega
 case tm.tm=>congr 1;omega
 case pl.pl a o b p=>
  cases o <;> cases p <;> simp at h
  ·congr 1;omega
  ·omega
  ·omega
  ·congr 1;omega
 all_goals first | omega | (split at h <;> omega)
theorem kv (h:Sq4 s) {i:Nat} (hi:i < (Dt aK s).length):∃ x,jc (A s) (n s) x/\(Av s).ok x/\kL s x=i:=by
 let ⟨x,hx,he,hs⟩:=(h.q.casC (N:=aK) (i:=mK)).sur i hi;cases x with
 | gl j=>exact ⟨.gl j,hx,hx,he⟩
 | tm k=>exact ⟨.tm k,hx.1,hx,he⟩
 | sg k=>cases hs k rfl
 | pl a o=>exact ⟨.pl a o,hx,hx,he⟩
theorem jf (h:Sq4 s) {x:Sg} (hx:(Av s).ok x) (hs:jc (A s) (n s) x):((Dt aK s)[kL s x]?).map (·.Name)=some (aK x):=by
 have h2:=h.q.n2;cases x with
 | gl j=>
  have hj:j < n s:=hx;by_cases e:n s=2
  ·rcases (show j=0\/j=1 by omega) with rfl | rfl
   ·show ((Dt aK s)[if n s=2 then 1 - 0 else 0]?).map _=_
    rw [if_pos e,Fy aa];unfold sgC;rw [if_pos e];rfl
   ·show ((Dt aK s)[if n s=2 then 1 - 1 else 1]?).map _=_
    rw [if_pos e,Fy aa];unfold sgC;rw [if_pos e];rfl
  ·show ((Dt aK s)[if n s=2 then 1 - j else j]?).map _=_
   rw [if_neg e,Fy hj];unfold sgC;rw [if_neg e,L7,ME hj];rfl
 | tm k=>show ((Dt aK s)[n s + au s k]?).map _=_;rw [A4 hx.1 hx.2];rfl
 | sg k=>exact hs.elim
 | pl a o=>show ((Dt aK s)[n s + au s (n s) + 2 * a + (if o=true then 0 else 1)]?).map _=_;rw [DY hx];rfl
theorem EK (h:Sq4 s) {i:Nat} (hi:i < cL (aU s)):∃ p,Zb[p]?=some (aO (aU s) i)/\((i < 2 * A s/\p=i)\/(i=2 * A s/\p=12)\/∃ x,jc (A s) (n s) x/\i=2 * A s + 1 + kL s x/\p=Pc x):=by have hA:=h.A6;have hcS:cS (aU s)=2 * A s + 1:=rfl;have hcL:cL (aU s)=cS (aU s) + (Dt aK s).length:=rfl;unfold aO;show ∃ p,Zb[p]?=some (if i < 2 * A s then fx i else if i < cS (aU s) then _ else _)/\_;by_cases h1:i < 2 * A s;rw [if_pos h1];exact ⟨i,fQ aa,.inl ⟨h1,rfl⟩⟩;rw [if_neg h1];by_cases h2:i < cS (aU s);(obtain rfl:i=2 * A s:=by omega);rw [if_pos h2];refine ⟨12,?_,.inr (.inl ⟨rfl,rfl⟩)⟩;show Zb[12]?=some (([⟨#[115,116,97,114,116]⟩]:List QT).getD (2 * A s - 2 * A s) _);rw [PB];unfold Zb;rw [LX ah];rfl;rw [if_neg h2];let ⟨x,ho,hx,he⟩:=kv h (i:=i - cS (aU s)) (by show _ < (Dt aK s).length;omega);refine ⟨Pc x,?_,.inr (.inr ⟨x,ho,by omega,rfl⟩)⟩;rw [fP hA h.n ho];show _=some ((((Dt aK s)[i - cS (aU s)]?).map (·.Name)).getD _);rw [← he,jf h hx ho];rfl
theorem Wu (h:Sq4 s) {i:Nat} (hi:i < cL (aU s)):bp (aU s) i=0:=by (have hA:=h.A6;have hn:=h.n;let ⟨p,hp,hpk⟩:=EK h hi;have hpl:=(LU.1 hp).1;have ok:=L5.1 JF _ (L8 hp);rw [L1,decide_eq_true_iff] at ok;unfold bp;rw [if_pos ok.1,if_neg aa];have:((List.range i).any λj=>(aO (aU s) j).data.toList == (aO (aU s) i).data.toList)=false:=by (rw [MT];intro j hj he;have hj:=L4.1 hj;let ⟨r,hr,hrk⟩:=EK h (show j < cL (aU s) by omega);have hrl:=(LU.1 hr).1;rw [JG] at hpl hrl;have hne:p≠r:=by (intro e;subst e;have b1:∀ x,13<=Pc x:=λx=>by cases x <;> simp only [Pc] <;> omega);(rcases hpk with ⟨a1,a2⟩ | ⟨a1,a2⟩ | ⟨x,a0,a1,a2⟩ <;> rcases hrk with ⟨c1,c2⟩ | ⟨c1,c2⟩ | ⟨y,c0,c1,c2⟩);omega;omega;have:=b1 y;omega;omega;omega;have:=b1 y;omega;have:=b1 x;omega;have:=b1 x;omega;have:=JJ hA hn a0 c0 (a2.symm.trans c2);subst this;omega);(have key:∀ a b,a < 153->b < a->((Zb.getD b ⟨#[]⟩).data.toList == (Zb.getD a ⟨#[]⟩).data.toList)=false:=λa b ha hb=>by have h1:=L5.1 EJ a (L4.2 ha);have h2:=L5.1 h1 b (L4.2 hb);simpa using h2);(have gp:Zb.getD p ⟨#[]⟩=aO (aU s) i:=by rw [LV,hp];rfl);(have gr:Zb.getD r ⟨#[]⟩=aO (aU s) j:=by rw [LV,hr];rfl);(rcases M7 r p with h5 | h5);have:=key p r hpl h5;rw [gp,gr,he] at this;cases this;have:=key r p hrl aa;rw [gp,gr,beq_iff_eq.1 he] at this;simp at this);rw [this,if_neg (by decide)]
def DH (s:Ai) (m:Nat):Prop:=m < 2 * A s + 1 + (n s + au s (n s))
theorem Ez {m:Nat} (h:DH s m):m < cL (aU s):=by have hl:=Ei (N:=aK) (s:=s);unfold DH at h;show m < 2 * A s + 1 + (Dt aK s).length;omega
theorem gq (h:Sq4 s) {k:Nat} (hk:k < n s):∀ m∈(Av s).en k,DH s m:=by intro m hm;unfold CasD.en at hm;split at hm;rename_i hw;obtain rfl:=MZ.1 hm;have h1:=(LU.1 (Bi (p:=W s) hk hw)).1;have:au s k < au s (n s):=h1;show 2 * A s + 1 + (n s + au s k) < _;omega;have:=HZ h hk m hm;unfold DH;omega
theorem AQ (h:Sq4 s) {k:Nat} (hk:k < n s):∀ m∈(Av s).ex k,DH s m:=by intro m hm;have hm:m∈(Av s).en k ++ (if true=true/\k + 1=n s then [2 * A s] else []):=hm;(rcases MC.1 hm with hm | hm);exact gq h hk m hm;split at hm;obtain rfl:=MZ.1 hm;unfold DH;omega;cases hm
theorem Na {j:Nat} (h2:2<=n s) (hj:j < n s):(Av s).L (.gl j) < 2 * A s + 1 + n s:=by show 2 * A s + 1 + (if n s=2 then 1 - j else j) < _;split <;> omega
theorem jH (h:Sq4 s) {k:Nat} (hk:k < n s):(Av s).en k≠[]:=by unfold CasD.en;split;simp;intro e;have:=O6.1 e;exact h.q.sq.ne k hk this
theorem LC (h:Sq4 s) {k:Nat} (hk:k < n s):(Av s).ex k≠[]:=by intro e;have e:(Av s).en k ++ (if true=true/\k + 1=n s then [2 * A s] else [])=[]:=e;exact jH h hk (List.append_eq_nil_iff.1 e).1
theorem D0 (h:Sq4 s) {i:Nat} (hi:i < (Dt aK s).length):bJ (aU s) i=0:=by
 have h2:=h.q.n2;have hcS:cS (aU s)=2 * A s + 1:=rfl;have hnm:bp (aU s) (cS (aU s) + i)=0:=Wu h (by show _ + i < _ + (Dt aK s).length;omega);let ⟨x,hs,hx,he⟩:=kv h hi;have hl:=Ei (N:=aK) (s:=s);cases x with
 | gl j=>
  have hj:j < n s:=hx;have he:(if n s=2 then 1 - j else j)=i:=he
  by_cases e:n s=2
  ·rw [if_pos e] at he;rcases (show j=0\/j=1 by omega) with rfl | rfl
   ·obtain rfl:i=1:=by omega
    have hg:(aU s).Signals[1]?=some ⟨aK (.gl 0),0,⟨2,0,[lnx ((Av s).L (.gl 1))]⟩,zxp,0,false⟩:=by
     show (Dt aK s)[1]?=_;rw [Fy aa];unfold sgC;rw [if_pos e];rfl
    refine Jp hg hnm (HD (Ez (by have:=Na (s:=s) (j:=1) h2 aa;unfold DH;omega))) λk hk=>?_;have:=EG hk;have h5:(Av s).L (.gl 1)=2 * A s + 1 + (if n s=2 then 1 - 1 else 1):=rfl
    rw [if_pos e] at h5;omega
   ·obtain rfl:i=0:=by omega
    have hg:(aU s).Signals[0]?=some ⟨aK (.gl 1),1,Cd 3 ((Av s).ex 0),Cd 3 ((Av s).ex 1),0,true⟩:=by
     show (Dt aK s)[0]?=_;rw [Fy aa];unfold sgC;rw [if_pos e];rfl
    exact Ut hg hnm (Db (.inl rfl) (LC h aa) λm hm=>Ez (AQ h aa m hm)) (Db (.inl rfl) (LC h aa) λm hm=>Ez (AQ h aa m hm))
  ·rw [if_neg e] at he;subst he;have hg:(aU s).Signals[j]?=some (qg s j):=by
    show (Dt aK s)[j]?=_;rw [Fy hj];unfold sgC;rw [if_neg e,L7,ME hj];rfl
   have hp:=ef (s:=s) hj;have hn:=hO (s:=s) hj;exact Ut hg hnm (Db (.inl rfl) ah λm hm=>by
    rcases MH.1 hm with rfl | hm
    ·exact Ez (by have:=Na h2 hp;unfold DH;omega)
    ·exact Ez (AQ h hp m hm)) (Ss (Ez (by have:=Na h2 hn;unfold DH;omega)))
 | tm k=>
  have hk:k < n s:=hx.1;have hw:W s k=true:=hx.2;have he:n s + au s k=i:=he;subst he;have hg:=A4 (N:=aK) hk hw;have hwt:=(h.st k hk).w;have:=Yw.1 hw;exact DZ hg hnm (Db (.inl rfl) ah λm hm=>by
   rcases MH.1 hm with rfl | hm
   ·exact Ez (by have:=Na h2 hk;unfold DH;omega)
   ·exact Ez (by have:=HZ h hk m hm;unfold DH;omega)) aa hwt.2
 | sg k=>exact hs.elim
 | pl a o=>
  have ha:a < A s:=hx;have he:n s + au s (n s) + 2 * a + (if o=true then 0 else 1)=i:=he
  have hg:=DY (N:=aK) (o:=o) ha;rw [he] at hg;have hlow:∀ m∈((Av s).at_ a o).map λk=>(Av s).L (.sg k),m < 2 * A s + 1 + n s:=λm hm=>by
   obtain ⟨k,hk,rfl⟩:=MJ.1 hm;unfold CasD.at_ at hk;have hk:k < n s:=L4.1 (NX.1 hk).1;exact Na h2 hk
  refine Jp hg hnm (Db (.inr rfl) (by
   intro e;exact iF h.q ha o (O6.1 e)) λm hm=>?_) λj hj=>?_
  ·have:=hlow m hm;show m < 2 * A s + 1 + (Dt aK s).length;omega
  ·let ⟨m,hm,hme⟩:=Zm (.inr rfl) hj;have:=hlow m hm;have:i>=n s + au s (n s):=by rw [← he];omega
   omega
theorem jz (h:Sq4 s):Fw (aU s):=by (have hn64:=h.n;have h2:=h.q.n2;have hnames:∀ x∈(Dt aK s),x.Name.size<=200/\Fla x.On/\Fla x.Off:=by (intro x hx;have hnb:∀ p k,(bv p k).size<=3:=λp k=>by unfold bv;split;show 2<=3;omega;show 3<=3;omega);(have hex:∀ k,k < n s->((Av s).ex k).length<=7:=λk hk=>by have:=Vy h hk;show ((Av s).en k ++ (if true=true/\k + 1=n s then [2 * A s] else [])).length<=7;rw [LW];split;simp;omega;simp;omega);(unfold Dt at hx;rcases MC.1 hx with hx | hx);unfold sgC at hx;split at hx;(rcases MH.1 hx with rfl | hx);have l0:=hex 0 aa;have l1:=hex 1 aa;exact ⟨by have:=hnb 109 1;show (bv 109 1).size<=200;omega,Fla.sev aa,Fla.sev aa⟩;obtain rfl:=MZ.1 hx;exact ⟨by have:=hnb 109 0;show (bv 109 0).size<=200;omega,Fla.not,Fla.zxp⟩;obtain ⟨j,hj,rfl⟩:=MJ.1 hx;have hj:=L4.1 hj;have l0:=hex _ (ef (s:=s) hj);exact ⟨by have:=hnb 109 j;show (bv 109 j).size<=200;omega,Fla.sev ay,Fla.lnx _⟩;(rcases MC.1 hx with hx | hx);obtain ⟨k,hk,rfl⟩:=MJ.1 hx;have hk:=L4.1 (NX.1 hk).1;have:=Um h hk;exact ⟨by have:=hnb 119 k;show (bv 119 k).size<=200;omega,Fla.sev (by simp at this ⊢;omega),Fla.zxp⟩;(let ⟨a,ha,hx⟩:=List.mem_flatMap.1 hx;have key:∀ o,(cr aK s o a).Name.size<=200/\Fla (cr aK s o a).On/\Fla (cr aK s o a).Off:=λo=>by refine ⟨by show (2:Nat)<=200;omega,Fla.sev ?_,Fla.zxp⟩;rw [L9];unfold CasD.at_;have:=OS (λk=>decide ((a,o)∈(Av s).S k)) (List.range (Av s).n);rw [MS] at this;have:(Av s).n=n s:=rfl;omega);(rcases MH.1 hx with rfl | hx);exact key true;obtain rfl:=MZ.1 hx;exact key false);exact ⟨λx hx=>by obtain rfl:=MZ.1 hx;decide,λx hx=>(hnames x hx).1,λx hx=>Wf (hnames x hx).2.1,λx hx=>Wf (hnames x hx).2.2⟩
theorem i8 (h:p9 s):Rc (aU s):=by
 have h4:=h.toSq4;have hw:=jz h4;have hsg:=h.sgc;have ha:=h4.Ac;obtain ⟨e,e1,e2,e3,e4⟩:=CM hw;have hb:Bd_ (aU s):=⟨h.q.a0,h.q.a6,by show 1<=16;omega,hsg⟩;have hl:=Ei (N:=aK) (s:=s);have hp:∀ l∈(aU s).Plus ++ (aU s).Minus,aV (cL (aU s)) l=false:=λl hl'=>by
  have:∃ a o,a < A s/\l=(((Av s).L (.pl a o):Nat):Int):=by
   rcases MC.1 hl' with h | h <;> obtain ⟨a,ha,rfl⟩:=MJ.1 h
   ·exact ⟨a,true,L4.1 ha,rfl⟩
   ·exact ⟨a,false,L4.1 ha,rfl⟩
  obtain ⟨a,o,ha,rfl⟩:=this;have:(Av s).L (.pl a o) < cL (aU s):=by
   show 2 * A s + 1 + (n s + au s (n s) + 2 * a + (if o=true then 0 else 1)) < 2 * A s + 1 + (Dt aK s).length
   split <;> omega
  unfold aV;rw [NZ,decide_eq_false_iff_not,decide_eq_false_iff_not];omega
 have h0:e=0:=e4 hb (λi hi=>Wu h4 (by
  have hi:i < 1:=hi;show 2 * A s + i < 2 * A s + 1 + (Dt aK s).length;omega)) (λi hi=>D0 h4 hi) (by
  unfold eg;have l1:(aU s).Plus.length=A s:=by show ((List.range (A s)).map _).length=_;rw [L9,MS]
  have l2:(aU s).Minus.length=A s:=by show ((List.range (A s)).map _).length=_;rw [L9,MS]
  rw [if_neg (by rw [l1,l2];show ¬ (((A s:Nat):Int)≠s.Actuators\/((A s:Nat):Int)≠s.Actuators);omega),if_neg (by
   intro hh;obtain ⟨l,hl,hb⟩:=MD.1 hh;rw [hp l hl] at hb;cases hb)])
 subst h0;exact ⟨e3 rfl,hw,e1,e2⟩
end
section
open Csc
theorem DL {c:Aa} {most:Nat} {s:Ad} {P:Ad->Prop}:∀ (l:List Af) (S:List Ad) (mv:QP),(∀ x∈l,(ai c s x).2=0/\P (ai c s x).1)->(∀ t∈S,P t)->S.length<=most ->
  Lm c most s l S mv=.inl 12\/∃ r,Lm c most s l S mv=.inr r/\(∀ t∈r.1,P t)/\r.1.length<=most
 | [],S,mv,_,h2,h3=>.inr ⟨_,rfl,h2,h3⟩
 | x :: l,S,mv,h1,h2,h3=>by
  let ⟨a0,aP⟩:=h1 x ah;unfold Lm;rw [if_pos a0];by_cases hp:cX S (ai c s x).1 < 0
  ·rw [if_pos hp];by_cases hm:S.length=most
   ·rw [if_pos hm];exact .inl rfl
   ·rw [if_neg hm];refine DL l _ _ (λy hy=>h1 y (by simp [hy])) (λt ht=>?_) (by rw [LW];simp;omega);rcases MC.1 ht with ht | ht
    ·exact h2 t ht
    ·obtain rfl:t=(ai c s x).1:=by simpa using ht
     exact aP
  ·rw [if_neg hp];exact DL l _ _ (λy hy=>h1 y (by simp [hy])) h2 h3
theorem KW {c:Aa} {most:Nat} {P:Ad->Prop} (hcl:∀ t,P t->∀ x∈Pn.pend t,(ai c t x).2=0/\P (ai c t x).1):∀ (n i:Nat) (S:List Ad) (M:List QP),(∀ t∈S,P t)->S.length<=most->most + 1 < n + i->i<=most + 1 ->
  Wg c most n i S M=.inl 12\/∃ sp,Wg c most n i S M=.inr sp/\∀ t∈sp.States,P t
 | 0,i,S,M,_,_,h3,h4=>by omega
 | n + 1,i,S,M,h1,h2,h3,h4=>by
  unfold Wg;cases hs:S[i]? with
  | none=>exact .inr ⟨_,rfl,h1⟩
  | some s=>
   have hi:=(LU.1 hs).1;dsimp only;rcases DL (c:=c) (s:=s) (Pn.pend s) S [] (hcl s (h1 s (L8 hs))) h1 h2 with e | ⟨r,e,r1,r2⟩
   ·rw [e];exact .inl rfl
   ·rw [e];exact KW hcl n (i + 1) r.1 _ r1 r2 aa aa
theorem EB {c:Aa} {q:CasD} {u0 u1:Ad} (hc':Rc c) (hc:CasP c q) (hs:SqP q) (hp:lI q) (hr:rst c 65 (gates c (ini c))=some u0) (hn0:∀ y,¬ rstP c 65 (gates c (ini c)) y) (ha:ai c u0 ⟨2,0,true⟩=(u1,0)) (hn1:∀ y,¬ cH c u0 ⟨2,0,true⟩ y) (h1:LS c q u1)
  {lines:QP} (hl:lines.length<=256) (hL:∀ x∈lines,∃ j,j < q.G/\q.L (.gl j) < cL c/\x=((q.L (.gl j):Nat):Int)) (hcS:2 * cA c + c.Inputs.length=2 * q.A + 1) (hfew:ig FF c [true]=some true) :
  dS FF c [true] lines=some (true,[],0)/\ew FF c [true]=some (⟨[],[]⟩,false,0):=by
 have hbd:=hc'.rt.bd;have hi1:c.Inputs.length=1:=hc.i;let ⟨b,hb,hfw⟩:=BX c [true];rw [hfew] at hb;obtain rfl:=Option.some.inj hb;let ⟨hw,hs16,_,hx⟩:=hfw rfl;have hhl:([true]:QQ).length=c.Inputs.length:=by rw [hi1];rfl
 let ⟨f0,f2,f3⟩:=Wl (Da (Jj hc'.rt)) hr
 -- the beginning
 have hbg:Fn c [true]=(u1,0):=by
  have hin:u0.Inputs[0]?=some false:=by
   rw [f2];show (List.replicate c.Inputs.length false)[0]?=some false;rw [OB,if_pos aa]
  have hact:bB u0 ⟨2,0,true⟩=some { u0 with Inputs:=u0.Inputs.set 0 true }:=by
   unfold bB;dsimp only;rw [if_neg aa,if_neg aa,← n0,Ak,hin];rfl
  have haf:ai c u0 ⟨2,0,true⟩=match rst c 65 { u0 with Inputs:=u0.Inputs.set 0 true } with | none=>(z0,21) | some t=>(t,0):=by
   unfold ai;rw [if_neg ah,hact]
   all_goals (dsimp only; cases rst c 65 { u0 with Inputs:=u0.Inputs.set 0 true } <;> rfl)
  rw [haf] at ha;unfold Fn;rw [hr];dsimp only;unfold iD;rw [if_pos rfl];cases hr1:rst c 65 { u0 with Inputs:=u0.Inputs.set 0 true } with
  | none=>rw [hr1] at ha;cases congrArg Prod.snd ha
  | some t=>
   rw [hr1] at ha;have:t=u1:=congrArg Prod.fst ha;subst this;rfl
 have h0:(Fn c [true]).2=0:=by rw [hbg]
 let ⟨k1,mv1,t1,r1⟩:=h1;have hf1:Fit c (Fn c [true]).1:=by rw [hbg];exact r1.at_.b.fit
 have hq1:Qt c (Fn c [true]).1:=by rw [hbg];exact r1.at_.qt hc
 have hm70:eZ FF c [true]=some (Fn c [true]):=by
  rcases CR hw hs16 [true] with ⟨_,_,_,_,h4⟩ | ⟨_,_,h,_,_⟩
  ·exact absurd hhl (h4 hc')
  ·exact h
 -- the space
 have hne:=hx hc' hhl h0;have hall:=KW (c:=c) (most:=120) (P:=LS c q) (λt ht x hx=>by
  let ⟨a1,_,a2⟩:=ht.clo hc hs hp x hx;exact ⟨a1,a2⟩) FF 0 [(Fn c [true]).1] [] (λt ht=>by
   obtain rfl:t=(Fn c [true]).1:=by simpa using ht
   rw [hbg];exact ⟨_,_,_,r1⟩) ah uF aa
 have hexp:∃ sp,eD c [true] 120=.inr sp/\∀ t∈sp.States,LS c q t:=by
  rcases hall with e | e
  ·exact absurd e hne
  ·exact e
 let ⟨sp,hsp,hst⟩:=hexp;have hS:=gh hbd hf1 hq1 hsp;have h25:=gf hc' hm70 h0 hf1 hq1 (DM (show 120<=16384 by omega) FF 0 [(Fn c [true]).1] [] ah hsp).1;have h40:=BT hc';rw [hr] at h40;let ⟨l,h40,_,hl40⟩:=h40;obtain rfl:=hl40.eq (Cs.nil hn0);have hbir:=gK hc' h40 f0 f3 ha hn1;refine ⟨lj hc' hS hm70 h0 h25 hl (λx hx=>?_) λt ht=>?_,jC hc' hS h25 hbir λt ht x hx=>((hst t ht).clo hc hs hp x hx).2.1⟩
 ·obtain ⟨j,_,hj,rfl⟩:=hL x hx;unfold aV;rw [NZ,decide_eq_false_iff_not,decide_eq_false_iff_not];omega
 ·rintro ⟨x,hx,y,hy,hne,v1,v2⟩;obtain ⟨i,hi,_,rfl⟩:=hL x hx;obtain ⟨j,hj,_,rfl⟩:=hL y hy;let ⟨k,mv,t',r⟩:=hst t ht;have hgk:=r.at_.g;have hv:∀ j,j < q.G->vl t (((q.L (.gl j):Nat):Int)).toNat=(j == q.g k):=λj hj=>by
   have e:vl t (((q.L (.gl j):Nat):Int)).toNat=lv t (cS c + q.no (.gl j)):=by
    unfold vl lv;rw [M3];have:q.L (.gl j)=cS c + q.no (.gl j):=by
     show 2 * q.A + 1 + q.no (.gl j)=2 * cA c + c.Inputs.length + q.no (.gl j);omega
    rw [this]
   rw [e,io r.at_.b.fit,hgk.gl j hj];rfl
  rw [hv i hi,beq_iff_eq] at v1;rw [hv j hj,beq_iff_eq] at v2;subst v1;subst v2;exact hne rfl
variable {s:Ai}
theorem p8:mw FF=some true:=by kernel_rfl
theorem li (s:Ai):∃ b,kU FF s=some b:=by
 unfold kU;by_cases h:s.Steps.length > 128
 ·rw [ar (by omega:(s.Steps.length:Int) > 128),af];exact ⟨_,rfl⟩
 ·rw [aq (by omega:¬ (s.Steps.length:Int) > 128),ae];have h1:=Lp (L:=Ua s) (N:=s.Steps.length) (Q:=λi=>match s.Steps[i]? with | some x=>decide ((x.Strokes.length:Int) > 40) | none=>false) (r:=λ_=>false) (λn i hi=>by
   rw [Ua,Am,ar hi,af,Ak,ak hi,ab,An aa]) (λn=>by
   rw [Ua,Am,aq aa,ae]) FF 0 aa uF
  rw [n0] at h1;rcases h1 with ⟨_,_,_,_,h1⟩ | ⟨h1,_⟩ <;> rw [h1] <;> exact ⟨_,rfl⟩
theorem pR (s:Ai) (h10:ju FF s=some 0):∃ b,m9 FF s=some b/\(b=true->n s<=10/\s.Actuators<=4):=by
 let ⟨b,hb⟩:=li s;unfold m9;rw [hb,ab];cases b with
 | false=>exact ⟨false,rfl,λh=>by cases h⟩
 | true=>
  rw [af];by_cases hx:(decide ((s.Steps.length:Int)<=(10:Int)) && decide (s.Actuators<=(4:Int)))=true
  ·rw [hx,af];refine ⟨true,rfl,λ_=>?_⟩;rw [L1,decide_eq_true_iff,decide_eq_true_iff] at hx;exact ⟨by unfold n;omega,hx.2⟩
  ·rw [show (decide ((s.Steps.length:Int)<=(10:Int)) && decide (s.Actuators<=(4:Int)))=false by simpa using hx,ae,h10];exact ⟨false,rfl,λh=>by cases h⟩
theorem lh (s:Ai):∃ b,m9 FF s=some b:=by
 let ⟨b,hb⟩:=li s;let ⟨e,he,_⟩:=B3 s;unfold m9;rw [hb,ab];cases b with
 | false=>exact ⟨false,rfl⟩
 | true=>
  rw [af];cases (decide ((s.Steps.length:Int)<=(10:Int)) && decide (s.Actuators<=(4:Int))) with
  | true=>exact ⟨true,rfl⟩
  | false=>rw [ae,he];exact ⟨_,rfl⟩
theorem iM (h:Sq4 s) (hn:n s<=10) (hA:A s<=4):jU s:=⟨h,by
 have h1:=h.G64;have h2:=Hr (s:=s) (k:=n s);rw [Fx];omega⟩
theorem iL (h:Sq4 s) (hn:n s<=10) (hA:A s<=4):p9 s:=⟨h,by
 have h2:=Hr (s:=s) (k:=n s);rw [Ei];omega⟩
theorem H7 (h:jU s) (hfew:ig FF (aW s) [true]=some true):dS FF (aW s) [true] (az (cG s))=some (true,[],0)/\ew FF (aW s) [true]=some (⟨[],[]⟩,false,0):=by have h4:=h.toSq4;have hG:=h4.G64;have hn:=h4.n;have hc':=i7 h;have hc:=h.q.cas (N:=aA) (i:=⟨#[115,116,97,114,116]⟩);have hs:=h.q.sq;have hb:=(h.q.ini (N:=aA) (i:=⟨#[115,116,97,114,116]⟩) (Jj hc'.rt)).gates hc;have hR:=Oy hc hs;have hchf:(an s).ch=false:=rfl;rw [eB hchf,eN hchf] at hR;let ⟨u,g1,g2,g3⟩:=J6 hc hs hb (by rw [eB hchf,eN hchf];exact .fix hR.fM hR.fT hR.fn) aa;let ⟨v,a1,a2,a3⟩:=CG hc hs g2;refine EB hc' hc hs Sqc.tmp g1 g3 a1 a2 ⟨_,_,_,a3⟩ ?_ (λx hx=>?_) rfl hfew;unfold az cG;rw [L9,L9,MS];omega;unfold az cG at hx;rw [O3] at hx;obtain ⟨j,hj,rfl⟩:=MJ.1 hx;have hj:j < G s:=L4.1 hj;exact ⟨j,hj,lK (hX h4 (x:=.gl j) hj),rfl⟩
theorem H8 (h:p9 s) (hfew:ig FF (aU s) [true]=some true):dS FF (aU s) [true] (az (bq s))=some (true,[],0)/\ew FF (aU s) [true]=some (⟨[],[]⟩,false,0):=by (have h4:=h.toSq4;have hn:=h4.n;have hc':=i8 h;have hc:=h.q.casC (N:=aK) (i:=mK);have hs:=h.q.sqC;have hb:=(h.q.iniC (N:=aK) (i:=mK) (Jj hc'.rt)).gates hc;let ⟨u,g1,g2,g3⟩:=fq hc hs rfl hb;have hst:∃ v,ai (aU s) u ⟨2,0,true⟩=(v,0)/\(∀ y,¬ cH (aU s) u ⟨2,0,true⟩ y)/\LS (aU s) (Av s) v:=by (rcases g2 with ⟨_,g2⟩ | ⟨_,g2⟩);let ⟨v,a1,a2,a3⟩:=CG hc hs g2;exact ⟨v,a1,a2,_,_,_,a3⟩;let ⟨v,a1,a2,a3⟩:=ll hc hs g2;exact ⟨v,a1,a2,_,_,_,a3⟩);let ⟨v,a1,a2,a3⟩:=hst;refine EB hc' hc hs Sqc.tmpC g1 g3 a1 a2 a3 ?_ (λx hx=>?_) rfl hfew;unfold az bq;rw [L9,L9,MS];omega;unfold az bq at hx;rw [O3] at hx;obtain ⟨j,hj,rfl⟩:=MJ.1 hx;have hj:j < n s:=L4.1 hj;exact ⟨j,hj,Ez (by have:=Na h.q.n2 hj;unfold DH;omega),rfl⟩
theorem AH (s:Ai):m3 FF s=some true:=by
 let ⟨b,hb⟩:=lh s;let ⟨e,he,hst⟩:=B3 s;unfold m3;rw [hb,ab,p8];cases b with
 | false=>rfl
 | true=>
  rw [OC,ae,he,ab,ab];by_cases h0:e=0
  ·subst h0;rw [zf,N4];by_cases h6:(s.Steps.length:Int) > 6
   ·rw [ar h6];rfl
   ·rw [aq h6,ae];let ⟨hq,hn64,hk⟩:=hst rfl;have h4:Sq4 s:=⟨hq,hn64,hk⟩;let ⟨b',hb',hb2⟩:=pR s he;rw [hb] at hb';obtain rfl:=Option.some.inj hb';let ⟨hn,hA⟩:=hb2 rfl;have hA:A s<=4:=by have:=h4.Ac;omega
    have h5:=iM h4 hn hA;have h6:=iL h4 hn hA;rw [J4 h4,ab,Pi h4,ab,J3 h4,ab,Vn h4,ab];have step:∀ (i m:Nat) (x:CaseL),([(⟨aW s,az (cG s)⟩:CaseL),(⟨aU s,az (bq s)⟩:CaseL)]:List CaseL)[i]?=some x->i < 2->(ig FF x.c [true]=some true->dS FF x.c [true] x.lines=some (true,[],0)/\ew FF x.c [true]=some (⟨[],[]⟩,false,0)) ->
      Ov FF (aW s) (az (cG s)) (aU s) (az (bq s)) (m + 1) (i:Int)=Ov FF (aW s) (az (cG s)) (aU s) (az (bq s)) m ((i + 1:Nat):Int):=λi m x hx hi hov=>by
     let ⟨b,hb,_⟩:=BX x.c [true];rw [Ov,show decide ((i:Int) < (([(⟨aW s,az (cG s)⟩:CaseL),(⟨aU s,az (bq s)⟩:CaseL)]:List CaseL).length:Int))=true from ar (by show (i:Int) < 2;omega),af,Ak,hx,ab,hb,ab,An aa];cases b with
     | false=>rfl
     | true=>
      let ⟨e1,e2⟩:=hov hb;rw [OC,ae,e1,ab,e2,ab];rfl
    have k1:=step 0 99999 _ rfl aa (H7 h5);have k2:=step 1 99998 _ rfl aa (H8 h6);have loop:Ov FF (aW s) (az (cG s)) (aU s) (az (bq s)) FF (0:Int)=some (.brk 2):=by
     show Ov FF (aW s) (az (cG s)) (aU s) (az (bq s)) (99999 + 1) ((0:Nat):Int)=_;rw [k1];show Ov FF (aW s) (az (cG s)) (aU s) (az (bq s)) (99998 + 1) ((1:Nat):Int)=_;rw [k2];show Ov FF (aW s) (az (cG s)) (aU s) (az (bq s)) (99997 + 1) ((2:Nat):Int)=_;rw [Ov];rw [show decide (((2:Nat):Int) < (([(⟨aW s,az (cG s)⟩:CaseL),(⟨aU s,az (bq s)⟩:CaseL)]:List CaseL).length:Int))=false from rfl,ae];rfl
    rw [loop];rfl
  ·rw [show (e != 0)=true by simpa using h0,PQ,af];rfl
end
end Go.Pn

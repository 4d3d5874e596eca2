import Derived.Test.YtdnjcbcdmgbaaaaGreatDoorDp5
set_option synthInstance.checkSynthOrder false
set_option synthInstance.maxSize 10000
set_option synthInstance.maxHeartbeats 400000
set_option maxRecDepth 100000
set_option maxHeartbeats 4000000
set_option linter.unusedVariables false
set_option linter.unusedSimpArgs false
set_option linter.defProp false
namespace Go.Pn
open Go
theorem Zx {β:Type} {L:Nat->Int->Option (Lo Int β)} {N:Nat} {Q:Nat->Bool} {r:Int->β}
  (h:∀ (n i:Nat),i < N->L (n + 1) (i:Int)=bif Q i then some (.ret (r (i:Int))) else L n ((i + 1:Nat):Int)) (h':∀ (n:Nat),L (n + 1) (N:Int)=some (.brk (N:Int))) :
  ∀ (n i:Nat),i<=N->N - i < n->(∃ k,i<=k/\k < N/\Q k=true/\L n (i:Int)=some (.ret (r (k:Int))))\/(L n (i:Int)=some (.brk (N:Int))/\∀ k,i<=k->k < N->Q k=false)
 | 0,i,_,h=>by omega
 | n + 1,i,h1,h2=>by
  by_cases hi:i < N
  ·rw [h n i hi];cases hq:Q i with
   | true=>exact .inl ⟨i,G0 _,hi,hq,rfl⟩
   | false=>
    rw [cf_];rcases Zx h h' n (i + 1) om_ om_ with ⟨k,h3,h4,h5,h6⟩ | ⟨h3,h4⟩
    ·exact .inl ⟨k,by omega,h4,h5,h6⟩
    ·refine .inr ⟨h3,λk hk hk2=>?_⟩;rcases KA hk with rfl | h5
     ·exact hq
     ·exact h4 k h5 hk2
  ·obtain rfl:i=N:=by omega
   exact .inr ⟨h' n,λk hk hk2=>by omega⟩
def Uc (b:UInt8):Bool:=decide (97<=b.toNat) && decide (b.toNat<=122)
def EZ (b:UInt8):Bool:=decide (65<=b.toNat) && decide (b.toNat<=90)
def E8 (b:UInt8):Bool:=decide (48<=b.toNat) && decide (b.toNat<=57)
def Df (b:UInt8):Bool:=Uc b || EZ b || E8 b || (b.toNat == 95)
def wd (s:ByteArray):Bool:=match s.data.toList with
 | []=>false
 | b :: l=>Uc b && (b :: l).all Df
theorem Bc (s:ByteArray):s.size=s.data.toList.length:=rfl
theorem Xw {s:ByteArray} {i:Nat} (h:i < s.data.toList.length):Xa s (i:Int)=some s.data.toList[i]:=by
 unfold Xa;rw [if_pos om_,G3];have h1:i < s.size:=by rw [Bc];exact h
 rw [getElem?_pos s i h1];congr 1
theorem FX {s:ByteArray} {i:Nat} (h:i < s.data.toList.length):(s.data.toList[i].toNat < 128->Utf8.decode s i=(s.data.toList[i].toNat,1))/\(128<=s.data.toList[i].toNat->128<=(Utf8.decode s i).1):=by
 have hg:s.get! (i + 0)=s.data.toList[i]:=by
  have h1:i < s.data.size:=by simpa using h
  show s.data[i + 0]! = _;rw [J7,getElem!_pos s.data i h1];simp
 constructor
 ·intro hb;unfold Utf8.decode;simp only [hg];rw [if_pos om_]
 ·intro hb;unfold Utf8.decode;simp only [hg];rw [if_neg om_];split
  ·split
   ·rename_i hx;exact hx
   ·decide
  ·split
   ·split
    ·rename_i hx;simp only [GM,decide_eq_true_eq] at hx;exact HB (by decide) hx.1
    ·decide
   ·split
    ·split
     ·rename_i hx;simp only [GM,decide_eq_true_eq] at hx;exact HB (by decide) hx.1
     ·decide
    ·decide
theorem u8n {n:Nat} (hn:n < 256):(UInt8.ofNat n).toNat=n:=by
 rw [UInt8.toNat_ofNat'];omega
theorem B0 (f:Nat) (b:UInt8):m208 f b=some (Df b):=by
 unfold m208 Df Uc EZ E8;simp only [u8n (show 97 < 256 by omega),u8n (show 122 < 256 by omega),u8n (show 65 < 256 by omega),u8n (show 90 < 256 by omega),u8n (show 48 < 256 by omega),u8n (show 57 < 256 by omega),u8n (show 95 < 256 by omega)];congr 1;rw [HU];simp;omega
theorem Se {b:UInt8} (h:Df b=true):b.toNat<=122:=by
 unfold Df Uc EZ E8 at h;simp at h;omega
theorem B3 {f:Nat} {s:ByteArray} {i:Nat} (h:i < s.data.toList.length):m207 f (srn s (i:Int))=some (!Df s.data.toList[i]):=by
 obtain ⟨h1,h2⟩:=FX h;unfold m207 srn;rw [G3];simp only [Ik.toI];by_cases hb:s.data.toList[i].toNat < 128
 ·rw [h1 hb];dsimp only;by_cases hc:((s.data.toList[i].toNat:Nat):Int) > 122
  ·rw [dt_ hc,ct_];have:Df s.data.toList[i]=false:=by
    cases hp:Df s.data.toList[i] with
    | false=>rfl
    | true=>have:=Se hp;omega
   rw [this];rfl
  ·rw [df_ hc,cf_];have:(Ik.ofI ((s.data.toList[i].toNat:Nat):Int):UInt8)=s.data.toList[i]:=by
    show wr8 _=_;unfold wr8;refine UInt8.toNat_inj.1 ?_;rw [UInt8.toNat_ofNat'];omega
   rw [this,B0];rfl
 ·have h3:=h2 om_;rw [dt_ so_,ct_];have:Df s.data.toList[i]=false:=by
   cases hp:Df s.data.toList[i] with
   | false=>rfl
   | true=>have:=Se hp;omega
  rw [this];rfl
theorem Rq {α:Type} {l:List α} {p:α->Bool}:l.any p=true↔∃ i,∃ h:i < l.length,p l[i]=true:=by
 rw [G5];constructor
 ·rintro ⟨x,hx,h⟩;obtain ⟨i,hi,rfl⟩:=List.getElem_of_mem hx;exact ⟨i,hi,h⟩
 ·rintro ⟨i,hi,h⟩;exact ⟨_,GF hi,h⟩
theorem B4 {f:Nat} {s:ByteArray} (hs:s.size < f) (hs2:s.size < 1000000):m206 f s=some (s.data.toList.any λb=>!Df b):=by
 rw [Bc] at hs hs2;unfold m206 m230 m246;have hl:=Zx (L:=Kl f s true) (N:=s.data.toList.length) (Q:=λi=>if h:i < s.data.toList.length then !Df s.data.toList[i] else false) (r:=λz=>z) (λn i hi=>by
  rw [Kl,Bc,Ao,dt_ hi,ct_,B3 hi,ob_,dif_pos hi];cases hp:Df s.data.toList[i] with
  | true=>
   rw [show ((!true) == true)=false by rfl,cf_];have:snx s (i:Int)=((i + 1:Nat):Int):=by
    unfold snx;rw [if_pos (by rw [Bc];omega),G3,(FX hi).1 (by have:=Se hp;omega)];rfl
   rw [this];rfl
  | false=>rfl) (λn=>by
  rw [Kl,Bc,Ao,df_ om_,cf_];unfold snx;rw [if_neg (by rw [Bc];omega)]) f 0 om_ om_
 rw [n0] at hl;rcases hl with ⟨k,_,hk,hq,h⟩ | ⟨h,hn⟩
 ·rw [h];rw [dif_pos hk] at hq;rw [Rq.2 ⟨k,hk,hq⟩];simp only [ob_];rw [dt_ om_]
 ·rw [h];have:(s.data.toList.any λb=>!Df b)=false:=by
   rw [Bool.eq_false_iff];intro ha;obtain ⟨i,hi,h2⟩:=Rq.1 ha;have:=hn i om_ hi;rw [dif_pos hi,h2] at this;cases this
  rw [this];rfl
theorem CB {f:Nat} {s:ByteArray} (hs:s.size < f) (hs2:s.size < 1000000):m190 f s=some (wd s):=by
 rw [Bc] at hs hs2;unfold m190;have hl:=Zx (L:=Kq s) (N:=s.data.toList.length) (Q:=λi=>if h:i < s.data.toList.length then (i == 0 && !Uc s.data.toList[i]) || !Df s.data.toList[i] else false) (r:=λ_=>false) (λn i hi=>by
  rw [Kq,Bc,Ao,dt_ hi,ct_];simp only [Xw hi,ob_,cs_,u8n (show 97 < 256 by omega),u8n (show 122 < 256 by omega),u8n (show 65 < 256 by omega),u8n (show 90 < 256 by omega),u8n (show 48 < 256 by omega),u8n (show 57 < 256 by omega),u8n (show 95 < 256 by omega)];rw [dif_pos hi,Aq om_];congr 1;rw [HU];unfold Df Uc EZ E8;simp;generalize s.data.toList[i].toNat=b;omega) (λn=>by
  rw [Kq,Bc,Ao,df_ om_,cf_]) f 0 om_ om_
 rw [n0] at hl;have hemp:(s.toList == (⟨#[]⟩:ByteArray).toList)=(s.data.toList == []):=by
  rw [ByteArray.toList_eq,ByteArray.toList_eq]
 rcases hl with ⟨k,_,hk,hq,h⟩ | ⟨h,hn⟩
 ·rw [h,ob_];rw [dif_pos hk] at hq;dsimp only;congr 1
  symm
  unfold wd;cases hd:s.data.toList with
  | nil=>rfl
  | cons b l=>
   have hk':k < (b :: l).length:=by rw [← hd];exact hk
   have hg:s.data.toList[k]=(b :: l)[k]:=by simp [hd]
   rw [hg] at hq;dsimp only;rw [J4];rcases Bool.or_eq_true_iff.1 hq with h1 | h1
   ·left;obtain ⟨h2,h3⟩:=Bool.and_eq_true_iff.1 h1;obtain rfl:k=0:=by simpa using h2
    simpa using h3
   ·right;exact KY.2 ⟨_,GF hk',by simpa using h1⟩
 ·rw [h,ob_,hemp];dsimp only;congr 1;unfold wd;cases hd:s.data.toList with
  | nil=>rfl
  | cons b l=>
   have hb:∀ (k:Nat) (hk:k < (b :: l).length),((k == 0 && !Uc (b :: l)[k]) || !Df (b :: l)[k])=false:=by
    intro k hk;have hk':k < s.data.toList.length:=by rw [hd];exact hk
    have:=hn k om_ hk';rw [dif_pos hk'] at this;have hg:s.data.toList[k]=(b :: l)[k]:=by simp [hd]
    rw [hg] at this;exact this
   have h1:=hb 0 smp_;simp at h1;dsimp only;rw [h1.1,HJ];have:(b :: l).all Df=true:=by
    rw [GQ];intro x hx;obtain ⟨i,hi,rfl⟩:=List.getElem_of_mem hx;have:=hb i hi;rw [JO] at this;simpa using this.2
   rw [this];rfl
def fx (i:Nat):ByteArray:=⟨#[UInt8.ofNat (97 + i / 2),UInt8.ofNat (48 + i % 2)]⟩
def cA (c:Aa):Nat:=c.Actuators.toNat
def cS (c:Aa):Nat:=2 * cA c + c.Inputs.length
def cL (c:Aa):Nat:=cS c + c.Signals.length
def nmF (c:Aa) (i:Nat):ByteArray:=if i < 2 * cA c then fx i else if i < cS c then c.Inputs.getD (i - 2 * cA c) ⟨#[]⟩ else ((c.Signals[i - cS c]?).map (·.Name)).getD ⟨#[]⟩
structure Bd_ (c:Aa):Prop where
 a1:1<=c.Actuators
 a6:c.Actuators<=6
 i:c.Inputs.length<=16
 s:c.Signals.length<=16
theorem Bd_.a {c:Aa} (h:Bd_ c):c.Actuators=(cA c:Int):=by
 have:=h.a1;unfold cA;omega
theorem Bd_.a' {c:Aa} (h:Bd_ c):1<=cA c/\cA c<=6:=by
 have:=h.a1;have:=h.a6;unfold cA;omega
theorem Bd_.wa {c:Aa} (h:Bd_ c):wr ((2:Int) * c.Actuators)=((2 * cA c:Nat):Int):=by
 have:=h.a;have:=h.a';rw [Av om_ om_];omega
theorem Eo {f:Nat} {c:Aa} (h:Bd_ c):m191 f c=some (cS c:Int):=by
 have:=h.a';have:=h.i;unfold m191;rw [h.wa,Av om_ om_];unfold cS;congr 1
theorem Je {f:Nat} {c:Aa} (h:Bd_ c):m203 f c=some (cS c:Int):=Eo (f:=f) h
theorem En {f:Nat} {c:Aa} (h:Bd_ c):m193 f c=some (cL c:Int):=by
 have:=h.a';have:=h.i;have:=h.s;unfold m193;have e:wr (((2 * cA c:Nat):Int) + (c.Inputs.length:Int))=((2 * cA c:Nat):Int) + (c.Inputs.length:Int):=Av om_ om_;rw [h.wa,e,Av om_ om_];unfold cL cS;congr 1
theorem Oo {f:Nat} {c:Aa} (h:Bd_ c):m174 f c=some (cL c:Int):=by
 have:=h.a';have:=h.i;have:=h.s;unfold m174;rw [Je h,ob_,Av (by unfold cS;omega) (by unfold cS;omega)];unfold cL;congr 1
theorem AA:((List.range 12).all λi=>decide (((ssl (⟨#[97,98,99,100,101,102]⟩:ByteArray) (wr ((i:Int).tdiv (2:Int))) (wr ((wr ((i:Int).tdiv (2:Int))) + 1))).bind λx1=>(ssl (⟨#[48,49]⟩:ByteArray) ((i:Int).tmod (2:Int)) (wr (((i:Int).tmod (2:Int)) + 1))).bind λx2=>(cat x1 x2).bind λx3=>some x3)=some (fx i)))=true:=by kernel_rfl
theorem ref_fx:∀ i:Nat,i < 12->((ssl (⟨#[97,98,99,100,101,102]⟩:ByteArray) (wr ((i:Int).tdiv (2:Int))) (wr ((wr ((i:Int).tdiv (2:Int))) + 1))).bind λx1=>(ssl (⟨#[48,49]⟩:ByteArray) ((i:Int).tmod (2:Int)) (wr (((i:Int).tmod (2:Int)) + 1))).bind λx2=>(cat x1 x2).bind λx3=>some x3)=some (fx i):=λi h=>of_decide_eq_true (GQ.1 AA i (GZ.2 h))
theorem AB:((List.range 12).all λi=>decide (((cat (Dn (Ik.toI (Ik.ofI (Ik.toI (wr ((97:Int) + (wr ((i:Int).tdiv (2:Int)))))):Kd .i32))) (Dn (Ik.toI (Ik.ofI (Ik.toI (wr ((48:Int) + ((i:Int).tmod (2:Int))))):Kd .i32)))).bind λx2=>some x2)=some (fx i)))=true:=by kernel_rfl
theorem pro_fx:∀ i:Nat,i < 12->((cat (Dn (Ik.toI (Ik.ofI (Ik.toI (wr ((97:Int) + (wr ((i:Int).tdiv (2:Int)))))):Kd .i32))) (Dn (Ik.toI (Ik.ofI (Ik.toI (wr ((48:Int) + ((i:Int).tmod (2:Int))))):Kd .i32)))).bind λx2=>some x2)=some (fx i):=λi h=>of_decide_eq_true (GQ.1 AB i (GZ.2 h))
theorem Vz {f:Nat} {c:Aa} (h:Bd_ c) {i:Nat} (hi:i < cL c):m189 f c (i:Int)=some (nmF c i):=by
 have h1:=h.a';have h2:=h.i;have h3:=h.s;have hS:cS c=2 * cA c + c.Inputs.length:=rfl;have hL:cL c=cS c + c.Signals.length:=rfl;unfold m189 nmF;rw [h.wa,Ao];by_cases h4:i < 2 * cA c
 ·rw [dt_ h4,ct_,if_pos h4];exact ref_fx i om_
 ·rw [df_ h4,cf_,if_neg h4,Eo h,ob_,Ao];by_cases h5:i < cS c
  ·rw [dt_ h5,ct_,if_pos h5,Av om_ om_,show (i:Int) - ((2 * cA c:Nat):Int)=((i - 2 * cA c:Nat):Int) by omega,Am,gE_ om_];simp [gE_ (show i - 2 * cA c < c.Inputs.length by omega)]
  ·rw [df_ h5,cf_,if_neg h5,ob_,Av om_ om_,show (i:Int) - (cS c:Int)=((i - cS c:Nat):Int) by omega,Am,gE_ om_];rfl
theorem CJ {f:Nat} {c:Aa} (h:Bd_ c) {i:Nat} (hi:i < cL c):m170 f c (i:Int)=some (nmF c i):=by
 have h1:=h.a';have h2:=h.i;have h3:=h.s;have hS:cS c=2 * cA c + c.Inputs.length:=rfl;have hL:cL c=cS c + c.Signals.length:=rfl;unfold m170 nmF;rw [Je h,ob_,h.wa,Ao];by_cases h4:i < 2 * cA c
 ·rw [dt_ h4,ct_,if_pos h4];exact pro_fx i om_
 ·rw [df_ h4,cf_,if_neg h4,Ao];by_cases h5:i < cS c
  ·rw [dt_ h5,ct_,if_pos h5,Av om_ om_,show (i:Int) - ((2 * cA c:Nat):Int)=((i - 2 * cA c:Nat):Int) by omega,Am,gE_ om_];simp [gE_ (show i - 2 * cA c < c.Inputs.length by omega)]
  ·rw [df_ h5,cf_,if_neg h5,Av om_ om_,show (i:Int) - (cS c:Int)=((i - cS c:Nat):Int) by omega,Am,gE_ om_];rfl
def nme (c:Aa) (i:Nat):Int:=if wd (nmF c i) then (if (nmF c i).size > 24 then 17 else if (List.range i).any (λj=>(nmF c j).data.toList == (nmF c i).data.toList) then 7 else 0) else 3
theorem Wh {f:Nat} {c:Aa} (h:Bd_ c) {i:Nat} (hi:i < cL c) (hn:(nmF c i).size<=200) (hf:600<=f):m160 f c (i:Int)=some (nme c i):=by
 have h1:=h.a';have h2:=h.i;have h3:=h.s;have hS:cS c=2 * cA c + c.Inputs.length:=rfl;have hL:cL c=cS c + c.Signals.length:=rfl;unfold m160 nme;rw [Vz h hi,ob_,CB om_ om_,ob_];cases hw:wd (nmF c i) with
 | false=>rfl
 | true=>
  rw [nt_,cf_,if_pos rfl];by_cases h24:(nmF c i).size > 24
  ·rw [dt_ om_,ct_,if_pos h24]
  ·rw [df_ om_,cf_,if_neg h24];have hl:=Zx (L:=Kt f c (i:Int) (nmF c i)) (N:=i) (Q:=λj=>(nmF c j).data.toList == (nmF c i).data.toList) (r:=λ_=>7) (λn j hj=>by
    rw [Kt,Ao,dt_ hj,ct_,Vz h om_,ob_,ByteArray.toList_eq,ByteArray.toList_eq,Aq om_]) (λn=>by
    rw [Kt,Ao,df_ om_,cf_]) f 0 om_ om_
   rw [n0] at hl;rcases hl with ⟨k,_,hk,hq,h⟩ | ⟨h,hn⟩
   ·rw [h,if_pos (G5.2 ⟨k,GZ.2 hk,hq⟩)];rfl
   ·rw [h,if_neg ?_]
    ·rfl
    ·intro ha;obtain ⟨k,hk,h4⟩:=G5.1 ha;have:=hn k om_ (GZ.1 hk);rw [this] at h4;cases h4
def Zv (c:Aa) (i:Nat) (m:List (ByteArray×Int)):Prop:=∀ s:ByteArray,(mat AT m s).isSome=(List.range i).any λj=>(nmF c j).data.toList == s.data.toList
theorem By {a b:ByteArray}:AT a b=true↔a=b:=by
 unfold AT;obtain ⟨⟨x⟩⟩:=a;obtain ⟨⟨y⟩⟩:=b;simp
theorem D9 {m:List (ByteArray×Int)} {k j:ByteArray} {y:Int}:mat AT (Mj AT m k y) j=if j=k then some y else mat AT m j:=by
 induction m with
 | nil=>
  show mat AT [(k,y)] j=_;rw [Bl];by_cases h:j=k
  ·rw [if_pos (By.2 h),if_pos h]
  ·rw [if_neg (λe=>h (By.1 e)),if_neg h]
 | cons p m ih=>
  obtain ⟨k',z⟩:=p;rw [My,Bl];by_cases h:k=k'
  ·subst h;rw [if_pos (By.2 rfl),Bl];by_cases h2:j=k
   ·rw [if_pos (By.2 h2),if_pos h2]
   ·rw [if_neg (λe=>h2 (By.1 e)),if_neg h2,if_neg (λe=>h2 (By.1 e))]
  ·rw [if_neg (λe=>h (By.1 e)),Bl,ih];by_cases h2:j=k'
   ·subst h2;rw [if_pos (By.2 rfl),if_neg (λe=>h e.symm),if_pos (By.2 rfl)]
   ·rw [if_neg (λe=>h2 (By.1 e)),if_neg (λe=>h2 (By.1 e))]
theorem Zv.zero (c:Aa):Zv c 0 []:=λs=>rfl
theorem Zv.put {c:Aa} {i:Nat} {m:List (ByteArray×Int)} (h:Zv c i m) (y:Int):Zv c (i + 1) (Mj AT m (nmF c i) y):=by
 intro s;rw [D9,List.range_succ,List.any_append];by_cases e:s=nmF c i
 ·rw [if_pos e,e];simp
 ·rw [if_neg e,h s];have:((nmF c i).data.toList == s.data.toList)=false:=by
   cases hb:((nmF c i).data.toList == s.data.toList) with
   | false=>rfl
   | true=>exact absurd (By.1 hb).symm e
  rw [LE,List.any_nil,KN,this,KN]
theorem Wc {f:Nat} {c:Aa} (h:Bd_ c) {i:Nat} (hn:(nmF c i).size<=200) (hf:600<=f) {m:List (ByteArray×Int)} (hm:Zv c i m) (a b c' d e) :
  ∃ m',m171 f (nmF c i) a b c' d e m=some (nme c i,m')/\(nme c i=0->Zv c (i + 1) m'):=by
 unfold m171 nme;have hemp:((nmF c i).toList == (⟨#[]⟩:ByteArray).toList)=((nmF c i).data.toList == []):=by
  rw [ByteArray.toList_eq,ByteArray.toList_eq]
 rw [hemp,B4 om_ om_];have hwd:∀ (k:Bool->Option (Int×List (ByteArray×Int))),((bif ((nmF c i).data.toList == []) then some true else (Xa (nmF c i) (0:Int)).bind λx1=>some (decide ((x1.toNat:Int) < (UInt8.ofNat 97).toNat))).bind λr2=>(bif r2 then some true else (Xa (nmF c i) (0:Int)).bind λx3=>some (decide ((x3.toNat:Int) > (UInt8.ofNat 122).toNat))).bind λr4=>(bif r4 then some true else (some ((nmF c i).data.toList.any λb=>!Df b)).bind λx5=>some x5).bind k)=k (!wd (nmF c i)):=by
  intro k;cases hd:(nmF c i).data.toList with
  | nil=>unfold wd;rw [hd];rfl
  | cons b l=>
   have h0:Xa (nmF c i) (0:Int)=some b:=by
    have:=Xw (s:=nmF c i) (i:=0) (by rw [hd];simp);rw [n0] at this;rw [this];simp [hd]
   unfold wd;rw [h0,hd];simp only [ob_,cs_,u8n (show 97 < 256 by omega),u8n (show 122 < 256 by omega)];congr 1;rw [HU];unfold Uc;simp only [List.all_eq_not_any_not];cases (b :: l).any (λb=>!Df b) <;> simp <;> omega
 rw [hwd];cases hw:wd (nmF c i) with
 | false=>exact ⟨m,rfl,λh=>by simp at h⟩
 | true=>
  rw [nt_,cf_,if_pos rfl];by_cases h24:(nmF c i).size > 24
  ·rw [dt_ om_,ct_,if_pos h24];exact ⟨m,rfl,λh=>by simp at h⟩
  ·rw [df_ om_,cf_,if_neg h24,hm (nmF c i)];cases hx:(List.range i).any (λj=>(nmF c j).data.toList == (nmF c i).data.toList) with
   | true=>exact ⟨m,rfl,λh=>by simp at h⟩
   | false=>exact ⟨_,rfl,λ_=>hm.put _⟩
end Go.Pn
namespace Go.Pn
open Go
def DW (E:Nat->Int):Nat->Nat->Int
 | 0,_=>0
 | k + 1,i=>if E i=0 then DW E k (i + 1) else E i
theorem Wt {E:Nat->Int}:∀ {k i:Nat},DW E k i=0->∀ j,i<=j->j < i + k->E j=0
 | 0,_,_,j,h1,h2=>by omega
 | k + 1,i,h,j,h1,h2=>by
  unfold DW at h;split at h
  ·rcases KA h1 with rfl | h3
   ·assumption
   ·exact Wt h j h3 om_
  ·contradiction
theorem fnzI {S σ β:Type} {L:Nat->S->Option (Lo S β)} {mk:Nat->σ->S} {N:Nat} {E:Nat->Int} {r:Int->β} {I:Nat->σ->Prop}
  (h:∀ (n i:Nat) s,i < N->I i s->(E i=0->∃ s',I (i + 1) s'/\L (n + 1) (mk i s)=L n (mk (i + 1) s'))/\(E i≠0->L (n + 1) (mk i s)=some (.ret (r (E i)))))
  (h':∀ (n:Nat) s,I N s->L (n + 1) (mk N s)=some (.brk (mk N s))) :
  ∀ (k n i:Nat) s,i + k=N->k < n->I i s->(DW E k i=0/\∃ s',I N s'/\L n (mk i s)=some (.brk (mk N s')))\/(DW E k i≠0/\L n (mk i s)=some (.ret (r (DW E k i))))
 | 0,0,i,s,_,h2,_=>by omega
 | 0,n + 1,i,s,h1,h2,hI=>by
  obtain rfl:i=N:=by omega
  exact .inl ⟨rfl,s,hI,h' n s hI⟩
 | k + 1,0,i,s,_,h2,_=>by omega
 | k + 1,n + 1,i,s,h1,h2,hI=>by
  obtain ⟨a,b⟩:=h n i s om_ hI;unfold DW;by_cases e:E i=0
  ·obtain ⟨s',hs,hl⟩:=a e;rw [if_pos e,hl];exact fnzI h h' k n (i + 1) s' om_ om_ hs
  ·rw [if_neg e];exact .inr ⟨e,b e⟩
def zrx (x:Expr):Bool:=((x.Op == 0) && (x.Index == 0)) && (((x.Args).length:Int) == 0)
theorem Vx {f:Nat} {x:Expr}:m195 f x=some (zrx x):=rfl
theorem Vw {f:Nat} {x:Expr}:m204 f x=some (zrx x):=rfl
structure Fw (c:Aa):Prop where
 i:∀ s∈c.Inputs,s.size<=200
 n:∀ x∈c.Signals,x.Name.size<=200
 on:∀ x∈c.Signals,Lt_ x.On/\m104 FF x.On=some true
 off:∀ x∈c.Signals,Lt_ x.Off/\m104 FF x.Off=some true
theorem Fw.nm {c:Aa} (h:Fw c) (i:Nat):(nmF c i).size<=200:=by
 unfold nmF;split
 ·show 2<=200;omega
 ·split
  ·rw [GV];cases hx:c.Inputs[i - 2 * cA c]? with
   | none=>show 0<=200;omega
   | some s=>exact h.i s (GP hx)
  ·cases hx:c.Signals[i - cS c]? with
   | none=>show 0<=200;omega
   | some x=>exact h.n x (GP hx)
def gate (c:Aa) (k:Nat):Bool:=match c.Signals[k]? with | some y=>y.Kind == 0 | none=>false
def late (c:Aa) (i:Nat) (x:Af):Bool:=(List.range c.Signals.length).any λk=>decide (i<=k) && (gate c k && occ 16 ((cS c + k:Nat):Int) x.On)
def sge (c:Aa) (i:Nat) (x:Af):Int:=
 if nme c (cS c + i)≠0 then nme c (cS c + i) else if x.Kind < 0\/3<=x.Kind then 1 else if chE 16 (cL c) x.On≠0 then chE 16 (cL c) x.On else
 if x.Kind=1 then (if chE 16 (cL c) x.Off≠0 then chE 16 (cL c) x.Off else if x.Delay≠0 then 3 else 0)
 else if x.Kind=0 then (if late c i x=true then 9 else if (!zrx x.Off || x.Init || x.Delay != 0)=true then 3 else 0)
 else (if x.Delay < 1\/x.Delay > 1000000 then 2 else if (!zrx x.Off || x.Init)=true then 3 else 0)
theorem CA {c:Aa} (h:Bd_ c) {i:Nat} {x:Af} (hx:c.Signals[i]?=some x) (hd:dp 16 x.On):m194 FF c (i:Int)=some (late c i x):=by
 have h1:=h.a';have h2:=h.i;have h3:=h.s;have hS:cS c=2 * cA c + c.Inputs.length:=rfl;have hi:=(GG.1 hx).1;unfold m194;have hl:=Zx (L:=Ko FF c (i:Int)) (N:=c.Signals.length) (Q:=λk=>gate c k && occ 16 ((cS c + k:Nat):Int) x.On) (r:=λ_=>true) (λn k hk=>by
  rw [Ko,Ao,dt_ hk,ct_,Am,gE_ hk,ob_,Aq om_];unfold gate;rw [gE_ hk];dsimp only;cases hg:(c.Signals[k].Kind == 0) with
  | false=>rfl
  | true=>
   rw [ct_,Am,hx,ob_,Eo h,ob_,Av om_ om_,show (cS c:Int) + (k:Int)=((cS c + k:Nat):Int) by omega,Vt 16 FF _ _ hd uF];simp only [ob_,HJ]) (λn=>by
  rw [Ko,Ao,df_ om_,cf_]) FF i om_ uF
 unfold late;rcases hl with ⟨k,hk1,hk,hq,h⟩ | ⟨h,hn⟩
 ·rw [h,G5.2 ⟨k,GZ.2 hk,by rw [hq,dt_ hk1];rfl⟩];rfl
 ·rw [h];have:((List.range c.Signals.length).any λk=>decide (i<=k) && (gate c k && occ 16 ((cS c + k:Nat):Int) x.On))=false:=by
   rw [HN];intro k hk;have hk:=GZ.1 hk;by_cases hik:i<=k
   ·rw [hn k hik hk];simp
   ·rw [df_ hik];simp
  rw [this];rfl
theorem CN {c:Aa} (h:Bd_ c) (hw:Fw c) {i:Nat} {x:Af} (hx:c.Signals[i]?=some x):m161 FF c (i:Int)=some (sge c i x):=by
 have h1:=h.a';have h2:=h.i;have h3:=h.s;have hS:cS c=2 * cA c + c.Inputs.length:=rfl;have hL:cL c=cS c + c.Signals.length:=rfl;have hi:=(GG.1 hx).1;have hxm:=GP hx;obtain ⟨on1,on2⟩:=hw.on x hxm;obtain ⟨of1,of2⟩:=hw.off x hxm;have hF:600<=FF:=by unfold FF;omega
 unfold m161 sge;rw [Am,hx,ob_,Eo h,ob_,Av om_ om_,show (cS c:Int) + (i:Int)=((cS c + i:Nat):Int) by omega,Wh h om_ (hw.nm _) hF,ob_];by_cases e1:nme c (cS c + i)=0
 ·rw [e1,if_neg smp_,zf_,cf_];by_cases e2:x.Kind < 0\/3<=x.Kind
  ·rw [if_pos e2,show (decide (x.Kind < 0) || decide (x.Kind>=(3:Int)))=true by simpa using e2,ct_]
  ·rw [if_neg e2,show (decide (x.Kind < 0) || decide (x.Kind>=(3:Int)))=false by simp;omega,cf_,En h,ob_,Vy on1 on2 om_ om_ hF,ob_];by_cases e3:chE 16 (cL c) x.On=0
   ·rw [e3,if_neg smp_,zf_,cf_];have hk:x.Kind=0\/x.Kind=1\/x.Kind=2:=by omega
    rcases hk with k | k | k <;> rw [k]
    ·simp only [show ((0:Int) == 1)=false by rfl,show ((0:Int) == 0)=true by rfl,show ((0:Int) == 2)=false by rfl,cf_,ct_,HW,H0,HJ];rw [CA h hx on1.dp,ob_,ob_,Vx,ob_,ob_];simp only [show ¬ ((0:Int)=1) by omega,if_false,if_true];cases late c i x with
     | true=>rfl
     | false=>
      simp only [cf_];cases zrx x.Off <;> cases x.Init <;> cases (x.Delay != 0) <;> rfl
    ·simp only [show ((1:Int) == 1)=true by rfl,show ((1:Int) == 0)=false by rfl,show ((1:Int) == 2)=false by rfl,cf_,ct_,HW,H0,HJ,HS,JD,if_true];rw [ob_,Vy of1 of2 om_ om_ hF,ob_];by_cases e4:chE 16 (cL c) x.Off=0
     ·rw [e4,zf_,cf_,if_neg smp_,ob_,cf_,ob_,JD];by_cases e5:x.Delay=0
      ·rw [if_neg (by simpa using e5),e5];rfl
      ·rw [if_pos e5,show (x.Delay != 0)=true by simpa using e5];rfl
     ·rw [if_pos e4,show (chE 16 (cL c) x.Off != 0)=true by simpa using e4,ct_]
    ·simp only [show ((2:Int) == 1)=false by rfl,show ((2:Int) == 0)=false by rfl,show ((2:Int) == 2)=true by rfl,cf_,ct_,HW,H0,HJ,HS,KN,if_true,show ¬ ((2:Int)=1) by omega,show ¬ ((2:Int)=0) by omega,if_false,ob_];rw [Vx,ob_];by_cases e5:x.Delay < 1\/x.Delay > 1000000
     ·rw [if_pos e5,show (decide (x.Delay < 1) || decide (x.Delay > 1000000))=true by simpa using e5,ct_]
     ·rw [if_neg e5,show (decide (x.Delay < 1) || decide (x.Delay > 1000000))=false by simp;omega,cf_,ob_];cases zrx x.Off <;> cases x.Init <;> rfl
   ·rw [if_pos e3,show (chE 16 (cL c) x.On != 0)=true by simpa using e3,ct_]
 ·rw [if_pos e1,show (nme c (cS c + i) != 0)=true by simpa using e1,ct_]
def pr (c:Aa) (i:Nat) (k:Int):Bool:=decide (k - (cS c:Int)>=(i:Int)) && gate c (k - (cS c:Int)).toNat
theorem B5 {f:Nat} {c:Aa} (h:Bd_ c) {i:Nat} {k:Int} (hk0:0<=k) (hk:k < cL c) (m:List (ByteArray×Int)) (b:Bool) :
  m202 f k (i:Int) c.Actuators c.Inputs c.Signals c.Plus c.Minus m b=some (b || pr c i k):=by
 have h1:=h.a';have h2:=h.i;have h3:=h.s;have hS:cS c=2 * cA c + c.Inputs.length:=rfl;have hL:cL c=cS c + c.Signals.length:=rfl;unfold m202 pr;have e:(⟨c.Actuators,c.Inputs,c.Signals,c.Plus,c.Minus⟩:Aa)=c:=rfl;rw [e,Je h,ob_,Av om_ om_];cases b with
 | true=>rfl
 | false=>
  rw [cf_,JD];by_cases hg:k - (cS c:Int)>=(i:Int)
  ·obtain ⟨j,hj⟩:=K2 (show 0<=k - (cS c:Int) by omega);rw [dt_ hg,ct_,hj,Am,gE_ om_,ob_,ob_,ob_];unfold gate;rw [show ((j:Int)).toNat=j by simp,gE_ om_];rfl
  ·rw [df_ hg];rfl
theorem Vp {c:Aa} (h:Bd_ c) {i:Nat} (m:List (ByteArray×Int)):∀ (d f:Nat) (x:Expr) (b:Bool),okE d (cL c) x->d + 300<=f ->
  m226 f x c.Actuators c.Inputs c.Signals c.Plus c.Minus m b (i:Int)=some (b || F8 d (pr c i) x)
 | 0,_,_,_,h,_=>h.elim
 | d + 1,f,x,b,ho,hf=>by
  obtain ⟨f,rfl⟩:∃ f',f=f' + 1:=⟨f - 1,by omega⟩;obtain ⟨hn,hl,ha⟩:=ho;obtain ⟨o1,o2,o3,o4,o5,i1,i2⟩:=Hs hn;unfold m226 F8;have loop:∀ (n j:Nat) (b:Bool),j<=x.Args.length->x.Args.length - j < n ->
    Of (m226 f) x c.Actuators c.Inputs c.Signals c.Plus c.Minus m (i:Int) n ((j:Int),b)=some ((x.Args.length:Int),b || (x.Args.drop j).any (F8 d (pr c i))):=by
   intro n
   induction n with
   | zero=>intro j _ _ h;omega
   | succ n ihn=>
    intro j b hj hnn;unfold Of;dsimp only;by_cases h3:j < x.Args.length
    ·rw [Ao,dt_ h3,ct_,Am,gE_ h3,ob_,Vp h m d f _ b (ha _ (GF h3)) om_,ob_,Aq om_,ihn (j + 1) _ om_ om_,GE h3,LE,Bool.or_assoc]
    ·rw [Ao,df_ h3,cf_,G1 om_];have:j=x.Args.length:=by omega
     subst this;simp
  by_cases h1:x.Op=1
  ·rw [if_pos h1,show (x.Op == 1)=true by simpa using h1,ct_,B5 h i1 (i2 h1),ob_,ob_];have h3:=loop f 0 (b || pr c i x.Index) om_ om_;rw [n0,GL] at h3;rw [h3,o3 om_];simp
  ·rw [if_neg h1,show (x.Op == 1)=false by simpa using h1,cf_,ob_];have h3:=loop f 0 b om_ om_;rw [n0,GL] at h3;rw [h3];rfl
theorem late_eq {c:Aa} {i:Nat} {x:Af} (ho:okE 16 (cL c) x.On):F8 16 (pr c i) x.On=late c i x:=by
 have hL:cL c=cS c + c.Signals.length:=rfl;rw [HU,Tw];unfold late;rw [G5];constructor
 ·rintro ⟨k,hp,hk⟩;have hl:=FJ ho hk;unfold pr at hp;rw [GM] at hp;obtain ⟨hp1,hp2⟩:=hp;have hp1:k - (cS c:Int)>=(i:Int):=by simpa using hp1
  refine ⟨(k - (cS c:Int)).toNat,GZ.2 om_,?_⟩;rw [dt_ om_,hp2,show ((cS c + (k - (cS c:Int)).toNat:Nat):Int)=k by omega,hk];rfl
 ·rintro ⟨j,hj,hq⟩;rw [GM,GM] at hq;obtain ⟨h1,h2,h3⟩:=hq;have h1:i<=j:=by simpa using h1
  refine ⟨_,?_,h3⟩;unfold pr;rw [show ((cS c + j:Nat):Int) - (cS c:Int)=(j:Int) by omega,show ((j:Int)).toNat=j by simp,h2,dt_ om_];rfl
theorem CH {c:Aa} (h:Bd_ c) (hw:Fw c) {i:Nat} {x:Af} (hx:c.Signals[i]?=some x) {m:List (ByteArray×Int)} (hm:Zv c (cS c + i) m) :
  ∃ m',m172 FF (i:Int) c.Actuators c.Inputs c.Signals c.Plus c.Minus m=some (sge c i x,m')/\(sge c i x=0->Zv c (cS c + (i + 1)) m'):=by
 have h1:=h.a';have h2:=h.i;have h3:=h.s;have hS:cS c=2 * cA c + c.Inputs.length:=rfl;have hL:cL c=cS c + c.Signals.length:=rfl;have hi:=(GG.1 hx).1;have hxm:=GP hx;obtain ⟨on1,on2⟩:=hw.on x hxm;obtain ⟨of1,of2⟩:=hw.off x hxm;have hF:600<=FF:=by unfold FF;omega
 have hnm:nmF c (cS c + i)=x.Name:=by
  unfold nmF;rw [if_neg om_,if_neg om_,show cS c + i - cS c=i by omega,hx];rfl
 have e:(⟨c.Actuators,c.Inputs,c.Signals,c.Plus,c.Minus⟩:Aa)=c:=rfl;unfold m172 sge;obtain ⟨m',hm',hk'⟩:=Wc h (hw.nm (cS c + i)) hF hm c.Actuators c.Inputs c.Signals c.Plus c.Minus;rw [hnm] at hm';rw [Am,hx,ob_,hm',ob_];dsimp only;refine ⟨m',?_,λh0=>?_⟩
 ·by_cases e1:nme c (cS c + i)=0
  ·rw [e1,if_neg smp_,zf_,cf_];by_cases e2:x.Kind < 0\/3<=x.Kind
   ·rw [if_pos e2,show (decide (x.Kind < 0) || decide (x.Kind>=(3:Int)))=true by simpa using e2,ct_]
   ·rw [if_neg e2,show (decide (x.Kind < 0) || decide (x.Kind>=(3:Int)))=false by simp;omega,cf_,e,Oo h,ob_,Oh on1 om_ om_ hF,ob_];by_cases e3:chE 16 (cL c) x.On=0
    ·rw [e3,if_neg smp_,zf_,cf_];have hok:=okE.of on1.dp e3;have hk:x.Kind=0\/x.Kind=1\/x.Kind=2:=by omega
     rcases hk with k | k | k <;> rw [k]
     ·rw [show idx (List.range 3) (0:Int)=some 0 by rfl,ob_,show ((0:Nat) == 0)=true by rfl,ct_,if_neg om_,if_pos rfl];unfold m167 m201;rw [Am,hx,ob_,Vp h m' 16 FF x.On false hok uF,ob_,ob_,JD,late_eq hok,Vw];cases late c i x with
      | true=>rfl
      | false=>cases zrx x.Off <;> cases x.Init <;> cases (x.Delay != 0) <;> rfl
     ·rw [show idx (List.range 3) (1:Int)=some 1 by rfl,ob_,show ((1:Nat) == 0)=false by rfl,cf_,show ((1:Nat) == 1)=true by rfl,ct_,if_pos rfl];unfold m168;rw [e,Oo h,Am,hx,ob_,ob_,Oh of1 om_ om_ hF,ob_];by_cases e4:chE 16 (cL c) x.Off=0
      ·rw [e4,zf_,cf_,if_neg smp_,ob_];by_cases e5:x.Delay=0
       ·rw [if_neg (by simpa using e5),e5];rfl
       ·rw [if_pos e5,show (x.Delay != 0)=true by simpa using e5];rfl
      ·rw [if_pos e4,show (chE 16 (cL c) x.Off != 0)=true by simpa using e4,ct_];rfl
     ·rw [show idx (List.range 3) (2:Int)=some 2 by rfl,ob_,show ((2:Nat) == 0)=false by rfl,cf_,show ((2:Nat) == 1)=false by rfl,cf_,show ((2:Nat) == 2)=true by rfl,ct_,if_neg om_,if_neg om_];unfold m169;rw [Am,hx,ob_,Vw];by_cases e5:x.Delay < 1\/x.Delay > 1000000
      ·rw [if_pos e5,show (decide (x.Delay < 1) || decide (x.Delay > 1000000))=true by simpa using e5];rfl
      ·rw [if_neg e5,show (decide (x.Delay < 1) || decide (x.Delay > 1000000))=false by simp;omega];cases zrx x.Off <;> cases x.Init <;> rfl
    ·rw [if_pos e3,show (chE 16 (cL c) x.On != 0)=true by simpa using e3,ct_]
  ·rw [if_pos e1,show (nme c (cS c + i) != 0)=true by simpa using e1,ct_]
 ·refine hk' ?_;by_cases e1:nme c (cS c + i)=0
  ·exact e1
  ·rw [if_pos e1] at h0;exact h0
theorem CG {f:Nat} {c:Aa} (h:Bd_ c) {k:Int}:m173 f k c=some (bad (cL c) k):=by
 unfold m173 bad;rw [Oo h];cases decide (k < 0) <;> rfl
theorem CT {c:Aa} (h:Bd_ c) {xs:List Int} (hl:xs.length < 1000):m134 FF xs c=some (xs.any (bad (cL c))):=by
 unfold m134 m159;have h5:=Ub (L:=Tb FF xs c) (xs:=xs) (p:=λ_ y=>m173 FF y c) (q:=bad (cL c)) (r:=λz=>z) (λ_ _=>rfl) om_ (λi y hy=>CG h) FF 0 om_ uF;rw [n0,GL] at h5;rw [h5];cases h6:xs.findIdx? (bad (cL c)) with
 | none=>
  rw [HH] at h6;have:xs.any (bad (cL c))=false:=HN.2 λy hy=>by simpa using h6 y hy
  rw [this];rfl
 | some j=>
  obtain ⟨hj,hj2,_⟩:=G7.1 h6;have:xs.any (bad (cL c))=true:=G5.2 ⟨_,GF hj,by simpa using hj2⟩;rw [this];simp
theorem Pg {p q:List Int} (hp:p.length<=400000000) (hq:q.length<=400000000):m101 FF [p,q]=some (p ++ q):=by
 unfold m101;have h1:Ew [p,q] FF ((0:Int),(0:Int))=some (((p.length + q.length:Nat):Int),2):=by
  show Ew [p,q] (99997 + 1 + 1 + 1) _=_;unfold Ew;rw [show decide ((0:Int) < (([p,q]:List (List Int)).length:Int))=true by rfl,ct_,show idx [p,q] 0=some p by rfl,ob_];dsimp only;rw [Av om_ om_,Av om_ om_,df_ om_,cf_];unfold Ew;rw [show decide ((0:Int) + 1 < (([p,q]:List (List Int)).length:Int))=true by rfl,ct_,show idx [p,q] (0 + 1)=some q by rfl,ob_];dsimp only;rw [Av om_ om_,Av om_ om_,df_ om_,cf_];unfold Ew;rw [show decide ((0:Int) + 1 + 1 < (([p,q]:List (List Int)).length:Int))=false by rfl,cf_];congr 1;refine Prod.ext ?_ rfl;dsimp only;omega
 have h2:Ev [p,q] FF ((0:Int),[])=some ((2:Int),p ++ q):=by
  show Ev [p,q] (99997 + 1 + 1 + 1) _=_;unfold Ev app;rw [show decide ((0:Int) < (([p,q]:List (List Int)).length:Int))=true by rfl,ct_,show idx [p,q] 0=some p by rfl,ob_,if_pos so_,ob_];dsimp only;rw [Av om_ om_];unfold Ev app;rw [show decide ((0:Int) + 1 < (([p,q]:List (List Int)).length:Int))=true by rfl,ct_,show idx [p,q] (0 + 1)=some q by rfl,ob_,if_pos so_,ob_];dsimp only;rw [Av om_ om_];unfold Ev;rw [show decide ((0:Int) + 1 + 1 < (([p,q]:List (List Int)).length:Int))=false by rfl,cf_];rfl
 rw [h1,ob_];unfold m133;rw [if_pos (by dsimp only;omega),ob_,h2];rfl
theorem Ma {c:Aa} (h:Bd_ c) {xs:List Int} (hl:xs.length < 1000):Ks FF c xs FF (0:Int)=if xs.any (bad (cL c)) then some (.ret 6) else some (.brk (xs.length:Int)):=by
 have h5:=Ub (L:=Ks FF c xs) (xs:=xs) (p:=λ_ y=>some (bad (cL c) y)) (q:=bad (cL c)) (r:=λ_=>6) (λn z=>by
  rw [Ks];congr 1;cases hx:idx xs z with
  | none=>rfl
  | some y=>
   rw [ob_,ob_,ob_,En h,ob_];unfold bad;cases decide (y < 0) <;> rfl) om_ (λi y hy=>rfl) FF 0 om_ (by unfold FF; omega)
 rw [n0,GL] at h5;rw [h5];cases h6:xs.findIdx? (bad (cL c)) with
 | none=>
  rw [HH] at h6;have:xs.any (bad (cL c))=false:=HN.2 λy hy=>by simpa using h6 y hy
  rw [this];rfl
 | some j=>
  obtain ⟨hj,hj2,_⟩:=G7.1 h6;have:xs.any (bad (cL c))=true:=G5.2 ⟨_,GF hj,by simpa using hj2⟩;rw [this];rfl
def plE (c:Aa):Int:=if (c.Plus.length:Int)≠c.Actuators\/(c.Minus.length:Int)≠c.Actuators then 8 else if (c.Plus ++ c.Minus).any (bad (cL c)) then 6 else 0
theorem CM {c:Aa} (h:Bd_ c):m162 FF c=some (plE c):=by
 have h6:=h.a6;unfold m162 plE;by_cases h1:(c.Plus.length:Int)≠c.Actuators\/(c.Minus.length:Int)≠c.Actuators
 ·rw [if_pos h1,show (((c.Plus.length:Int) != c.Actuators) || ((c.Minus.length:Int) != c.Actuators))=true by simpa using h1,ct_]
 ·rw [if_neg h1,show (((c.Plus.length:Int) != c.Actuators) || ((c.Minus.length:Int) != c.Actuators))=false by simp;omega,cf_];have:Eq FF c FF (0:Int)=if (c.Plus ++ c.Minus).any (bad (cL c)) then some (.ret 6) else some (.brk 2):=by
   show Eq FF c (99997 + 1 + 1 + 1) _=_;unfold Eq;rw [show decide ((0:Int) < (([c.Plus,c.Minus]:List (List Int)).length:Int))=true by rfl,ct_,show idx [c.Plus,c.Minus] 0=some c.Plus by rfl,ob_,Ma h om_,List.any_append];cases c.Plus.any (bad (cL c)) with
   | true=>rfl
   | false=>
    rw [if_neg smp_,ob_];dsimp only;rw [Av om_ om_];unfold Eq;rw [show decide ((0:Int) + 1 < (([c.Plus,c.Minus]:List (List Int)).length:Int))=true by rfl,ct_,show idx [c.Plus,c.Minus] (0 + 1)=some c.Minus by rfl,ob_,Ma h om_,JD];cases c.Minus.any (bad (cL c)) with
    | true=>rfl
    | false=>
     rw [if_neg smp_,ob_];dsimp only;rw [Av om_ om_];unfold Eq;rw [show decide ((0:Int) + 1 + 1 < (([c.Plus,c.Minus]:List (List Int)).length:Int))=false by rfl,cf_];rfl
  rw [this];cases (c.Plus ++ c.Minus).any (bad (cL c)) <;> rfl
structure Rt (c:Aa):Prop where
 bd:Bd_ c
 sig:∀ x∈c.Signals,0<=x.Kind/\x.Kind < 3/\okE 16 (cL c) x.On/\(x.Kind=1->okE 16 (cL c) x.Off)
 plus:c.Plus.length=cA c
 minus:c.Minus.length=cA c
 lines:∀ l∈c.Plus ++ c.Minus,0<=l/\l < cL c
 ini:∀ x∈c.Signals,x.Kind=2->x.Init=false
theorem D1 {c:Aa} (hw:Fw c) {i:Nat} {x:Af} (hx:c.Signals[i]?=some x) (h:sge c i x=0):(0<=x.Kind/\x.Kind < 3/\okE 16 (cL c) x.On/\(x.Kind=1->okE 16 (cL c) x.Off))/\(x.Kind=2->x.Init=false):=by
 have hxm:=GP hx;unfold sge at h;split at h
 ·contradiction
 ·split at h
  ·omega
  ·split at h
   ·contradiction
   ·rename_i h2 h3;refine ⟨⟨by omega,by omega,okE.of (hw.on x hxm).1.dp om_,λhk=>?_⟩,λhk=>?_⟩
    ·rw [if_pos hk] at h;split at h
     ·contradiction
     ·rename_i h4;exact okE.of (hw.off x hxm).1.dp om_
    ·rw [if_neg om_,if_neg om_] at h;split at h
     ·contradiction
     ·split at h
      ·contradiction
      ·rename_i h5;cases hi:x.Init with
       | false=>rfl
       | true=>rw [hi] at h5;simp at h5
def sgE (c:Aa) (i:Nat):Int:=match c.Signals[i]? with | some x=>sge c i x | none=>0
theorem Mc {c:Aa} (h:Bd_ c):∀ (n i:Nat) (m:List (ByteArray×Int)),i<=2 * cA c->2 * cA c - i < n->Zv c i m->∃ z m',Oq FF c n ((i:Int),m)=some (z,m')/\Zv c (2 * cA c) m'
 | 0,i,_,_,h,_=>by omega
 | n + 1,i,m,h1,h2,hm=>by
  have ha:=h.a';have hL:cL c=2 * cA c + c.Inputs.length + c.Signals.length:=rfl;unfold Oq;dsimp only;rw [h.wa,Ao];by_cases hi:i < 2 * cA c
  ·rw [dt_ hi,ct_,CJ h om_,ob_,Aq om_];exact Mc h n (i + 1) _ om_ om_ (hm.put _)
  ·rw [df_ hi,cf_];obtain rfl:i=2 * cA c:=by omega
   exact ⟨_,m,rfl,hm⟩
theorem E9 {c:Aa} (hw:Fw c) (hs:c.Signals.length<=16\/64 < c.Signals.length):∃ e,m122 FF c=some e/\m138 FF c=some e/\(e=0->Rt c):=by
 unfold m122 m149 m138;by_cases hA:c.Actuators < 1\/c.Actuators > 6
 ·have:(decide (c.Actuators < 1) || decide (c.Actuators > 6))=true:=by simpa using hA
  rw [this];exact ⟨2,rfl,rfl,by simp⟩
 have:(decide (c.Actuators < 1) || decide (c.Actuators > 6))=false:=by simp;omega
 rw [this,cf_,cf_];by_cases hI:c.Inputs.length > 16\/c.Signals.length > 64
 ·have:(decide ((c.Inputs.length:Int) > 16) || decide ((c.Signals.length:Int) > 64))=true:=by simp;omega
  rw [this];exact ⟨5,rfl,rfl,by simp⟩
 have:(decide ((c.Inputs.length:Int) > 16) || decide ((c.Signals.length:Int) > 64))=false:=by simp;omega
 rw [this,cf_,cf_];have h:Bd_ c:=⟨by omega,by omega,by omega,by omega⟩;have ha:=h.a';have h2:=h.i;have h3:=h.s;have hS:cS c=2 * cA c + c.Inputs.length:=rfl;have hL:cL c=cS c + c.Signals.length:=rfl;have hF:600<=FF:=by unfold FF;omega
 obtain ⟨z,m1,e1,k1⟩:=Mc h FF 0 [] om_ uF (Zv.zero c);rw [n0] at e1;rw [e1,ob_];dsimp only;have A1:=fnzI (L:=Kv FF c) (mk:=λi m=>((i:Int),m)) (N:=c.Inputs.length) (E:=λi=>nme c (2 * cA c + i)) (r:=λe=>Sum.inl e) (I:=λi m=>Zv c (2 * cA c + i) m) (λn i m hi hm=>by
  have hnm:nmF c (2 * cA c + i)=c.Inputs[i]:=by
   unfold nmF;rw [if_neg om_,if_pos om_,show 2 * cA c + i - 2 * cA c=i by omega];simp [gE_ hi]
  obtain ⟨m',hm',hk'⟩:=Wc h (hw.nm (2 * cA c + i)) hF hm c.Actuators c.Inputs c.Signals c.Plus c.Minus;rw [hnm] at hm';rw [Kv];dsimp only;rw [Ao,dt_ hi,ct_,Am,gE_ hi,ob_,hm',ob_];dsimp only;refine ⟨λh0=>⟨m',hk' h0,?_⟩,λh0=>?_⟩
  ·rw [h0,zf_,cf_,Aq om_]
  ·rw [show (nme c (2 * cA c + i) != 0)=true by simpa using h0,ct_]) (λn m _=>by
  rw [Kv];dsimp only;rw [Ao,df_ om_,cf_]) c.Inputs.length FF 0 m1 om_ uF k1
 have B1:=fnzI (L:=Ky FF c) (mk:=λi (_:Unit)=>(i:Int)) (N:=c.Inputs.length) (E:=λi=>nme c (2 * cA c + i)) (r:=λe=>e) (I:=λ_ _=>True) (λn i _ hi _=>by
  rw [Ky,Ao,dt_ hi,ct_,h.wa,Av om_ om_,show ((2 * cA c:Nat):Int) + (i:Int)=((2 * cA c + i:Nat):Int) by omega,Wh h om_ (hw.nm _) hF,ob_];refine ⟨λh0=>⟨(),trivial,?_⟩,λh0=>?_⟩
  ·rw [h0,zf_,cf_,Aq om_]
  ·rw [show (nme c (2 * cA c + i) != 0)=true by simpa using h0,ct_]) (λn _ _=>by
  rw [Ky,Ao,df_ om_,cf_]) c.Inputs.length FF 0 () om_ uF trivial
 try dsimp only at A1 B1
 rw [n0] at A1 B1;generalize DW (λi=>nme c (2 * cA c + i)) c.Inputs.length 0=E1 at A1 B1;rcases A1 with ⟨z1,m2,k2,A1⟩ | ⟨z1,A1⟩
 case inr=>
  rcases B1 with ⟨z2,_⟩ | ⟨_,B1⟩
  ·exact absurd z2 z1
  rw [A1,B1];exact ⟨E1,rfl,rfl,λh=>absurd h z1⟩
 rcases B1 with ⟨_,_,_,B1⟩ | ⟨z2,_⟩
 case inr=>exact absurd z1 z2
 rw [A1,B1,ob_,ob_];dsimp only;have hget:∀ i,i < c.Signals.length->∃ x,c.Signals[i]?=some x/\sgE c i=sge c i x:=λi hi=>⟨c.Signals[i],gE_ hi,by unfold sgE;rw [gE_ hi]⟩;have A2:=fnzI (L:=Ku FF c) (mk:=λi m=>((i:Int),m)) (N:=c.Signals.length) (E:=sgE c) (r:=λe=>Sum.inl e) (I:=λi m=>Zv c (cS c + i) m) (λn i m hi hm=>by
  obtain ⟨x,hx,hsg⟩:=hget i hi;obtain ⟨m',hm',hk'⟩:=CH h hw hx hm;rw [Ku,hsg];dsimp only;rw [Ao,dt_ hi,ct_,hm',ob_];dsimp only;refine ⟨λh0=>⟨m',hk' h0,?_⟩,λh0=>?_⟩
  ·rw [h0,zf_,cf_,Aq om_]
  ·rw [show (sge c i x != 0)=true by simpa using h0,ct_]) (λn m _=>by
  rw [Ku];dsimp only;rw [Ao,df_ om_,cf_]) c.Signals.length FF 0 m2 om_ uF k2
 have B2:=fnzI (L:=Kx FF c) (mk:=λi (_:Unit)=>(i:Int)) (N:=c.Signals.length) (E:=sgE c) (r:=λe=>e) (I:=λ_ _=>True) (λn i _ hi _=>by
  obtain ⟨x,hx,hsg⟩:=hget i hi;rw [Kx,Ao,dt_ hi,ct_,CN h hw hx,ob_,hsg];refine ⟨λh0=>⟨(),trivial,?_⟩,λh0=>?_⟩
  ·rw [h0,zf_,cf_,Aq om_]
  ·rw [show (sge c i x != 0)=true by simpa using h0,ct_]) (λn _ _=>by
  rw [Kx,Ao,df_ om_,cf_]) c.Signals.length FF 0 () om_ uF trivial
 try dsimp only at A2 B2
 rw [n0] at A2 B2;have hz:DW (sgE c) c.Signals.length 0=0->∀ j,j < c.Signals.length->sgE c j=0:=λh j hj=>Wt h j om_ om_;generalize DW (sgE c) c.Signals.length 0=E2 at A2 B2 hz;rcases A2 with ⟨z1,m3,k3,A2⟩ | ⟨z1,A2⟩
 case inr=>
  rcases B2 with ⟨z2,_⟩ | ⟨_,B2⟩
  ·exact absurd z2 z1
  rw [A2,B2];exact ⟨E2,rfl,rfl,λh=>absurd h z1⟩
 rcases B2 with ⟨_,_,_,B2⟩ | ⟨z2,_⟩
 case inr=>exact absurd z1 z2
 rw [A2,B2,ob_,ob_];dsimp only;rw [CM h];refine ⟨plE c,?_,rfl,λh0=>?_⟩
 ·unfold plE;by_cases h1:(c.Plus.length:Int)≠c.Actuators\/(c.Minus.length:Int)≠c.Actuators
  ·rw [if_pos h1,show (((c.Plus.length:Int) != c.Actuators) || ((c.Minus.length:Int) != c.Actuators))=true by simpa using h1,ct_];rfl
  ·rw [if_neg h1,show (((c.Plus.length:Int) != c.Actuators) || ((c.Minus.length:Int) != c.Actuators))=false by simp;omega,cf_];have h6:=h.a6;rw [Pg om_ om_,ob_,CT h so_,ob_];cases (c.Plus ++ c.Minus).any (bad (cL c)) <;> rfl
 ·unfold plE at h0;split at h0
  ·contradiction
  ·split at h0
   ·contradiction
   ·rename_i h1 h2;have h6:=h.a;have hsz:∀ x∈c.Signals,(0<=x.Kind/\x.Kind < 3/\okE 16 (cL c) x.On/\(x.Kind=1->okE 16 (cL c) x.Off))/\(x.Kind=2->x.Init=false):=λx hx=>by
     obtain ⟨i,hi⟩:=JX hx;have h5:=hz z1 i (GG.1 hi).1;have:sge c i x=0:=by
      unfold sgE at h5;rw [hi] at h5;exact h5
     exact D1 hw hi this
    refine ⟨h,λx hx=>(hsz x hx).1,by omega,by omega,λl hl=>?_,λx hx=>(hsz x hx).2⟩
    ·have h5:(c.Plus ++ c.Minus).any (bad (cL c))=false:=by simpa using h2
     have:=HN.1 h5 l hl;unfold bad at this;simp at this;omega
theorem EG (c:Aa):∃ b,m79 FF c=some b/\(b=true->Fw c/\(c.Signals.length<=16\/64 < c.Signals.length)):=by
 unfold m79;by_cases h1:c.Inputs.length > 32\/(c.Signals.length > 16/\c.Signals.length<=64)\/c.Signals.length > 128\/c.Plus.length > 40\/c.Minus.length > 40
 ·have:(((((decide ((c.Inputs.length:Int) > 32)) || ((decide ((c.Signals.length:Int) > 16)) && (decide ((c.Signals.length:Int)<=(64:Int))))) || (decide ((c.Signals.length:Int) > 128))) || (decide ((c.Plus.length:Int) > 40))) || (decide ((c.Minus.length:Int) > 40)))=true:=by
   simp;omega
  rw [this];exact ⟨false,rfl,by simp⟩
 ·have:(((((decide ((c.Inputs.length:Int) > 32)) || ((decide ((c.Signals.length:Int) > 16)) && (decide ((c.Signals.length:Int)<=(64:Int))))) || (decide ((c.Signals.length:Int) > 128))) || (decide ((c.Plus.length:Int) > 40))) || (decide ((c.Minus.length:Int) > 40)))=false:=by
   simp;omega
  rw [this,cf_];have h2:=Ub (L:=Yl c) (xs:=c.Inputs) (p:=λ_ x=>some (decide ((x.size:Int) > 200))) (q:=λx=>decide ((x.size:Int) > 200)) (r:=λ_=>false) (λ_ _=>rfl) om_ (λ_ _ _=>rfl) FF 0 om_ uF;rw [n0,GL] at h2;cases hc:c.Inputs.findIdx? (λx=>decide ((x.size:Int) > 200)) with
  | some j=>rw [hc] at h2;rw [h2];exact ⟨false,rfl,by simp⟩
  | none=>
   rw [hc] at h2;rw [h2,ob_];dsimp only;rw [HH] at hc;have hF:600<=FF:=by unfold FF;omega
   let q:Af->Bool:=λx=>decide ((x.Name.size:Int) > 200) || !((m104 FF x.On).getD false) || !((m104 FF x.Off).getD false)
   have h3:=Ub (L:=Ut FF c) (xs:=c.Signals) (p:=λ_ x=>some (q x)) (q:=q) (r:=λ_=>false) (λn z=>by
    rw [Ut];congr 1;cases hx:idx c.Signals z with
    | none=>rfl
    | some x=>
     rw [ob_,ob_,ob_];obtain ⟨b1,e1,_⟩:=Ji hF x.On;obtain ⟨b2,e2,_⟩:=Ji hF x.Off;show _=bif q x then _ else _;simp only [q];rw [e1,e2];cases decide ((x.Name.size:Int) > 200) <;> cases b1 <;> cases b2 <;> rfl) om_ (λ_ _ _=>rfl) FF 0 om_ (by unfold FF; omega)
   rw [n0,GL] at h3;cases hd:c.Signals.findIdx? q with
   | some j=>rw [hd] at h3;rw [h3];exact ⟨false,rfl,by simp⟩
   | none=>
    rw [hd] at h3;rw [h3];rw [HH] at hd;refine ⟨true,rfl,λ_=>⟨⟨λs hs=>?_,λx hx=>?_,λx hx=>?_,λx hx=>?_⟩,by omega⟩⟩
    ·have:=hc s hs;simp at this;omega
    ·have:=hd x hx;simp only [q,JO,decide_eq_false_iff_not] at this;omega
    ·have:=hd x hx;simp only [q,JO,decide_eq_false_iff_not] at this;obtain ⟨b,e,hb⟩:=Ji hF x.On;have h5:=this.1.2;rw [e] at h5;have h5:b=true:=by simpa using h5
     exact ⟨hb h5,by rw [e,h5]⟩
    ·have:=hd x hx;simp only [q,JO,decide_eq_false_iff_not] at this;obtain ⟨b,e,hb⟩:=Ji hF x.Off;have h5:=this.2;rw [e] at h5;have h5:b=true:=by simpa using h5
     exact ⟨hb h5,by rw [e,h5]⟩
end Go.Pn
namespace Go.Pn
open Go
theorem Qe {S σ:Type} {L:Nat->S->Option S} {mk:Nat->σ->S} {N:Nat} {I:Nat->σ->Prop}
  (h:∀ (n i:Nat) s,i < N->I i s->∃ s',I (i + 1) s'/\L (n + 1) (mk i s)=L n (mk (i + 1) s')) (h':∀ (n:Nat) s,I N s->L (n + 1) (mk N s)=some (mk N s)) :
  ∀ (n i:Nat) s,i<=N->N - i < n->I i s->∃ s',I N s'/\L n (mk i s)=some (mk N s')
 | 0,i,_,_,h,_=>by omega
 | n + 1,i,s,h1,h2,hI=>by
  by_cases hi:i < N
  ·obtain ⟨s',h3,h4⟩:=h n i s hi hI;rw [h4];exact Qe h h' n (i + 1) s' om_ om_ h3
  ·obtain rfl:i=N:=by omega
   exact ⟨s,hI,h' n s hI⟩
def upd {α:Type} (f:Nat->α) (l:List α) (i:Nat):List α:=(List.range i).map f ++ l.drop i
theorem Bz {α:Type} {f:Nat->α} {l:List α}:upd f l 0=l:=by simp [upd]
theorem Dm {α:Type} {f:Nat->α} {l:List α}:upd f l l.length=(List.range l.length).map f:=by simp [upd]
theorem Ka {α:Type} {f:Nat->α} {l:List α} {i:Nat} (h:i<=l.length):(upd f l i).length=l.length:=by simp [upd];omega
theorem Cb {α:Type} {f:Nat->α} {l:List α} {i j:Nat} (h:i<=j):(upd f l i)[j]?=l[j]?:=by
 unfold upd;rw [G4 so_,J8];congr 1;simp;omega
theorem Dl {α:Type} {f:Nat->α} {l:List α} {i:Nat} {y:α} (h:i < l.length) (hy:y=f i):(upd f l i).set i y=upd f l (i + 1):=by
 subst hy;refine H2 λj=>?_;by_cases e:j=i
 ·subst e;rw [HF (by rw [Ka om_];exact h)];unfold upd;rw [GO smp_];simp
 ·rw [HT om_];by_cases h2:j < i
  ·unfold upd;rw [GO so_,GO so_];simp [h2,show j < i + 1 by omega]
  ·rw [Cb om_,Cb om_]
structure Rc (c:Aa):Prop where
 rt:Rt c
 fw:Fw c
 ck:m122 FF c=some 0
 ck':m138 FF c=some 0
structure Fit (c:Aa) (s:Ac):Prop where
 e:s.Ends.length=cA c
 v:s.Valves.length=cA c
 i:s.Inputs.length=c.Inputs.length
 x:s.Values.length=c.Signals.length
 t:s.Timers.length=c.Signals.length
 ee:∀ a∈s.Ends,0<=a/\a < 4
 tt:∀ a∈s.Timers,0<=a/\a < 3
 k:∀ (i:Nat) x t v,c.Signals[i]?=some x->s.Timers[i]?=some t->s.Values[i]?=some v->(x.Kind≠2->t=0)/\(x.Kind=2->v=(t == 2))
def DJ (s:Ac):List Bool:=s.Ends.flatMap λe=>[e == 0,e == 2]
def pre (s:Ac):List Bool:=DJ s ++ s.Inputs
def vals (s:Ac):List Bool:=pre s ++ s.Values
theorem Pv {l:List Int}:(l.flatMap λe=>[e == 0,e == 2]).length=2 * l.length:=by
 induction l with
 | nil=>rfl
 | cons a l ih=>rw [KG,GB,ih];simp;omega
theorem FS:∀ {l:List Int} {j:Nat},(l.flatMap λe=>[e == 0,e == 2])[j]?=(l[j / 2]?).map λe=>if j % 2=0 then e == 0 else e == 2
 | [],j=>by simp
 | a :: l,0=>by simp
 | a :: l,1=>by simp
 | a :: l,j + 2=>by
  rw [KG];show (List.flatMap (λe=>[e == 0,e == 2]) l)[j]?=_;rw [FS,show (j + 2) / 2=j / 2 + 1 by omega,show (j + 2) % 2=j % 2 by omega];rfl
theorem Fit.pl {c:Aa} {s:Ac} (h:Fit c s):(pre s).length=cS c:=by
 unfold pre DJ;rw [GB,Pv,h.e,h.i];rfl
theorem Fit.vl {c:Aa} {s:Ac} (h:Fit c s):(vals s).length=cL c:=by
 unfold vals;rw [GB,h.pl,h.x];rfl
theorem AZ {l:List Int} {i:Nat} (h:i < l.length):(l.take (i + 1)).flatMap (λe=>[e == 0,e == 2])=(l.take i).flatMap (λe=>[e == 0,e == 2]) ++ [l[i] == 0,l[i] == 2]:=by
 rw [JV,gE_ h,List.flatMap_append];simp
theorem Oi {c:Aa} {s:Ac} (hb:Bd_ c) (h1:s.Ends.length=cA c) (h2:s.Inputs.length<=1000) (h3:s.Values.length<=1000):m200 FF c s=some (vals s):=by
 have ha:=hb.a';unfold m200;obtain ⟨acc,he,hl⟩:=Qe (L:=Em c s) (mk:=λi acc=>((i:Int),acc)) (N:=cA c) (I:=λi acc=>acc=(s.Ends.take i).flatMap λe=>[e == 0,e == 2]) (λn i acc hi hI=>by
  subst hI;refine ⟨_,rfl,?_⟩;rw [Em];dsimp only;have hlen:((s.Ends.take i).flatMap λe=>[e == 0,e == 2]).length<=1000:=by rw [Pv,JN];omega
  unfold app;rw [hb.a,Ao,dt_ hi,ct_,Am,gE_ om_,ob_,ob_,if_pos (by simp only [JE,KQ];omega),ob_,Aq om_,AZ om_]) (λn acc _=>by
  rw [Em];dsimp only;rw [hb.a,Ao,df_ om_,cf_]) FF 0 [] om_ uF rfl
 subst he;try dsimp only at hl
 rw [n0] at hl;rw [hl,ob_];dsimp only;rw [HE om_];have h4:(s.Ends.flatMap λe=>[e == 0,e == 2]).length<=1000:=by rw [Pv];omega
 unfold app;rw [if_pos om_,ob_,if_pos (by rw [GB];omega),ob_];rfl
theorem B6:∀ {c:Aa} {s:Ac} {n z},Cd c s n z=Em c s n z:=by
 intro c s n
 induction n with
 | zero=>intro z;rfl
 | succ n ih=>intro z;rw [Cd,Em];simp only [ih]
theorem Oj {c:Aa} {s:Ac} (hb:Bd_ c) (h1:s.Ends.length=cA c) (h2:s.Inputs.length<=1000) (h3:s.Values.length<=1000):Ri FF c s=some (vals s):=by
 rw [← Oi hb h1 h2 h3];unfold Ri m200;simp only [B6]
theorem Ly {s:Ac} (h1:s.Ends.length<=1000):Dy s FF ((0:Int),[])=some ((s.Ends.length:Int),DJ s):=by
 obtain ⟨acc,he,hl⟩:=Qe (L:=Dy s) (mk:=λi acc=>((i:Int),acc)) (N:=s.Ends.length) (I:=λi acc=>acc=(s.Ends.take i).flatMap λe=>[e == 0,e == 2]) (λn i acc hi hI=>by
  subst hI;refine ⟨_,rfl,?_⟩;rw [Dy];dsimp only;have hlen:((s.Ends.take i).flatMap λe=>[e == 0,e == 2]).length<=10000:=by rw [Pv,JN];omega
  unfold app;rw [Ao,dt_ hi,ct_,Am,gE_ om_,ob_,if_pos (by simp only [JE,KQ];omega),ob_,Aq om_,AZ om_]) (λn acc _=>by
  rw [Dy];dsimp only;rw [Ao,df_ om_,cf_]) FF 0 [] om_ uF rfl
 subst he;try dsimp only at hl
 rw [n0] at hl;rw [hl,HE om_];rfl
theorem BZ {s:Ac} (h1:s.Ends.length<=1000) (h2:s.Inputs.length<=1000) (h3:s.Values.length<=1000):m211 FF s=some (vals s):=by
 unfold m211;rw [Ly h1,ob_];dsimp only;have h4:(DJ s).length<=10000:=by unfold DJ;rw [Pv];omega
 unfold app;rw [if_pos om_,ob_,if_pos (by rw [GB];omega),ob_];rfl
theorem BN {p q r:List Bool} (hp:p.length<=1000000) (hq:q.length<=1000000) (hr:r.length<=1000000):m275 FF [p,q,r]=some (p ++ q ++ r):=by
 unfold m275;have h1:Dw [p,q,r] FF ((0:Int),(0:Int))=some (((p.length + q.length + r.length:Nat):Int),3):=by
  show Dw [p,q,r] (99996 + 1 + 1 + 1 + 1) _=_;unfold Dw;rw [show decide ((0:Int) < (([p,q,r]:List (List Bool)).length:Int))=true by rfl,ct_,show idx [p,q,r] 0=some p by rfl,ob_];dsimp only;rw [Av om_ om_,Av om_ om_,df_ om_,cf_];unfold Dw;rw [show decide ((0:Int) + 1 < (([p,q,r]:List (List Bool)).length:Int))=true by rfl,ct_,show idx [p,q,r] (0 + 1)=some q by rfl,ob_];dsimp only;rw [Av om_ om_,Av om_ om_,df_ om_,cf_];unfold Dw;rw [show decide ((0:Int) + 1 + 1 < (([p,q,r]:List (List Bool)).length:Int))=true by rfl,ct_,show idx [p,q,r] (0 + 1 + 1)=some r by rfl,ob_];dsimp only;rw [Av om_ om_,Av om_ om_,df_ om_,cf_];unfold Dw;rw [show decide ((0:Int) + 1 + 1 + 1 < (([p,q,r]:List (List Bool)).length:Int))=false by rfl,cf_];congr 1;refine Prod.ext ?_ rfl;dsimp only;omega
 have h2:Dv [p,q,r] FF ((0:Int),[])=some ((3:Int),p ++ q ++ r):=by
  show Dv [p,q,r] (99996 + 1 + 1 + 1 + 1) _=_;unfold Dv app;rw [show decide ((0:Int) < (([p,q,r]:List (List Bool)).length:Int))=true by rfl,ct_,show idx [p,q,r] 0=some p by rfl,ob_,if_pos so_,ob_];dsimp only;rw [Av om_ om_];unfold Dv app;rw [show decide ((0:Int) + 1 < (([p,q,r]:List (List Bool)).length:Int))=true by rfl,ct_,show idx [p,q,r] (0 + 1)=some q by rfl,ob_,if_pos so_,ob_];dsimp only;rw [Av om_ om_];unfold Dv app;rw [show decide ((0:Int) + 1 + 1 < (([p,q,r]:List (List Bool)).length:Int))=true by rfl,ct_,show idx [p,q,r] (0 + 1 + 1)=some r by rfl,ob_,if_pos so_,ob_];dsimp only;rw [Av om_ om_];unfold Dv;rw [show decide ((0:Int) + 1 + 1 + 1 < (([p,q,r]:List (List Bool)).length:Int))=false by rfl,cf_];rfl
 rw [h1,ob_];unfold m283;rw [if_pos (by dsimp only;omega),ob_,h2];rfl
theorem AK:∀ {s:Ac} {n z},Nz s.Ends n z=Dy s n z:=by
 intro s n
 induction n with
 | zero=>intro z;rfl
 | succ n ih=>intro z;rw [Nz,Dy];simp only [ih]
theorem Vj {s:Ac} (h1:s.Ends.length<=1000) (h2:s.Inputs.length<=1000) (h3:s.Values.length<=1000) (a b c d e f):m267 FF a b c d e f s.Ends s.Valves s.Inputs s.Values s.Timers=some (vals s):=by
 unfold m267;rw [AK,Ly h1,ob_];dsimp only;have h4:(DJ s).length<=10000:=by unfold DJ;rw [Pv];omega
 rw [BN om_ om_ om_,ob_];rfl
theorem Jd {xs:List Int} (h:xs.length<=1000):m209 FF xs=some xs:=by
 unfold m209 app;rw [if_pos so_];rfl
theorem Dg {xs:List Bool} (h:xs.length<=1000):m210 FF xs=some xs:=by
 unfold m210 app;rw [if_pos so_];rfl
def tup (s:Ac):(List Int)×(List Bool)×(List Bool)×(List Bool)×(List Int):=(s.Ends,s.Valves,s.Inputs,s.Values,s.Timers)
theorem Dh {s:Ac} (h:Smst s 1000):m141 FF s=some (tup s):=by
 obtain ⟨h1,h2,h3,h4,h5⟩:=h;unfold m141 app;rw [if_pos so_,ob_,if_pos so_,ob_,if_pos so_,ob_,if_pos so_,ob_,if_pos so_,ob_];rfl
theorem Oa {s:Ac} (h:Smst s 1000):m248 FF s=some (tup s):=by
 obtain ⟨h1,h2,h3,h4,h5⟩:=h;unfold m248;rw [Jd h1,ob_,Dg h2,ob_,Dg h3,ob_,Dg h4,ob_,Jd h5,ob_];rfl
theorem Wa {s:Ac} (h:Smst s 1000):m181 FF s=some (tup s):=Oa h
theorem Fit.sm {c:Aa} {s:Ac} (hb:Bd_ c) (h:Fit c s):Smst s 1000:=by
 have h1:=hb.a';have h2:=hb.i;have h3:=hb.s;obtain ⟨a1,a2,a3,a4,a5⟩:=h;constructor <;> omega
def Pu (c:Aa) (p:List Bool) (i:Nat) (v:List Bool):List Bool:=match c.Signals[i]? with
 | some x=>if x.Kind=0 then v.set i (ev 16 (p ++ v) x.On) else v
 | none=>v
def Ei (c:Aa) (s:Ac):Nat->List Bool
 | 0=>s.Values
 | i + 1=>Pu c (pre s) i (Ei c s i)
def Aw (c:Aa) (s:Ac):Ac:=⟨s.Ends,s.Valves,s.Inputs,Ei c s c.Signals.length,s.Timers⟩
theorem Ee {c:Aa} {s:Ac}:∀ {i:Nat},(Ei c s i).length=s.Values.length
 | 0=>rfl
 | i + 1=>by
  unfold Ei Pu;split
  ·split
   ·rw [JJ,Ee]
   ·exact Ee
  ·exact Ee
theorem A4 {p v:List Bool} {i:Nat} {b:Bool}:(p ++ v).set (p.length + i) b=p ++ v.set i b:=by
 rw [List.set_append];rw [if_neg om_];congr 2;omega
theorem Wf {c:Aa} {s:Ac} (hc:Rt c) (h:Fit c s):m165 FF c s=some (Aw c s):=by
 have hb:=hc.bd;have h1:=hb.a';have h2:=hb.i;have h3:=hb.s;unfold m165;rw [Dh (h.sm hb),ob_];obtain ⟨v,he,hl⟩:=Qe (L:=Ep FF c (tup s)) (mk:=λi v=>((i:Int),v)) (N:=c.Signals.length) (I:=λi v=>v=Ei c s i) (λn i v hi hI=>by
  subst hI;refine ⟨_,rfl,?_⟩;have hx:c.Signals[i]?=some c.Signals[i]:=gE_ hi;have hvl:=Ee (c:=c) (s:=s) (i:=i);rw [Ep];dsimp only;rw [Ao,dt_ hi,ct_,Am,hx,ob_,Aq om_];show _=Ep FF c (tup s) n (((i + 1:Nat):Int),Pu c (pre s) i (Ei c s i));unfold Pu;rw [hx];dsimp only;by_cases hk:c.Signals[i].Kind=0
  ·rw [if_pos hk,show (c.Signals[i].Kind == 0)=true by simpa using hk,ct_,ob_];obtain ⟨_,_,ho,_⟩:=hc.sig _ (GF hi);have hv:vals ⟨(tup s).1,(tup s).2.1,(tup s).2.2.1,Ei c s i,(tup s).2.2.2.2⟩=pre s ++ Ei c s i:=rfl;rw [Oi hb (by show s.Ends.length=_;exact h.e) (by show s.Inputs.length<=_;rw [h.i];omega) (by show (Ei c s i).length<=_;rw [hvl,h.x];omega),hv,ob_,Jf 16 FF _ _ (by rw [GB,h.pl,hvl,h.x];exact ho) uF,ob_,Am,gE_ (by rw [hvl,h.x];exact hi),ob_,ob_];simp
  ·rw [if_neg hk,show (c.Signals[i].Kind == 0)=false by simpa using hk,cf_,ob_]) (λn v _=>by
  rw [Ep];dsimp only;rw [Ao,df_ om_,cf_]) FF 0 s.Values om_ uF rfl
 subst he;try dsimp only at hl
 rw [n0] at hl;show ((Ep FF c (tup s) FF ((0:Int),s.Values)).bind _)=_;rw [hl];rfl
theorem BO {c:Aa} {s:Ac} (hc:Rt c) (h:Fit c s):m266 FF c.Actuators (cS c:Int) c.Inputs c.Signals c.Plus c.Minus s.Ends s.Valves s.Inputs s.Values s.Timers=some (Ei c s c.Signals.length):=by
 have hb:=hc.bd;have h1:=hb.a';have h2:=hb.i;have h3:=hb.s;obtain ⟨s1,s2,s3,s4,s5⟩:=h.sm hb;unfold m266;rw [Vj s1 s3 s4,ob_];obtain ⟨v,he,hl⟩:=Qe (L:=Gx FF (cS c:Int) c.Signals) (mk:=λi (v:List Bool×List Bool)=>((i:Int),v.1,v.2)) (N:=c.Signals.length) (I:=λi v=>v=(Ei c s i,pre s ++ Ei c s i)) (λn i v hi hI=>by
  subst hI;refine ⟨_,rfl,?_⟩;have hx:c.Signals[i]?=some c.Signals[i]:=gE_ hi;have hvl:=Ee (c:=c) (s:=s) (i:=i);have hS:cS c=2 * cA c + c.Inputs.length:=rfl;rw [Gx];dsimp only;rw [Ao,dt_ hi,ct_,Am,hx,ob_,Aq om_,Av om_ om_];show _=Gx FF (cS c:Int) c.Signals n (((i + 1:Nat):Int),Pu c (pre s) i (Ei c s i),pre s ++ Pu c (pre s) i (Ei c s i));unfold Pu;rw [hx];dsimp only;by_cases hk:c.Signals[i].Kind=0
  ·rw [if_pos hk,show (c.Signals[i].Kind == 0)=true by simpa using hk,ct_];obtain ⟨_,_,ho,_⟩:=hc.sig _ (GF hi);rw [Jc 16 FF _ _ (by rw [GB,h.pl,hvl,h.x];exact ho) uF,ob_,Am,gE_ (by rw [hvl,h.x];exact hi),ob_,show (cS c:Int) + (i:Int)=((cS c + i:Nat):Int) by omega,Am,gE_ (by rw [GB,h.pl,hvl,h.x];omega),ob_,ob_];dsimp only;rw [show ((cS c + i:Nat):Int).toNat=(pre s).length + i by rw [h.pl];omega,A4];simp
  ·rw [if_neg hk,show (c.Signals[i].Kind == 0)=false by simpa using hk,cf_,ob_]) (λn v _=>by
  rw [Gx];dsimp only;rw [Ao,df_ om_,cf_]) FF 0 (s.Values,vals s) om_ uF rfl
 subst he;try dsimp only at hl
 rw [n0] at hl;rw [hl];rfl
theorem okE.che:∀ {d:Nat} {n:Int} {x:Expr},okE d n x->chE d n x=0
 | 0,_,_,h=>h.elim
 | d + 1,n,x,h=>by
  unfold chE;rw [if_pos h.1];have:∀ l:List Expr,(∀ y∈l,okE d n y)->fnz (l.map (chE d n))=0:=by
   intro l
   induction l with
   | nil=>intro _;rfl
   | cons y l ih=>
    intro hl;rw [GR];unfold fnz;rw [if_pos (hl y smp_).che];exact ih λz hz=>hl z (by simp [hz])
  exact this _ h.2.2
theorem BY {n:Nat} {ls:List Bool} {x:Expr} (hx:Lt_ x) (ho:okE 16 n x) (hl:ls.length=n) (hn:n<=256):m212 FF x ls=some (ev 16 ls x,0):=by
 subst hl;unfold m212;rw [Oh hx om_ om_ uF,ho.che,ob_,zf_,cf_,Vm 16 FF _ _ ho uF];rfl
theorem CF {c:Aa} {s:Ac} (hc:Rt c) (hw:Fw c) (h:Fit c s):m175 FF c s=some (tup (Aw c s)):=by
 have hb:=hc.bd;have h1:=hb.a';have h2:=hb.i;have h3:=hb.s;obtain ⟨s1,s2,s3,s4,s5⟩:=h.sm hb;unfold m175;rw [Jd s1,ob_,Dg s2,ob_,Dg s3,ob_,Dg s4,ob_,Jd s5,ob_,BZ s1 s3 s4,ob_];have hS:cS c=2 * cA c + c.Inputs.length:=rfl;have hL:cL c=cS c + c.Signals.length:=rfl;obtain ⟨v,he,hl⟩:=Qe (L:=Hi FF c) (mk:=λi (v:List Bool×List Bool)=>((i:Int),v.1,v.2)) (N:=c.Signals.length) (I:=λi v=>v=(Ei c s i,pre s ++ Ei c s i)) (λn i v hi hI=>by
  subst hI;refine ⟨_,rfl,?_⟩;have hx:c.Signals[i]?=some c.Signals[i]:=gE_ hi;have hvl:=Ee (c:=c) (s:=s) (i:=i);rw [Hi];dsimp only;rw [Ao,dt_ hi,ct_,Am,hx,ob_,Je hb,Aq om_];show _=Hi FF c n (((i + 1:Nat):Int),Pu c (pre s) i (Ei c s i),pre s ++ Pu c (pre s) i (Ei c s i));unfold Pu;rw [hx];dsimp only;by_cases hk:c.Signals[i].Kind=0
  ·rw [if_pos hk,show (c.Signals[i].Kind == 0)=true by simpa using hk,ct_];obtain ⟨_,_,ho,_⟩:=hc.sig _ (GF hi);rw [BY (hw.on _ (GF hi)).1 ho (by rw [GB,h.pl,hvl,h.x];rfl) om_,ob_,ob_,Am,gE_ (by rw [hvl,h.x];exact hi),ob_,Av om_ om_,show (cS c:Int) + (i:Int)=((cS c + i:Nat):Int) by omega,Am,gE_ (by rw [GB,h.pl,hvl,h.x];omega),ob_,ob_];dsimp only;rw [show ((cS c + i:Nat):Int).toNat=(pre s).length + i by rw [h.pl];omega,A4];simp
  ·rw [if_neg hk,show (c.Signals[i].Kind == 0)=false by simpa using hk,cf_,ob_]) (λn v _=>by
  rw [Hi];dsimp only;rw [Ao,df_ om_,cf_]) FF 0 (s.Values,vals s) om_ uF rfl
 subst he;try dsimp only at hl
 rw [n0] at hl;rw [show vals (⟨s.Ends,s.Valves,s.Inputs,s.Values,s.Timers⟩:Ac)=vals s from rfl,hl];rfl
def ofb (ls:List Bool) (x:Af):Bool:=(x.Kind == 1) && ev 16 ls x.Off
def chg (ls:List Bool) (x:Af) (v:Bool) (t:Int):Bool×Int:=
 if x.Kind=1 then (if ev 16 ls x.On=ofb ls x then (v,t) else (ev 16 ls x.On,t))
 else if x.Kind=2 then (if ev 16 ls x.On=false then (false,0) else if t=0 then (v,1) else (v,t)) else (v,t)
def Fj (c:Aa) (g:Ac) (i:Nat):Bool×Int:=match c.Signals[i]? with
 | some x=>chg (vals g) x (g.Values.getD i false) (g.Timers.getD i 0)
 | none=>(false,0)
def nxtS (c:Aa) (g:Ac):Ac:=⟨g.Ends,g.Valves,g.Inputs,(List.range g.Values.length).map λi=>(Fj c g i).1,(List.range g.Timers.length).map λi=>(Fj c g i).2⟩
def Ke (c:Aa) (s:Ac):Ac:=nxtS c (Aw c s)
theorem Ey {c:Aa} {s:Ac} (h:Fit c s):Fit c (Aw c s):=by
 refine ⟨h.e,h.v,h.i,Ee.trans h.x,h.t,h.ee,h.tt,?_⟩;intro i x t v hx ht hv;refine ⟨λhk=>?_,λhk=>?_⟩
 ·have hi:i < s.Values.length:=by rw [h.x];exact (GG.1 hx).1
  exact (h.k i x t _ hx ht (gE_ hi)).1 hk
 ·-- the value of a timer is not a gate's
  have key:∀ n,(Ei c s n)[i]?=s.Values[i]?:=by
   intro n
   induction n with
   | zero=>rfl
   | succ n ih=>
    unfold Ei Pu;cases hy:c.Signals[n]? with
    | none=>exact ih
    | some y=>
     dsimp only;split
     ·rename_i h0;have:n≠i:=λe=>by subst e;rw [hx] at hy;cases hy;omega
      rw [HT this];exact ih
     ·exact ih
  have hv':(Ei c s c.Signals.length)[i]?=some v:=hv;rw [key] at hv';exact (h.k i x t v hx ht hv').2 hk
theorem FY {ls:List Bool} {x:Af} {v:Bool} {t:Int} (h0:0<=t/\t < 3) (h:(x.Kind≠2->t=0)/\(x.Kind=2->v=(t == 2))) :
  (0<=(chg ls x v t).2/\(chg ls x v t).2 < 3)/\(x.Kind≠2->(chg ls x v t).2=0)/\(x.Kind=2->(chg ls x v t).1=((chg ls x v t).2 == 2)):=by
 unfold chg;by_cases h1:x.Kind=1
 ·rw [if_pos h1];split
  ·exact ⟨h0,h⟩
  ·exact ⟨h0,h.1,λh2=>by omega⟩
 ·rw [if_neg h1];by_cases h2:x.Kind=2
  ·rw [if_pos h2];split
   ·exact ⟨by simp,λh3=>absurd h2 h3,λ_=>rfl⟩
   ·split
    ·rename_i ht;refine ⟨by simp,λh3=>absurd h2 h3,λ_=>?_⟩;have:=h.2 h2;rw [ht] at this;exact this
    ·exact ⟨h0,h⟩
  ·rw [if_neg h2];exact ⟨h0,h⟩
theorem D7 {c:Aa} {g:Ac} (h:Fit c g):Fit c (nxtS c g):=by
 have hget:∀ (i:Nat) x,c.Signals[i]?=some x->∃ v t,g.Values[i]?=some v/\g.Timers[i]?=some t/\Fj c g i=chg (vals g) x v t:=by
  intro i x hx;have hi:=(GG.1 hx).1;have h1:i < g.Values.length:=by rw [h.x];exact hi
  have h2:i < g.Timers.length:=by rw [h.t];exact hi
  refine ⟨g.Values[i],g.Timers[i],gE_ h1,gE_ h2,?_⟩;unfold Fj;rw [hx];simp [gE_ h1,gE_ h2]
 refine ⟨h.e,h.v,h.i,by simp [nxtS,h.x],by simp [nxtS,h.t],h.ee,?_,?_⟩
 ·intro a ha;obtain ⟨i,hi,rfl⟩:=JB.1 ha;have hi:i < c.Signals.length:=by have:=GZ.1 hi;rw [h.t] at this;exact this
  obtain ⟨v,t,h1,h2,h3⟩:=hget i _ (gE_ hi);rw [h3];exact (FY (h.tt t (GP h2)) (h.k i _ t v (gE_ hi) h2 h1)).1
 ·intro i x t v hx ht hv;obtain ⟨v0,t0,h1,h2,h3⟩:=hget i x hx;have hi:=(GG.1 hx).1;have ht':((List.range g.Timers.length).map λi=>(Fj c g i).2)[i]?=some t:=ht;have hv':((List.range g.Values.length).map λi=>(Fj c g i).1)[i]?=some v:=hv;rw [GU,HR (by rw [h.t];exact hi)] at ht';rw [GU,HR (by rw [h.x];exact hi)] at hv';have ht':=Option.some.inj ht';have hv':=Option.some.inj hv';dsimp only at ht' hv';rw [h3] at ht' hv';subst ht';subst hv';exact (FY (h.tt t0 (GP h2)) (h.k i x t0 v0 hx h2 h1)).2
theorem Sf {c:Aa} {s:Ac} (h:Fit c s):Fit c (Ke c s):=D7 (Ey h)
theorem Vk {c:Aa} {x:Af} {ls:List Bool} (hl:ls.length=cL c) (ho:okE 16 (cL c) x.On) (hf:x.Kind=1->okE 16 (cL c) x.Off):m262 FF x ls=some (ev 16 ls x.On,ofb ls x):=by
 unfold m262 ofb;rw [Jf 16 FF _ _ (by rw [hl];exact ho) uF,ob_];by_cases hk:x.Kind=1
 ·rw [show (x.Kind == 1)=true by simpa using hk,ct_,Jf 16 FF _ _ (by rw [hl];exact hf hk) uF];rfl
 ·rw [show (x.Kind == 1)=false by simpa using hk];rfl
theorem BP {c:Aa} {g:Ac} (hc:Rt c) (h:Fit c g) {i:Nat} {x:Af} (hx:c.Signals[i]?=some x):∃ s' b,m261 FF c g (i:Int)=some (s',b)/\s'.Values[i]?=some (Fj c g i).1/\s'.Timers[i]?=some (Fj c g i).2:=by
 have hb:=hc.bd;have h1:=hb.a';have h2:=hb.i;have h3:=hb.s;have hi:=(GG.1 hx).1;obtain ⟨k0,k3,ho,hf⟩:=hc.sig x (GP hx);have hv0:i < g.Values.length:=by rw [h.x];exact hi
 have ht0:i < g.Timers.length:=by rw [h.t];exact hi
 have hv:g.Values[i]?=some g.Values[i]:=gE_ hv0;have ht:g.Timers[i]?=some g.Timers[i]:=gE_ ht0;generalize g.Values[i]=v at hv;generalize g.Timers[i]=t at ht;have hci:Fj c g i=chg (vals g) x v t:=by
  unfold Fj;rw [hx];simp [hv,ht]
 unfold m261;rw [Dh (h.sm hb),ob_,Am,hx,ob_,Oj hb h.e (by rw [h.i];omega) (by rw [h.x];omega),ob_,Vk h.vl ho hf,ob_,hci];unfold tup chg;dsimp only;simp only [Am,hv,ht,ob_,G3];have hvl:i < g.Values.length:=by rw [h.x];exact hi
 have htl:i < g.Timers.length:=by rw [h.t];exact hi
 have hk:x.Kind=0\/x.Kind=1\/x.Kind=2:=by omega
 rcases hk with k | k | k <;> rw [k]
 ·simp only [show ((0:Int) == 1)=false by rfl,show ((0:Int) == 2)=false by rfl,HW,cf_,ob_,show ¬ ((0:Int)=1) by omega,show ¬ ((0:Int)=2) by omega,if_false];exact ⟨_,_,rfl,hv,ht⟩
 ·simp only [show ((1:Int) == 1)=true by rfl,show ((1:Int) == 2)=false by rfl,HJ,HW,cf_,ob_,if_true];by_cases e:ev 16 (vals g) x.On=ofb (vals g) x
  ·rw [if_pos e,e];simp only [bne_self_eq_false,cf_];exact ⟨_,_,rfl,hv,ht⟩
  ·rw [if_neg e,show (ev 16 (vals g) x.On != ofb (vals g) x)=true by simpa using e,ct_];exact ⟨_,_,rfl,by dsimp only;rw [HF hvl],ht⟩
 ·simp only [show ((2:Int) == 1)=false by rfl,show ((2:Int) == 2)=true by rfl,HJ,HW,cf_,ct_,ob_,show ¬ ((2:Int)=1) by omega,if_false,if_true];cases ev 16 (vals g) x.On with
  | false=>
   simp only [H0,ct_,if_true];exact ⟨_,_,rfl,by dsimp only;rw [HF hvl],by dsimp only;rw [HF htl]⟩
  | true=>
   simp only [HS,cf_,show ¬ (true=false) by simp,if_false];by_cases e:t=0
   ·rw [if_pos e,show (t == 0)=true by simpa using e,ct_];exact ⟨_,_,rfl,hv,by dsimp only;rw [HF htl];rfl⟩
   ·rw [if_neg e,show (t == 0)=false by simpa using e,cf_];exact ⟨_,_,rfl,hv,ht⟩
def onPi (c:Aa) (g:Ac) (i:Nat) (x:Int):Prop:=∃ j sig,j < i/\c.Signals[j]?=some sig/\x=((cS c + j:Nat):Int)/\(ev 16 (vals g) sig.On && ofb (vals g) sig)=true
def onP (c:Aa) (s:Ac) (x:Int):Prop:=onPi c (Aw c s) c.Signals.length x
theorem Ul {c:Aa} {g:Ac} {x:Int}:¬ onPi c g 0 x:=λ⟨j,_,h,_⟩=>by omega
theorem Um {c:Aa} {g:Ac} {i:Nat} {x:Int} (hi:i < c.Signals.length):onPi c g (i + 1) x↔onPi c g i x\/(x=((cS c + i:Nat):Int)/\(ev 16 (vals g) c.Signals[i].On && ofb (vals g) c.Signals[i])=true):=by
 constructor
 ·rintro ⟨j,sig,h1,h2,h3,h4⟩;by_cases h:j=i
  ·subst h;rw [gE_ hi] at h2;cases h2;exact .inr ⟨h3,h4⟩
  ·exact .inl ⟨j,sig,by omega,h2,h3,h4⟩
 ·rintro (⟨j,sig,h1,h2,h3,h4⟩ | ⟨h3,h4⟩)
  ·exact ⟨j,sig,by omega,h2,h3,h4⟩
  ·exact ⟨i,_,by omega,gE_ hi,h3,h4⟩
theorem onP_lt {c:Aa} {s:Ac} {x:Int} (h:onP c s x):∃ k:Nat,x=k/\k < cL c:=by
 obtain ⟨j,_,h1,_,h3,_⟩:=h;exact ⟨_,h3,by have hL:cL c=cS c + c.Signals.length:=rfl;omega⟩
theorem BE {l:List Int} {x y:Int} {b:Bool} {p:Int->Prop} (h:∀ x,x∈l↔p x):x∈(if b=true then l ++ [y] else l)↔p x\/(x=y/\b=true):=by
 cases b
 ·rw [if_neg smp_,h];simp
 ·rw [if_pos rfl,GN,h];simp
theorem BR {c:Aa} {s:Ac} (hc:Rt c) (h:Fit c s):∃ l,m242 FF c s=some (Ke c s,l)/\l.length<=c.Signals.length/\∀ x,x∈l↔onP c s x:=by
 have hb:=hc.bd;have h1:=hb.a';have h2:=hb.i;have h3:=hb.s;have hg:=Ey h;have hS:cS c=2 * cA c + c.Inputs.length:=rfl;unfold m242;rw [Wf hc h,ob_,Dh (hg.sm hb),ob_];generalize hgg:Aw c s=g at hg;have hvl:g.Values.length=c.Signals.length:=hg.x;have htl:g.Timers.length=c.Signals.length:=hg.t;obtain ⟨v,he,hl⟩:=Qe (L:=Gy FF c g) (mk:=λi (v:List Bool×List Int×List Int)=>((i:Int),v.1,v.2.1,v.2.2)) (N:=c.Signals.length) (I:=λi v=>v.1=upd (λi=>(Fj c g i).1) g.Values i/\v.2.1=upd (λi=>(Fj c g i).2) g.Timers i/\v.2.2.length<=i/\∀ x,x∈v.2.2↔onPi c g i x) (λn i v hi hI=>by
  obtain ⟨V,T,l⟩:=v;obtain ⟨rfl,rfl,hll,hmm⟩:=hI;have hx:c.Signals[i]?=some c.Signals[i]:=gE_ hi;obtain ⟨_,_,ho,hf⟩:=hc.sig _ (GF hi);obtain ⟨s',b,e1,e2,e3⟩:=BP hc hg hx;have e4:(upd (λi=>(Fj c g i).1) g.Values i)[i]?=some g.Values[i]:=by rw [Cb (G0 i)];exact gE_ om_
  have e5:(upd (λi=>(Fj c g i).2) g.Timers i)[i]?=some g.Timers[i]:=by rw [Cb (G0 i)];exact gE_ om_
  refine ⟨(upd (λi=>(Fj c g i).1) g.Values (i + 1),upd (λi=>(Fj c g i).2) g.Timers (i + 1),if (ev 16 (vals g) c.Signals[i].On && ofb (vals g) c.Signals[i])=true then l ++ [((cS c + i:Nat):Int)] else l),⟨rfl,rfl,?_⟩,?_⟩
  ·dsimp only at hll hmm ⊢;refine ⟨by split <;> (try simp) <;> omega,λx=>?_⟩
   rw [BE hmm,Um hi]
  ·rw [Gy];dsimp only at hll ⊢;rw [Ao,dt_ hi,ct_,e1,ob_];dsimp only;rw [Am,e2,ob_,Am,e3,ob_,Am,e4,ob_,Am,e5,ob_,Am,hx,ob_,Oj hb hg.e (by rw [hg.i];omega) om_,ob_,Vk hg.vl ho hf,ob_];dsimp only;unfold m263;rw [Eo hb,ob_,Av om_ om_,show (cS c:Int) + (i:Int)=((cS c + i:Nat):Int) by omega,Aq om_,G3,Dl om_ rfl,Dl om_ rfl];cases ev 16 (vals g) c.Signals[i].On && ofb (vals g) c.Signals[i] with
   | true=>
    unfold app;rw [ct_,ob_,if_pos so_];rfl
   | false=>rfl) (λn v _=>by
  rw [Gy];dsimp only;rw [Ao,df_ om_,cf_]) FF 0 (g.Values,g.Timers,[]) om_ uF ⟨Bz.symm,Bz.symm,by simp,λx=>by simp [Ul]⟩
 obtain ⟨V,T,l⟩:=v;obtain ⟨rfl,rfl,hll,hmm⟩:=he;try dsimp only at hl hll hmm
 rw [n0] at hl;show ∃ l,((Gy FF c g FF ((0:Int),g.Values,g.Timers,[])).bind _)=_/\_;rw [hl];refine ⟨l,?_,hll,by unfold onP;rw [hgg];exact hmm⟩;unfold Ke nxtS;rw [hgg,ob_];dsimp only;have e1:upd (λi=>(Fj c g i).1) g.Values c.Signals.length=(List.range g.Values.length).map λi=>(Fj c g i).1:=by rw [← hvl];exact Dm
 have e2:upd (λi=>(Fj c g i).2) g.Timers c.Signals.length=(List.range g.Timers.length).map λi=>(Fj c g i).2:=by rw [← htl];exact Dm
 rw [e1,e2];rfl
theorem BQ {c:Aa} {s:Ac} (hc:Rt c) (h:Fit c s):∃ l,m249 FF c.Actuators (cS c:Int) c.Inputs c.Signals c.Plus c.Minus s.Ends s.Valves s.Inputs s.Values s.Timers=some (!sst s (Ke c s),l,(Ke c s).Values,(Ke c s).Timers)/\l.length<=c.Signals.length/\∀ x,x∈l↔onP c s x:=by
 have hb:=hc.bd;have h1:=hb.a';have h2:=hb.i;have h3:=hb.s;have hg:=Ey h;have hS:cS c=2 * cA c + c.Inputs.length:=rfl;obtain ⟨s1,s2,s3,s4,s5⟩:=hg.sm hb;unfold m249 m268;rw [show (⟨s.Ends,s.Valves,s.Inputs,s.Values,s.Timers⟩:Ac)=s from rfl,Oa (h.sm hb),ob_,BO hc h,ob_];have h318:=Vj (s:=Aw c s) s1 s3 s4 c.Actuators (cS c:Int) c.Inputs c.Signals c.Plus c.Minus;rw [show (Aw c s).Ends=s.Ends from rfl,show (Aw c s).Valves=s.Valves from rfl,show (Aw c s).Inputs=s.Inputs from rfl,show (Aw c s).Timers=s.Timers from rfl,show (Aw c s).Values=Ei c s c.Signals.length from rfl] at h318;rw [h318,ob_,ob_];have hvl:(Ei c s c.Signals.length).length=c.Signals.length:=hg.x;have htl:s.Timers.length=c.Signals.length:=hg.t;obtain ⟨v,he,hl⟩:=Qe (L:=Kk FF (cS c:Int) c.Signals (vals (Aw c s))) (mk:=λi (v:List Bool×List Int×List Int)=>((i:Int),v.1,v.2.1,v.2.2)) (N:=c.Signals.length) (I:=λi v=>v.1=upd (λi=>(Fj c (Aw c s) i).1) (Ei c s c.Signals.length) i/\v.2.1=upd (λi=>(Fj c (Aw c s) i).2) s.Timers i/\v.2.2.length<=i/\∀ x,x∈v.2.2↔onPi c (Aw c s) i x) (λn i v hi hI=>by
  obtain ⟨V,T,l⟩:=v;obtain ⟨rfl,rfl,hll,hmm⟩:=hI;have hx:c.Signals[i]?=some c.Signals[i]:=gE_ hi;obtain ⟨k0,k3,ho,hf⟩:=hc.sig _ (GF hi);have e4:(upd (λi=>(Fj c (Aw c s) i).1) (Ei c s c.Signals.length) i)[i]?=some (Ei c s c.Signals.length)[i]:=by rw [Cb (G0 i)];exact gE_ om_
  have e5:(upd (λi=>(Fj c (Aw c s) i).2) s.Timers i)[i]?=some s.Timers[i]:=by rw [Cb (G0 i)];exact gE_ om_
  have hci:Fj c (Aw c s) i=chg (vals (Aw c s)) c.Signals[i] (Ei c s c.Signals.length)[i] s.Timers[i]:=by
   unfold Fj;rw [hx];simp [Aw,gE_ (show i < (Ei c s c.Signals.length).length by omega),gE_ (show i < s.Timers.length by omega)]
  have hbody:∃ b,(((bif (c.Signals[i].Kind.toNat) == 0 then m276 FF (⟨(Ei c s c.Signals.length)[i],s.Timers[i],false⟩:Ai) (ev 16 (vals (Aw c s)) c.Signals[i].On) (ofb (vals (Aw c s)) c.Signals[i]) else bif (c.Signals[i].Kind.toNat) == 1 then m277 FF (⟨(Ei c s c.Signals.length)[i],s.Timers[i],false⟩:Ai) (ev 16 (vals (Aw c s)) c.Signals[i].On) (ofb (vals (Aw c s)) c.Signals[i]) else bif (c.Signals[i].Kind.toNat) == 2 then m278 FF (⟨(Ei c s c.Signals.length)[i],s.Timers[i],false⟩:Ai) (ev 16 (vals (Aw c s)) c.Signals[i].On) (ofb (vals (Aw c s)) c.Signals[i]) else none)))=some (⟨(Fj c (Aw c s) i).1,(Fj c (Aw c s) i).2,b⟩:Ai)/\b=(ev 16 (vals (Aw c s)) c.Signals[i].On && ofb (vals (Aw c s)) c.Signals[i]):=by
   rw [hci];have hk:c.Signals[i].Kind=0\/c.Signals[i].Kind=1\/c.Signals[i].Kind=2:=by omega
   unfold chg;rcases hk with k | k | k <;> rw [k]
   ·exact ⟨false,rfl,by unfold ofb;rw [k];simp⟩
   ·rw [show ((1:Int).toNat == 0)=false by rfl,show ((1:Int).toNat == 1)=true by rfl,cf_,ct_,if_pos rfl];unfold m277;cases ev 16 (vals (Aw c s)) c.Signals[i].On <;> cases ofb (vals (Aw c s)) c.Signals[i] <;> exact ⟨_,rfl,rfl⟩
   ·rw [show ((2:Int).toNat == 0)=false by rfl,show ((2:Int).toNat == 1)=false by rfl,show ((2:Int).toNat == 2)=true by rfl,cf_,cf_,ct_,if_neg om_,if_pos rfl];unfold m278;cases ev 16 (vals (Aw c s)) c.Signals[i].On with
    | false=>exact ⟨_,rfl,rfl⟩
    | true=>
     rw [nt_,cf_,if_neg smp_];by_cases e:s.Timers[i]=0
     ·rw [if_pos e,show (s.Timers[i] == 0)=true by simpa using e];exact ⟨_,rfl,by unfold ofb;rw [k];rfl⟩
     ·rw [if_neg e,show (s.Timers[i] == 0)=false by simpa using e];exact ⟨_,rfl,by unfold ofb;rw [k];rfl⟩
  obtain ⟨b,hbody,hbe⟩:=hbody;refine ⟨(upd (λi=>(Fj c (Aw c s) i).1) (Ei c s c.Signals.length) (i + 1),upd (λi=>(Fj c (Aw c s) i).2) s.Timers (i + 1),if b=true then l ++ [((cS c + i:Nat):Int)] else l),⟨rfl,rfl,?_⟩,?_⟩
  ·dsimp only at hll hmm ⊢;refine ⟨by split <;> (try simp) <;> omega,λx=>?_⟩
   rw [BE hmm,Um hi,← hbe]
  ·rw [Kk];dsimp only at hll ⊢;have hr3:idx (List.range 3) c.Signals[i].Kind=some c.Signals[i].Kind.toNat:=by
    have hk:c.Signals[i].Kind=0\/c.Signals[i].Kind=1\/c.Signals[i].Kind=2:=by omega
    rcases hk with k | k | k <;> rw [k] <;> rfl
   have hoff:(bif (c.Signals[i].Kind == 1) then (m269 FF (c.Signals[i].Off) (vals (Aw c s))).bind λx19=>some x19 else some false)=some (ofb (vals (Aw c s)) c.Signals[i]):=by
    unfold ofb;by_cases hk:c.Signals[i].Kind=1
    ·rw [show (c.Signals[i].Kind == 1)=true by simpa using hk,ct_,Jc 16 FF _ _ (by rw [hg.vl];exact hf hk) uF];rfl
    ·rw [show (c.Signals[i].Kind == 1)=false by simpa using hk];rfl
   rw [Ao,dt_ hi,ct_,Am,hx,ob_,hr3,ob_,Am,e4,ob_,Am,e5,ob_,Jc 16 FF _ _ (by rw [hg.vl];exact ho) uF,ob_,hoff,ob_,hbody,ob_,ob_,ob_];dsimp only;rw [Av om_ om_,show (cS c:Int) + (i:Int)=((cS c + i:Nat):Int) by omega,Aq om_,G3,Dl om_ rfl,Dl om_ rfl];cases b with
   | true=>
    unfold app;rw [ct_,if_pos so_];rfl
   | false=>rfl) (λn v _=>by
  rw [Kk];dsimp only;rw [Ao,df_ om_,cf_]) FF 0 (Ei c s c.Signals.length,s.Timers,[]) om_ uF ⟨Bz.symm,Bz.symm,by simp,λx=>by simp [Ul]⟩
 obtain ⟨V,T,l⟩:=v;obtain ⟨rfl,rfl,hll,hmm⟩:=he;try dsimp only at hl hll hmm
 rw [n0] at hl;rw [hl,ob_];dsimp only;have e1:upd (λi=>(Fj c (Aw c s) i).1) (Ei c s c.Signals.length) c.Signals.length=(Ke c s).Values:=by
  unfold Ke nxtS;dsimp only
  conv=>lhs;rw [show c.Signals.length=(Ei c s c.Signals.length).length from hvl.symm]
  rw [show (Aw c s).Values=Ei c s c.Signals.length from rfl,hvl];rw [← hvl,hvl];have:=Dm (f:=λi=>(Fj c (Aw c s) i).1) (l:=Ei c s c.Signals.length);rw [hvl] at this;exact this
 have e2:upd (λi=>(Fj c (Aw c s) i).2) s.Timers c.Signals.length=(Ke c s).Timers:=by
  have:=Dm (f:=λi=>(Fj c (Aw c s) i).2) (l:=s.Timers);rw [htl] at this;rw [this];unfold Ke nxtS;dsimp only;rw [show (Aw c s).Timers=s.Timers from rfl,htl]
 rw [e1,e2];refine ⟨l,?_,hll,hmm⟩;have e3:(⟨s.Ends,s.Valves,s.Inputs,(Ke c s).Values,(Ke c s).Timers⟩:Ac)=Ke c s:=rfl;unfold tup;dsimp only;rw [e3,Ol (n:=1000) (h.sm hb) uF om_];rfl
end Go.Pn
namespace Go.Pn
open Go
theorem Az {α:Type} {xs ys:List α} (h:xs.length + ys.length<=1073741824):app xs ys=some (xs ++ ys):=if_pos h
def stl (c:Aa):Nat->Ac->Option Ac
 | 0,_=>none
 | k + 1,s=>if sst s (Ke c s)=true then some s else stl c k (Ke c s)
structure Kp (s t:Ac):Prop where
 e:t.Ends=s.Ends
 v:t.Valves=s.Valves
 i:t.Inputs=s.Inputs
theorem Lm {c:Aa}:∀ {k:Nat} {s t:Ac},Fit c s->stl c k s=some t->Fit c t/\Kp s t/\sst t (Ke c t)=true
 | 0,_,_,_,h=>by cases h
 | k + 1,s,t,hf,h=>by
  unfold stl at h;split at h
  ·rename_i h1;obtain rfl:=Option.some.inj h;exact ⟨hf,⟨rfl,rfl,rfl⟩,h1⟩
  ·obtain ⟨h1,⟨h2,h3,h4⟩,h5⟩:=Lm (Sf hf) h;exact ⟨h1,⟨h2,h3,h4⟩,h5⟩
def Cs (l:List Int) (p:Int->Prop):Prop:=l.Pairwise (· < ·)/\∀ x,x∈l↔p x
theorem Cs.eq {l l':List Int} {p:Int->Prop} (h:Cs l p) (h':Cs l' p):l=l':=Qj h.1 h'.1 λk=>(h.2 k).trans (h'.2 k).symm
theorem Cs.iff {l:List Int} {p q:Int->Prop} (h:Cs l p) (e:∀ x,p x↔q x):Cs l q:=⟨h.1,λx=>(h.2 x).trans (e x)⟩
theorem Cs.nil {p:Int->Prop} (h:∀ x,¬ p x):Cs [] p:=⟨.nil,λx=>by simp [h x]⟩
theorem Cs.snoc {l:List Int} {p:Int->Prop} {y:Int} (h:Cs l p) (hy:∀ x,p x->x < y):Cs (l ++ [y]) λx=>p x\/x=y:=
 ⟨List.pairwise_append.2 ⟨h.1,by simp,λa ha b hb=>by
  obtain rfl:b=y:=by simpa using hb
  exact hy a ((h.2 a).1 ha)⟩,λx=>by rw [GN,h.2];simp⟩
theorem AQ {zs:List Int} (h:zs.Pairwise (·<=·)):Cs (Lib.compact zs) (·∈zs):=by
 have hle:∀ i j,(_:i<=j)->(hj:j < zs.length)->zs[i]'om_<=zs[j]:=λi j hij hj=>by
  by_cases e:i=j
  ·subst e;exact K0 _
  ·exact JR.1 h i j om_ hj om_
 have hd:∀ i,(hi:i < zs.length)->zs.toArray[i]! = zs[i]:=λi hi=>by simp [hi]
 unfold Lib.compact Lib.compactUpTo;constructor
 ·rw [List.pairwise_map];refine (List.Pairwise.filter _ List.pairwise_lt_range).imp_of_mem λ{a b} ha hb hab=>?_;obtain ⟨ha1,_⟩:=KP.1 ha;obtain ⟨hb1,hb2⟩:=KP.1 hb;have ha1:=GZ.1 ha1;have hb1:=GZ.1 hb1;have hk:zs.toArray[b]! ≠ zs.toArray[b - 1]!:=(of_decide_eq_true hb2).resolve_left om_;rw [hd b hb1,hd (b - 1) om_] at hk;rw [hd a ha1,hd b hb1];have h1:=hle a (b - 1) om_ om_;have h2:=hle (b - 1) b om_ hb1;omega
 ·intro x;constructor
  ·intro hx;obtain ⟨i,hi,rfl⟩:=JB.1 hx;have hi:=GZ.1 (KP.1 hi).1;rw [hd i hi];exact GF hi
  ·intro hx;cases hf:zs.findIdx? (· == x) with
   | none=>
    rw [HH] at hf;have:=hf x hx;simp at this
   | some i=>
    obtain ⟨hi,h1,h2⟩:=G7.1 hf;have h1:zs[i]=x:=by simpa using h1
    refine JB.2 ⟨i,KP.2 ⟨List.mem_range.2 hi,dt_ ?_⟩,by rw [hd i hi,h1]⟩;by_cases h0:i=0
    ·exact .inl h0
    ·right;rw [hd i hi,hd (i - 1) om_,h1];have:=h2 (i - 1) om_;exact λe=>this (by simp [← e])
theorem Xv {l:List Int} (h:l.length<=900000000):∃ r1 r2,m216 FF l=some r1/\m217 FF r1=some r2/\r2.length<=l.length/\Cs r2 (·∈l):=by
 have hl:(isort l).length=l.length:=(isort_perm l).length_eq;refine ⟨isort l,Lib.compact (isort l),by unfold m216;rw [if_pos om_],by unfold m217;rw [if_pos om_],by rw [← hl];exact compact_le _,?_⟩;have hs:=isort_pw l;exact (AQ hs).iff λx=>(isort_perm l).mem_iff
def Zw (c:Aa):Nat->Ac->Int->Prop
 | 0,_,_=>False
 | k + 1,s,x=>onP c s x\/(sst s (Ke c s)=false/\Zw c k (Ke c s) x)
def mgP (m:List (Int×Bool)) (x:Int):Prop:=(mat Ww m x).getD false=true
theorem Vr (x6:Ac×List Int) (hl:x6.2.length<=1000) (m:List (Int×Bool)):∃ z m',Hb x6 FF ((0:Int),m)=some (z,m')/\∀ x,mgP m' x↔mgP m x\/x∈x6.2:=by
 obtain ⟨v,hv,h⟩:=Qe (L:=Hb x6) (mk:=λi (m:List (Int×Bool))=>((i:Int),m)) (N:=x6.2.length) (I:=λi v=>∀ x,mgP v x↔mgP m x\/x∈x6.2.take i) (λn i v hi hI=>by
  refine ⟨Mj Ww v x6.2[i] true,λx=>?_,?_⟩
  ·have h1:mgP (Mj Ww v x6.2[i] true) x↔x=x6.2[i]\/mgP v x:=by
    unfold mgP;rw [mat_put];split
    ·rename_i e;simp [e]
    ·rename_i e;simp [e]
   rw [h1,hI,JV,gE_ hi,GN];simp only [Option.toList_some,JL];constructor
   ·rintro (h | h | h)
    ·exact .inr (.inr h)
    ·exact .inl h
    ·exact .inr (.inl h)
   ·rintro (h | h | h)
    ·exact .inr (.inl h)
    ·exact .inr (.inr h)
    ·exact .inl h
  ·rw [Hb];dsimp only;rw [Ao,dt_ hi,ct_,Am,gE_ hi,ob_,Aq om_]) (λn m _=>by
  rw [Hb];dsimp only;rw [Ao,df_ om_,cf_]) FF 0 m om_ uF (λx=>by simp)
 try dsimp only at h
 rw [n0] at h;rw [List.take_length] at hv;exact ⟨_,_,h,hv⟩
theorem Vq {c:Aa} (hb:Bd_ c) (o:Int×List (Int×Bool)):∃ z l,Ha FF c o FF ((0:Int),[])=some (z,l)/\l.length<=cL c/\Cs l λx=>∃ k:Nat,x=k/\k < cL c/\mgP o.2 x:=by
 have h1:=hb.a';have h2:=hb.i;have h3:=hb.s;have hS:cS c=2 * cA c + c.Inputs.length:=rfl;have hL:cL c=cS c + c.Signals.length:=rfl;obtain ⟨v,⟨hv,hw⟩,h⟩:=Qe (L:=Ha FF c o) (mk:=λi (m:List Int)=>((i:Int),m)) (N:=cL c) (I:=λi l=>l.length<=i/\Cs l λx=>∃ k:Nat,x=k/\k < i/\mgP o.2 x) (λn i m hi hI=>by
  obtain ⟨hI,hC⟩:=hI;rw [Ha];dsimp only;rw [En hb,ob_,Ao,dt_ hi,ct_,Aq om_];cases hm:(mat Ww o.2 (i:Int)).getD false with
  | true=>
   unfold app;rw [ct_,if_pos so_];refine ⟨m ++ [(i:Int)],⟨by simp;omega,(hC.snoc (y:=(i:Int)) λx ⟨k,hk,hk2,_⟩=>by omega).iff λx=>?_⟩,rfl⟩;constructor
   ·rintro (⟨k,a1,a2,a3⟩ | rfl)
    ·exact ⟨k,a1,by omega,a3⟩
    ·exact ⟨i,rfl,by omega,hm⟩
   ·rintro ⟨k,rfl,a2,a3⟩;by_cases e:k=i
    ·subst e;exact .inr rfl
    ·exact .inl ⟨k,rfl,by omega,a3⟩
  | false=>
   refine ⟨m,⟨by omega,hC.iff λx=>?_⟩,rfl⟩;constructor
   ·rintro ⟨k,a1,a2,a3⟩;exact ⟨k,a1,by omega,a3⟩
   ·rintro ⟨k,rfl,a2,a3⟩;by_cases e:k=i
    ·subst e;unfold mgP at a3;rw [hm] at a3;cases a3
    ·exact ⟨k,rfl,by omega,a3⟩) (λn m _=>by
  rw [Ha];dsimp only;rw [En hb,ob_,Ao,df_ om_,cf_]) FF 0 [] om_ uF ⟨by simp,Cs.nil λx ⟨k,_,h,_⟩=>by omega⟩
 try dsimp only at h
 rw [n0] at h;exact ⟨_,_,h,hv,hw⟩
theorem Lx {c:Aa} (hc:Rt c):∀ (k n j:Nat) (s:Ac) (m:List (Int×Bool)),j + k=65->k < n->Fit c s ->
  match stl c k s with
  | some t=>∃ l z,Hc FF c n ((j:Int),s,m)=some (.ret (t,l,z,true))/\l.length<=100/\Cs l λx=>(∃ k:Nat,x=k/\k < cL c/\mgP m x)\/Zw c k s x
  | none=>∃ q,Hc FF c n ((j:Int),s,m)=some (.brk q)
 | _,0,_,_,_,_,h,_=>by omega
 | 0,n + 1,j,s,m,h1,h2,hf=>by
  unfold stl Hc;dsimp only;rw [show decide ((j:Int)<=64)=false by simp;omega,cf_];exact ⟨_,rfl⟩
 | k + 1,n + 1,j,s,m,h1,h2,hf=>by
  have hb:=hc.bd;have h3:=hb.s;have hS:cS c=2 * cA c + c.Inputs.length:=rfl;have hL:cL c=cS c + c.Signals.length:=rfl;obtain ⟨l,e1,hl,hmm⟩:=BR hc hf;obtain ⟨z,m',e2,hm'⟩:=Vr (Ke c s,l) (by dsimp only;omega) m;dsimp only at hm';have hin:∀ x:Int,(∃ k:Nat,x=k/\k < cL c/\mgP m' x)↔(∃ k:Nat,x=k/\k < cL c/\mgP m x)\/onP c s x:=λx=>by
   constructor
   ·rintro ⟨k,a1,a2,a3⟩;rcases (hm' x).1 a3 with h | h
    ·exact .inl ⟨k,a1,a2,h⟩
    ·exact .inr ((hmm x).1 h)
   ·rintro (⟨k,a1,a2,a3⟩ | h)
    ·exact ⟨k,a1,a2,(hm' x).2 (.inl a3)⟩
    ·obtain ⟨k,a1,a2⟩:=onP_lt h;exact ⟨k,a1,a2,(hm' x).2 (.inr ((hmm x).2 h))⟩
  have ho:=Sf hf;unfold stl Hc;dsimp only;rw [show decide ((j:Int)<=64)=true by simp;omega,ct_,e1,ob_,e2,ob_,Pb (n:=1000) (ho.sm hb) uF om_,ob_,show sst (Ke c s) s=sst s (Ke c s) from Rv];cases hs:sst s (Ke c s) with
  | true=>
   obtain ⟨z2,l2,e3,hl2,hC⟩:=Vq hb (z,m');rw [if_pos rfl,ct_,e3,ob_];have:=hb.a';have:=hb.i;refine ⟨l2,(j:Int),rfl,by omega,hC.iff λx=>?_⟩;rw [hin,Zw,hs];simp
  | false=>
   rw [if_neg smp_,cf_,Aq om_];have ih:=Lx hc k n (j + 1) (Ke c s) m' om_ om_ ho;cases hst:stl c k (Ke c s) with
   | none=>rw [hst] at ih;exact ih
   | some t=>
    rw [hst] at ih;obtain ⟨l',z',e4,hl',hC⟩:=ih;refine ⟨l',z',e4,hl',hC.iff λx=>?_⟩;rw [hin,Zw,hs];simp [or_assoc]
theorem B9 {c:Aa} {s:Ac} (hc:Rt c) (hf:Fit c s):match stl c 65 s with
  | some t=>∃ l,m196 FF c s=some (t,l,true)/\l.length<=100/\Cs l (Zw c 65 s)
  | none=>∃ a l,m196 FF c s=some (a,l,false):=by
 have h:=Lx hc 65 FF 0 s [] om_ uF hf;rw [n0] at h;unfold m196 m225;cases hs:stl c 65 s with
 | none=>rw [hs] at h;obtain ⟨q,h⟩:=h;rw [h];exact ⟨_,_,rfl⟩
 | some t=>
  rw [hs] at h;obtain ⟨l,z,h,hl,hC⟩:=h;rw [h];refine ⟨l,rfl,hl,hC.iff λx=>?_⟩;constructor
  ·rintro (⟨_,_,_,h⟩ | h)
   ·cases h
   ·exact h
  ·exact .inr
theorem Lw {c:Aa} (hc:Rt c):∀ (k n j:Nat) (s:Ac) (q:List Int),j + k=65->k < n->Fit c s->q.length<=16 * j ->
  match stl c k s with
  | some t=>∃ l z,Gz FF c.Actuators (cS c:Int) c.Inputs c.Signals c.Plus c.Minus s.Ends s.Valves s.Inputs n ((j:Int),s.Values,s.Timers,q)=some (.ret (z,0,t.Values,t.Timers,l))/\l.length<=2000/\Cs l λx=>x∈q\/Zw c k s x
  | none=>∃ q',Gz FF c.Actuators (cS c:Int) c.Inputs c.Signals c.Plus c.Minus s.Ends s.Valves s.Inputs n ((j:Int),s.Values,s.Timers,q)=some (.brk q')
 | _,0,_,_,_,_,h,_,_=>by omega
 | 0,n + 1,j,s,q,h1,h2,hf,hq=>by
  unfold stl Gz;dsimp only;rw [show decide ((j:Int)<=64)=false by simp;omega,cf_];exact ⟨_,rfl⟩
 | k + 1,n + 1,j,s,q,h1,h2,hf,hq=>by
  have hb:=hc.bd;have h3:=hb.s;obtain ⟨l,e1,hl,hmm⟩:=BQ hc hf;have ho:=Sf hf;unfold stl Gz;dsimp only;rw [show decide ((j:Int)<=64)=true by simp;omega,ct_,e1,ob_];dsimp only;rw [Az om_,ob_];cases hs:sst s (Ke c s) with
  | true=>
   obtain ⟨r1,r2,e2,e3,l3,hC⟩:=Xv (l:=q ++ l) so_;rw [if_pos rfl,show (!(!true))=true by rfl,ct_,e2,ob_,e3,ob_];have hse:=Ge.1 hs;rw [← hse];refine ⟨r2,(j:Int),rfl,by rw [GB] at l3;omega,hC.iff λx=>?_⟩;rw [GN,hmm,Zw,hs];simp
  | false=>
   rw [if_neg smp_,show (!(!false))=false by rfl,cf_,Aq om_];have ih:=Lw hc k n (j + 1) (Ke c s) (q ++ l) om_ om_ ho (by rw [GB];omega);cases hst:stl c k (Ke c s) with
   | none=>rw [hst] at ih;exact ih
   | some t=>
    rw [hst] at ih;obtain ⟨l',z',e4,hl',hC⟩:=ih;refine ⟨l',z',e4,hl',hC.iff λx=>?_⟩;rw [GN,hmm,Zw,hs];simp [or_assoc]
theorem Oy {xs:List Int} {k:Int} (hl:xs.length<=1000):Rl FF xs k=some (xs.any λx=>decide (x < 0) || decide (x>=k)):=by
 unfold Rl Yy;have h5:=Ub (L:=Jh FF xs k) (xs:=xs) (p:=λ_ y=>m233 FF y k) (q:=λx=>decide (x < 0) || decide (x>=k)) (r:=λz=>z) (λ_ _=>rfl) om_ (λi y hy=>rfl) FF 0 om_ uF;rw [n0,GL] at h5;rw [h5];cases h6:xs.findIdx? (λx=>decide (x < 0) || decide (x>=k)) with
 | none=>
  rw [HH] at h6;have:(xs.any λx=>decide (x < 0) || decide (x>=k))=false:=HN.2 λy hy=>by simpa using h6 y hy
  rw [this];rfl
 | some j=>
  obtain ⟨hj,hj2,_⟩:=G7.1 h6;have:(xs.any λx=>decide (x < 0) || decide (x>=k))=true:=G5.2 ⟨_,GF hj,by simpa using hj2⟩;rw [this];simp
def tbad (c:Aa) (s:Ac) (i:Nat):Bool:=match c.Signals[i]?,s.Timers[i]?,s.Values[i]? with
 | some x,some t,some v=>(x.Kind != 2 && t != 0) || (x.Kind == 2 && v != (t == 2))
 | _,_,_=>false
def DE (c:Aa) (s:Ac):Int:=
 if (s.Ends.length:Int)≠c.Actuators\/(s.Valves.length:Int)≠c.Actuators\/s.Inputs.length≠c.Inputs.length\/s.Values.length≠c.Signals.length\/s.Timers.length≠c.Signals.length then 8
 else if (s.Ends.any λx=>decide (x < 0) || decide (x>=4))=true then 1
 else if (s.Timers.any λx=>decide (x < 0) || decide (x>=3))=true then 1
 else if (List.range c.Signals.length).any (tbad c s)=true then 14 else 0
theorem EY {c:Aa} {s:Ac}:(((((((s.Ends.length:Int) != c.Actuators) || ((s.Valves.length:Int) != c.Actuators)) || ((s.Inputs.length:Int) != (c.Inputs.length:Int))) || ((s.Values.length:Int) != (c.Signals.length:Int))) || ((s.Timers.length:Int) != (c.Signals.length:Int))))=decide ((s.Ends.length:Int)≠c.Actuators\/(s.Valves.length:Int)≠c.Actuators\/s.Inputs.length≠c.Inputs.length\/s.Values.length≠c.Signals.length\/s.Timers.length≠c.Signals.length):=by
 rw [HU];simp only [J2,bne_iff_ne,ne_eq,decide_eq_true_eq,Int.natCast_inj,or_assoc]
theorem BX {c:Aa} {s:Ac} (hb:Bd_ c):m213 FF c s=some (DE c s):=by
 have h1:=hb.a6;have h2:=hb.i;have h3:=hb.s;unfold m213 DE;rw [EY];by_cases hl:(s.Ends.length:Int)≠c.Actuators\/(s.Valves.length:Int)≠c.Actuators\/s.Inputs.length≠c.Inputs.length\/s.Values.length≠c.Signals.length\/s.Timers.length≠c.Signals.length
 ·rw [if_pos hl,dt_ hl];rfl
 ·rw [if_neg hl,df_ hl,cf_];have hl:(s.Ends.length:Int)=c.Actuators/\(s.Valves.length:Int)=c.Actuators/\s.Inputs.length=c.Inputs.length/\s.Values.length=c.Signals.length/\s.Timers.length=c.Signals.length:=by omega
  rw [show m232 FF (4:Int)=some 4 from rfl,show m232 FF (3:Int)=some 3 from rfl,ob_,Oy om_,ob_,ob_,Oy om_];cases (s.Ends.any λx=>decide (x < 0) || decide (x>=4)) with
  | true=>rfl
  | false=>
   rw [cf_,ob_,ob_,if_neg smp_];cases (s.Timers.any λx=>decide (x < 0) || decide (x>=3)) with
   | true=>rfl
   | false=>
    rw [cf_,if_neg smp_];have hs:=Zx (L:=Km c s) (N:=c.Signals.length) (Q:=tbad c s) (r:=λ_=>14) (λn i hi=>by
     have e1:c.Signals[i]?=some c.Signals[i]:=gE_ hi;have e2:s.Timers[i]?=some s.Timers[i]:=gE_ om_;have e3:s.Values[i]?=some s.Values[i]:=gE_ om_;rw [Km];unfold tbad;rw [hl.2.2.2.2,Ao,dt_ hi,ct_,Am,Am,Am,e1,e2,e3,ob_,ob_,ob_,Aq om_];dsimp only;cases hk:(c.Signals[i].Kind == 2) with
     | true=>
      have hk':(c.Signals[i].Kind != 2)=false:=by show (!(c.Signals[i].Kind == 2))=false;rw [hk];rfl
      rw [hk'];cases (s.Values[i] != (s.Timers[i] == 2)) <;> rfl
     | false=>
      have hk':(c.Signals[i].Kind != 2)=true:=by show (!(c.Signals[i].Kind == 2))=true;rw [hk];rfl
      rw [hk'];cases (s.Timers[i] != 0) <;> rfl) (λn=>by
     rw [Km,hl.2.2.2.2,Ao,df_ om_,cf_]) FF 0 om_ uF
    rw [n0] at hs;rcases hs with ⟨k,_,hk,hq,h⟩ | ⟨h,hn⟩
    ·rw [h,if_pos (G5.2 ⟨k,GZ.2 hk,hq⟩)];rfl
    ·rw [h,if_neg ?_]
     ·rfl
     ·intro ha;obtain ⟨k,hk,h4⟩:=G5.1 ha;have:=hn k om_ (GZ.1 hk);rw [this] at h4;cases h4
theorem Ez {c:Aa} {s:Ac} (hb:Bd_ c):DE c s=0↔Fit c s:=by
 have ha:=hb.a;unfold DE;constructor
 ·intro h;split at h
  ·contradiction
  ·rename_i h1;split at h
   ·contradiction
   ·rename_i h2;split at h
    ·contradiction
    ·rename_i h3;split at h
     ·contradiction
     ·rename_i h4;refine ⟨by omega,by omega,by omega,by omega,by omega,λa ha=>?_,λa ha=>?_,λi x t v hx ht hv=>?_⟩
      ·have:=HN.1 (by simpa using h2:(s.Ends.any λx=>decide (x < 0) || decide (x>=4))=false) a ha;simp at this;omega
      ·have:=HN.1 (by simpa using h3:(s.Timers.any λx=>decide (x < 0) || decide (x>=3))=false) a ha;simp at this;omega
      ·have hb:tbad c s i=false:=by
        cases hq:tbad c s i with
        | false=>rfl
        | true=>exact absurd (G5.2 ⟨i,GZ.2 (GG.1 hx).1,hq⟩) h4
       unfold tbad at hb;rw [hx,ht,hv] at hb;dsimp only at hb;rw [JO,J4,J4] at hb;obtain ⟨h5,h6⟩:=hb;refine ⟨λhk=>?_,λhk=>?_⟩
       ·rcases h5 with h5 | h5
        ·exact absurd (by simpa using h5) hk
        ·simpa using h5
       ·rcases h6 with h6 | h6
        ·simp [hk] at h6
        ·simpa using h6
 ·intro h;obtain ⟨a1,a2,a3,a4,a5,a6,a7,a8⟩:=h;rw [if_neg om_,if_neg,if_neg,if_neg]
  ·intro hx;obtain ⟨i,hi,hq⟩:=G5.1 hx;have hi:=GZ.1 hi;have e1:c.Signals[i]?=some c.Signals[i]:=gE_ hi;have e2:s.Timers[i]?=some s.Timers[i]:=gE_ om_;have e3:s.Values[i]?=some s.Values[i]:=gE_ om_;unfold tbad at hq;rw [e1,e2,e3] at hq;dsimp only at hq;obtain ⟨k1,k2⟩:=a8 i _ _ _ e1 e2 e3;by_cases hk:c.Signals[i].Kind=2
   ·rw [k2 hk] at hq;simp [hk] at hq
   ·rw [k1 hk] at hq;simp [hk] at hq
  ·intro hx;obtain ⟨a,ha,hq⟩:=G5.1 hx;have:=a7 a ha;simp at hq;omega
  ·intro hx;obtain ⟨a,ha,hq⟩:=G5.1 hx;have:=a6 a ha;simp at hq;omega
theorem Jg {c:Aa} {s:Ac} (hc:Rc c):m176 FF c s=some (DE c s):=by
 unfold m176;rw [hc.ck,ob_,zf_,cf_,BX hc.rt.bd];rfl
abbrev z0:Ac:=⟨[],[],[],[],[]⟩
theorem BW {c:Aa} {s:Ac} (hc:Rc c) (hf:Fit c s):match stl c 65 s with
  | some t=>∃ l,m214 FF c s=some (t,0,l)/\l.length<=2000/\Cs l (Zw c 65 s)
  | none=>m214 FF c s=some (z0,21,[]):=by
 have hb:=hc.rt.bd;have h1:=hb.a';have h2:=hb.i;have h3:=hb.s;have hS:cS c=2 * cA c + c.Inputs.length:=rfl;have h:=Lw hc.rt 65 FF 0 s [] om_ uF hf smp_;rw [n0] at h;unfold m214 m234;rw [Jg hc,(Ez hb).2 hf,ob_,zf_,cf_,Oa (hf.sm hb),ob_,ob_];dsimp only;rw [zf_,cf_,hb.wa,Av om_ om_,show ((2 * cA c:Nat):Int) + (c.Inputs.length:Int)=(cS c:Int) by omega];unfold m235 tup;dsimp only;cases hs:stl c 65 s with
 | none=>rw [hs] at h;obtain ⟨q,h⟩:=h;rw [h];rfl
 | some t=>
  rw [hs] at h;obtain ⟨l,z,h,hl,hC⟩:=h;obtain ⟨_,⟨k1,k2,k3⟩,_⟩:=Lm hf hs;rw [h];refine ⟨l,?_,hl,hC.iff λx=>by simp⟩;rw [ob_,ob_];dsimp only;rw [zf_,cf_,← k1,← k2,← k3]
def lin (s:Ac) (k:Int):Bool:=(vals s).getD k.toNat false
def vlv (c:Aa) (s:Ac) (i:Nat):Bool:=if lin s (c.Plus.getD i 0)=lin s (c.Minus.getD i 0) then s.Valves.getD i false else lin s (c.Plus.getD i 0)
def Fu (v:Bool) (e:Int):Int:=if v=true then (if e=2\/e=1 then e else 1) else (if e=0\/e=3 then e else 3)
def rnd (c:Aa) (s:Ac):Ac:=⟨(List.range s.Ends.length).map λi=>Fu (vlv c s i) (s.Ends.getD i 0),(List.range s.Valves.length).map (vlv c s),s.Inputs,s.Values,s.Timers⟩
theorem Sd {c:Aa} {s:Ac} (h:Fit c s):Fit c (rnd c s):=by
 refine ⟨by simp [rnd,h.e],by simp [rnd,h.v],h.i,h.x,h.t,?_,h.tt,h.k⟩;intro a ha;obtain ⟨i,hi,rfl⟩:=JB.1 ha;have hi:=GZ.1 hi;have:=h.ee s.Ends[i] (GF hi);rw [GV,gE_ hi,KH];generalize s.Ends[i]=e at this;unfold Fu;split <;> split <;> omega
theorem DY {c:Aa} {s:Ac} (h:Fit c s) (k:Nat) (hk:k < cL c):∃ b,(vals s)[k]?=some b/\lin s (k:Int)=b:=by
 have:k < (vals s).length:=by rw [h.vl];exact hk
 exact ⟨(vals s)[k],gE_ this,by unfold lin;simp [gE_ this]⟩
theorem Vv {c:Aa} {s:Ac} (hb:Bd_ c) (h:Fit c s) {k:Nat} (hk:k < cL c):m215 FF c s (k:Int)=some (lin s (k:Int)):=by
 have h1:=hb.a';have h2:=hb.i;have h3:=hb.s;have hS:cS c=2 * cA c + c.Inputs.length:=rfl;have hL:cL c=cS c + c.Signals.length:=rfl;have hel:(DJ s).length=2 * cA c:=by unfold DJ;rw [Pv,h.e]
 unfold m215 lin;rw [hb.wa,Ao,G3,GV];by_cases h4:k < 2 * cA c
 ·rw [dt_ h4,ct_];have hdiv:(k:Int).tdiv 2=((k / 2:Nat):Int):=by
   rw [Int.tdiv_eq_ediv_of_nonneg om_];omega
  have hmod:(k:Int).tmod 2=((k % 2:Nat):Int):=by
   rw [Int.tmod_eq_emod_of_nonneg om_];omega
  have hv:(vals s)[k]?=(DJ s)[k]?:=by
   unfold vals pre;rw [G2,GO om_]
  have hk2:k / 2 < s.Ends.length:=by rw [h.e];omega
  have he:s.Ends[k / 2]?=some s.Ends[k / 2]:=gE_ hk2;rw [hdiv,hmod,Av om_ om_,Am,he,ob_,hv];unfold DJ;rw [FS,he];have hm2:k % 2=0\/k % 2=1:=by omega
  rcases hm2 with e | e <;> rw [e] <;> rfl
 ·rw [df_ h4,cf_,Av om_ om_,show (k:Int) - ((2 * cA c:Nat):Int)=((k - 2 * cA c:Nat):Int) by omega,Ao];by_cases h5:k - 2 * cA c < s.Inputs.length
  ·rw [dt_ h5,ct_,Am,gE_ h5,ob_];unfold vals pre;rw [G2,G4 om_,hel,GO h5,gE_ h5];rfl
  ·rw [df_ h5,cf_,Av (by have:=h.i;omega) om_,show ((k - 2 * cA c:Nat):Int) - (s.Inputs.length:Int)=((k - 2 * cA c - s.Inputs.length:Nat):Int) by omega,Am];have h6:k - 2 * cA c - s.Inputs.length < s.Values.length:=by have:=h.i;have:=h.x;omega
   rw [gE_ h6,ob_];unfold vals pre;rw [G2,G4 om_,hel,G4 om_,gE_ h6];rfl
end Go.Pn
namespace Go.Pn
open Go
theorem A8 {c:Aa} (hc:Rt c) {i:Nat} (hi:i < cA c):∃ p m:Nat,c.Plus[i]?=some (p:Int)/\c.Minus[i]?=some (m:Int)/\p < cL c/\m < cL c/\c.Plus.getD i 0=(p:Int)/\c.Minus.getD i 0=(m:Int):=by
 have h1:i < c.Plus.length:=by rw [hc.plus];exact hi
 have h2:i < c.Minus.length:=by rw [hc.minus];exact hi
 have h3:=hc.lines c.Plus[i] (GX _ (GF h1));have h4:=hc.lines c.Minus[i] (GW _ (GF h2));have e1:((c.Plus[i].toNat:Nat):Int)=c.Plus[i]:=by omega
 have e2:((c.Minus[i].toNat:Nat):Int)=c.Minus[i]:=by omega
 refine ⟨c.Plus[i].toNat,c.Minus[i].toNat,?_,?_,by omega,by omega,?_,?_⟩
 ·rw [gE_ h1,e1]
 ·rw [gE_ h2,e2]
 ·rw [GV,gE_ h1,e1];rfl
 ·rw [GV,gE_ h2,e2];rfl
theorem endn_eq (v:Bool) (e:Int):(bif (e != (bif v then ((2:Int),(1:Int)) else ((0:Int),(3:Int))).1) && (e != (bif v then ((2:Int),(1:Int)) else ((0:Int),(3:Int))).2) then (bif v then ((2:Int),(1:Int)) else ((0:Int),(3:Int))).2 else e)=Fu v e:=by
 unfold Fu;cases v with
 | true=>
  simp only [ct_,if_true];by_cases h:e=2
  ·simp [h]
  ·by_cases h1:e=1
   ·simp [h1]
   ·rw [show (e != 2)=true by simpa using h,show (e != 1)=true by simpa using h1,if_neg om_];rfl
 | false=>
  simp only [cf_];by_cases h:e=0
  ·simp [h]
  ·by_cases h1:e=3
   ·simp [h1]
   ·rw [show (e != 0)=true by simpa using h,show (e != 3)=true by simpa using h1];simp [h,h1]
def rnPi (c:Aa) (t:Ac) (i:Nat) (x:Int):Prop:=∃ j:Nat,j < i/\x=((cL c + j:Nat):Int)/\(lin t (c.Plus.getD j 0) && lin t (c.Minus.getD j 0))=true
def rnP (c:Aa) (t:Ac) (x:Int):Prop:=rnPi c t (cA c) x
theorem Mw {c:Aa} {t:Ac} {i:Nat} {x:Int}:rnPi c t (i + 1) x↔rnPi c t i x\/(x=((cL c + i:Nat):Int)/\(lin t (c.Plus.getD i 0) && lin t (c.Minus.getD i 0))=true):=by
 constructor
 ·rintro ⟨j,h1,h2,h3⟩;by_cases h:j=i
  ·subst h;exact .inr ⟨h2,h3⟩
  ·exact .inl ⟨j,by omega,h2,h3⟩
 ·rintro (⟨j,h1,h2,h3⟩ | ⟨h2,h3⟩)
  ·exact ⟨j,by omega,h2,h3⟩
  ·exact ⟨i,by omega,h2,h3⟩
theorem Uf {c:Aa} {t:Ac} {x:Int}:¬ rnPi c t 0 x:=λ⟨_,h,_⟩=>by omega
theorem Wb {c:Aa} {s:Ac} (hc:Rc c) (hf:Fit c s):match stl c 65 s with
  | some t=>∃ l,m177 FF c s=some (rnd c t,0,l)/\l.length<=3000/\∀ x,x∈l↔Zw c 65 s x\/rnP c t x
  | none=>m177 FF c s=some (z0,21,[]):=by
 have hb:=hc.rt.bd;have h1:=hb.a';have h2:=hb.i;have h3:=hb.s;have hS:cS c=2 * cA c + c.Inputs.length:=rfl;have hL:cL c=cS c + c.Signals.length:=rfl;have h:=BW hc hf;unfold m177;cases hs:stl c 65 s with
 | none=>rw [hs] at h;rw [h];rfl
 | some t=>
  rw [hs] at h;obtain ⟨l0,h,hl0,hC0⟩:=h;obtain ⟨ht,_,_⟩:=Lm hf hs;rw [h,ob_];dsimp only;rw [zf_,cf_,Wa (ht.sm hb),ob_];have hel:=ht.e;have hvl:=ht.v;obtain ⟨v,hI,hl⟩:=Qe (L:=Hh FF c (t,0,l0)) (mk:=λi (v:List Int×List Int×List Bool)=>((i:Int),v.1,v.2.1,v.2.2)) (N:=cA c) (I:=λi v=>(v.1.length<=2000 + i/\∀ x,x∈v.1↔Zw c 65 s x\/rnPi c t i x)/\v.2.1=upd (λi=>Fu (vlv c t i) (t.Ends.getD i 0)) t.Ends i/\v.2.2=upd (vlv c t) t.Valves i) (λn i v hi hI=>by
   obtain ⟨l,E,V⟩:=v;obtain ⟨⟨hll,hmm⟩,rfl,rfl⟩:=hI;obtain ⟨p,m,e1,e2,hp,hm,g1,g2⟩:=A8 hc.rt hi;have e4:(upd (λi=>Fu (vlv c t i) (t.Ends.getD i 0)) t.Ends i)[i]?=some t.Ends[i]:=by rw [Cb (G0 i)];exact gE_ om_
   have e5:(upd (vlv c t) t.Valves i)[i]?=some t.Valves[i]:=by rw [Cb (G0 i)];exact gE_ om_
   have e6:t.Ends.getD i 0=t.Ends[i]:=by rw [GV,gE_ om_];rfl
   have e7:t.Valves.getD i false=t.Valves[i]:=by rw [GV,gE_ om_];rfl
   have hsetE:∀ y,y=Fu (vlv c t i) (t.Ends.getD i 0)->(upd (λi=>Fu (vlv c t i) (t.Ends.getD i 0)) t.Ends i).set i y=upd (λi=>Fu (vlv c t i) (t.Ends.getD i 0)) t.Ends (i + 1):=λy hy=>Dl om_ hy;have hsetV:∀ y,y=vlv c t i->(upd (vlv c t) t.Valves i).set i y=upd (vlv c t) t.Valves (i + 1):=λy hy=>Dl om_ hy;have hkeep:vlv c t i=t.Valves[i]->upd (vlv c t) t.Valves i=upd (vlv c t) t.Valves (i + 1):=λhy=>by
    rw [← hsetV t.Valves[i] hy.symm];refine H2 λj=>?_;by_cases hj:j=i
    ·subst hj;rw [HF (by rw [Ka om_];omega),e5]
    ·rw [HT om_]
   have hkeepE:Fu (vlv c t i) (t.Ends.getD i 0)=t.Ends[i]->upd (λi=>Fu (vlv c t i) (t.Ends.getD i 0)) t.Ends i=upd (λi=>Fu (vlv c t i) (t.Ends.getD i 0)) t.Ends (i + 1):=λhy=>by
    rw [← hsetE t.Ends[i] hy.symm];refine H2 λj=>?_;by_cases hj:j=i
    ·subst hj;rw [HF (by rw [Ka om_];omega),e4]
    ·rw [HT om_]
   have hvi:vlv c t i=if lin t (p:Int)=lin t (m:Int) then t.Valves[i] else lin t (p:Int):=by
    unfold vlv;rw [g1,g2,e7]
   -- the valve
   have hV:∀ (k:(List Int×List Bool)->Option (Int×List Int×List Int×List Bool)),((bif (lin t (p:Int) && lin t (m:Int)) then (app l ([(wr ((wr ((wr ((wr ((2:Int) * (c).Actuators)) + (((c).Inputs).length:Int))) + (((c).Signals).length:Int))) + (i:Int)))]:List Int)).bind λx16=>some (x16,(upd (vlv c t) t.Valves i)) else (bif (lin t (p:Int) || lin t (m:Int)) then (idx (upd (vlv c t) t.Valves i) (i:Int)).bind λx19=>some ((upd (vlv c t) t.Valves i).set ((i:Int)).toNat (lin t (p:Int))) else some (upd (vlv c t) t.Valves i)).bind λz18=>some (l,z18)).bind k)=k ((if (lin t (p:Int) && lin t (m:Int))=true then l ++ [((cL c + i:Nat):Int)] else l),upd (vlv c t) t.Valves (i + 1)):=by
    intro k;have w1:wr (((2 * cA c:Nat):Int) + (c.Inputs.length:Int))=((cS c:Nat):Int):=by rw [Av om_ om_];omega
    have w2:wr (((cS c:Nat):Int) + (c.Signals.length:Int))=((cL c:Nat):Int):=by rw [Av om_ om_];omega
    have w3:wr (((cL c:Nat):Int) + (i:Int))=((cL c + i:Nat):Int):=by rw [Av om_ om_];omega
    rw [hb.wa,w1,w2,w3,Am,e5,G3];dsimp only at hll;cases hP:lin t (p:Int) with
    | true=>
     cases hM:lin t (m:Int) with
     | true=>
      unfold app;rw [Bool.and_self,ct_,if_pos so_,hkeep (by rw [hvi,hP,hM];simp)];rfl
     | false=>
      rw [hsetV true (by rw [hvi,hP,hM];simp)];rfl
    | false=>
     cases hM:lin t (m:Int) with
     | true=>
      rw [hsetV false (by rw [hvi,hP,hM];simp)];rfl
     | false=>
      rw [hkeep (by rw [hvi,hP,hM];simp)];rfl
   refine ⟨((if (lin t (p:Int) && lin t (m:Int))=true then l ++ [((cL c + i:Nat):Int)] else l),upd (λi=>Fu (vlv c t i) (t.Ends.getD i 0)) t.Ends (i + 1),upd (vlv c t) t.Valves (i + 1)),⟨?_,rfl,rfl⟩,?_⟩
   ·dsimp only at hll hmm ⊢;refine ⟨by split <;> (try simp) <;> omega,λx=>?_⟩
    rw [BE hmm,Mw,g1,g2,or_assoc]
   ·rw [Hh];dsimp only;rw [hb.a,Ao,dt_ hi,ct_,Am,e1,ob_,Vv hb ht hp,ob_,Am,e2,ob_,Vv hb ht hm,ob_,← hb.a,hV];dsimp only;have e8:(upd (vlv c t) t.Valves (i + 1))[i]?=some (vlv c t i):=by
     rw [← hsetV _ rfl,HF (by rw [Ka om_];omega)]
    rw [Am,e4,ob_,Am,e8,ob_,cs_,ob_,ob_,Aq om_];have hE:((bif (t.Ends[i] != (bif vlv c t i then ((2:Int),(1:Int)) else ((0:Int),(3:Int))).1) && (t.Ends[i] != (bif vlv c t i then ((2:Int),(1:Int)) else ((0:Int),(3:Int))).2) then some ((upd (λi=>Fu (vlv c t i) (t.Ends.getD i 0)) t.Ends i).set ((i:Int)).toNat (bif vlv c t i then ((2:Int),(1:Int)) else ((0:Int),(3:Int))).2) else some (upd (λi=>Fu (vlv c t i) (t.Ends.getD i 0)) t.Ends i)))=some (upd (λi=>Fu (vlv c t i) (t.Ends.getD i 0)) t.Ends (i + 1)):=by
     have hq:=endn_eq (vlv c t i) t.Ends[i];rw [G3];cases hcnd:(t.Ends[i] != (bif vlv c t i then ((2:Int),(1:Int)) else ((0:Int),(3:Int))).1) && (t.Ends[i] != (bif vlv c t i then ((2:Int),(1:Int)) else ((0:Int),(3:Int))).2) with
     | true=>
      rw [hcnd,ct_] at hq;rw [ct_,hsetE _ (by rw [e6,← hq])]
     | false=>
      rw [hcnd,cf_] at hq;rw [cf_,hkeepE (by rw [e6,← hq])]
    rw [hE,ob_]) (λn v _=>by
   rw [Hh];dsimp only;rw [hb.a,Ao,df_ om_,cf_]) FF 0 (l0,t.Ends,t.Valves) om_ uF ⟨⟨by dsimp only;omega,λx=>by simp [hC0.2 x,Uf]⟩,Bz.symm,Bz.symm⟩
  obtain ⟨l,E,V⟩:=v;obtain ⟨⟨hll,hmm⟩,rfl,rfl⟩:=hI;try dsimp only at hl hll hmm
  rw [n0] at hl;refine ⟨l,?_,by omega,hmm⟩;show ((Hh FF c (t,0,l0) FF ((0:Int),l0,t.Ends,t.Valves)).bind _)=_;rw [hl,ob_];unfold rnd tup;dsimp only;have e1:=Dm (f:=λi=>Fu (vlv c t i) (t.Ends.getD i 0)) (l:=t.Ends);have e2:=Dm (f:=vlv c t) (l:=t.Valves);rw [hel] at e1;rw [hvl] at e2;rw [e1,e2,hel,hvl]
theorem Wg {a b:List Int} (h:a.length + b.length < 50000) {p q:Int->Prop} (ha:Cs a p) (hb:Cs b q):∃ l,m164 FF a b=some l/\l.length<=a.length + b.length/\Cs l λx=>p x\/q x:=by
 have sa:∀ i j,(_:i < j)->(hj:j < a.length)->a[i]'om_ < a[j]:=λi j hij hj=>JR.1 ha.1 i j om_ hj hij;have sb:∀ i j,(_:i < j)->(hj:j < b.length)->b[i]'om_ < b[j]:=λi j hij hj=>JR.1 hb.1 i j om_ hj hij;have key:∀ (n i j:Nat) (l:List Int),i<=a.length->j<=b.length->(a.length - i) + (b.length - j) < n->l.length<=i + j->l.Pairwise (· < ·)->(∀ x,x∈l↔x∈a.take i\/x∈b.take j)->(∀ x∈l,(∀ h:i < a.length,x < a[i])/\∀ h:j < b.length,x < b[j]) ->
   ∃ z1 z2 l',Kr a b n ((i:Int),(j:Int),l)=some (z1,z2,l')/\l'.length<=a.length + b.length/\l'.Pairwise (· < ·)/\∀ x,x∈l'↔x∈a\/x∈b:=by
  intro n
  induction n with
  | zero=>intro i j l _ _ h;omega
  | succ n ih=>
   intro i j l hi hj hn hl hp hm hlt;have snoc:∀ y,(∀ x∈l,x < y)->(l ++ [y]).Pairwise (· < ·):=λy hy=>JW.2 ⟨hp,by simp,λu hu v hv=>by
    obtain rfl:v=y:=by simpa using hv
    exact hy u hu⟩
   have ta:(h:i < a.length)->∀ x,x∈a.take (i + 1)↔x∈a.take i\/x=a[i]:=λh x=>by rw [JV,gE_ h,GN];simp
   have tb:(h:j < b.length)->∀ x,x∈b.take (j + 1)↔x∈b.take j\/x=b[j]:=λh x=>by rw [JV,gE_ h,GN];simp
   rw [Kr];dsimp only;rw [Ao,Ao];by_cases h1:i < a.length
   ·have ea:a[i]?=some a[i]:=gE_ h1;by_cases h2:j < b.length
    ·have eb:b[j]?=some b[j]:=gE_ h2;simp only [dt_ h1,dt_ h2,Bool.or_self,ct_,Am,ea,eb,ob_,Jt,show (j == b.length)=false by rw [beq_eq_false_iff_ne];omega,show (i == a.length)=false by rw [beq_eq_false_iff_ne];omega,cf_];rw [Az so_,Az so_];by_cases h3:a[i] < b[j]
     ·simp only [dt_ h3,ct_,ob_];rw [Aq om_];refine ih (i + 1) j _ om_ hj om_ so_ (snoc _ λx hx=>(hlt x hx).1 h1) (λx=>?_) (λx hx=>?_)
      ·rw [GN,JL,hm,ta h1];exact or_right_comm
      ·rcases GN.1 hx with hx | hx
       ·exact ⟨λh=>KV ((hlt x hx).1 h1) (sa i (i + 1) om_ h),(hlt x hx).2⟩
       ·obtain rfl:x=a[i]:=by simpa using hx
        exact ⟨λh=>sa i (i + 1) om_ h,λ_=>h3⟩
     ·by_cases h4:b[j] < a[i]
      ·simp only [df_ h3,dt_ h4,ct_,cf_,ob_];rw [Aq om_];refine ih i (j + 1) _ hi om_ om_ so_ (snoc _ λx hx=>(hlt x hx).2 h2) (λx=>?_) (λx hx=>?_)
       ·rw [GN,JL,hm,tb h2];exact or_assoc
       ·rcases GN.1 hx with hx | hx
        ·exact ⟨(hlt x hx).1,λh=>KV ((hlt x hx).2 h2) (sb j (j + 1) om_ h)⟩
        ·obtain rfl:x=b[j]:=by simpa using hx
         exact ⟨λ_=>h4,λh=>sb j (j + 1) om_ h⟩
      ·have h5:a[i]=b[j]:=by omega
       simp only [df_ h3,df_ h4,cf_,ob_];rw [Aq om_,Aq om_];refine ih (i + 1) (j + 1) _ om_ om_ om_ so_ (snoc _ λx hx=>(hlt x hx).1 h1) (λx=>?_) (λx hx=>?_)
       ·rw [GN,JL,hm,ta h1,tb h2,← h5];exact or_or_distrib_right
       ·rcases GN.1 hx with hx | hx
        ·exact ⟨λh=>KV ((hlt x hx).1 h1) (sa i (i + 1) om_ h),λh=>KV ((hlt x hx).2 h2) (sb j (j + 1) om_ h)⟩
        ·obtain rfl:x=a[i]:=by simpa using hx
         exact ⟨λh=>sa i (i + 1) om_ h,λh=>by rw [h5];exact sb j (j + 1) om_ h⟩
    ·have hjb:j=b.length:=by omega
     simp only [dt_ h1,KS,ct_,Am,ea,ob_,Jt,show (j == b.length)=true by rw [beq_iff_eq];omega];rw [Az so_,ob_,ob_,Aq om_];refine ih (i + 1) j _ om_ hj om_ so_ (snoc _ λx hx=>(hlt x hx).1 h1) (λx=>?_) (λx hx=>?_)
     ·rw [GN,JL,hm,ta h1];exact or_right_comm
     ·rcases GN.1 hx with hx | hx
      ·exact ⟨λh=>KV ((hlt x hx).1 h1) (sa i (i + 1) om_ h),λh=>by omega⟩
      ·obtain rfl:x=a[i]:=by simpa using hx
       exact ⟨λh=>sa i (i + 1) om_ h,λh=>by omega⟩
   ·by_cases h2:j < b.length
    ·have eb:b[j]?=some b[j]:=gE_ h2;simp only [df_ h1,dt_ h2,JD,ct_,cf_,Am,eb,ob_,Jt,show (j == b.length)=false by rw [beq_eq_false_iff_ne];omega,show (i == a.length)=true by rw [beq_iff_eq];omega];rw [Az so_,ob_,ob_,Aq om_];refine ih i (j + 1) _ hi om_ om_ so_ (snoc _ λx hx=>(hlt x hx).2 h2) (λx=>?_) (λx hx=>?_)
     ·rw [GN,JL,hm,tb h2];exact or_assoc
     ·rcases GN.1 hx with hx | hx
      ·exact ⟨λh=>by omega,λh=>KV ((hlt x hx).2 h2) (sb j (j + 1) om_ h)⟩
      ·obtain rfl:x=b[j]:=by simpa using hx
       exact ⟨λh=>by omega,λh=>sb j (j + 1) om_ h⟩
    ·rw [df_ h1,df_ h2,Bool.or_self,cf_];refine ⟨_,_,l,rfl,by omega,hp,λx=>?_⟩;rw [hm,HE om_,HE om_]
 obtain ⟨z1,z2,l',e,e1,e2,e3⟩:=key FF 0 0 [] om_ om_ uF smp_ .nil smp_ smp_;have e:Kr a b FF ((0:Int),(0:Int),[])=some (z1,z2,l'):=e;unfold m164;rw [e];exact ⟨l',rfl,e1,e2,λx=>by rw [e3,ha.2,hb.2]⟩
theorem Zb {c:Aa} {s:Ac} (h:Fit c s) {k:Nat} (hk:k < cL c):idx (vals s) (k:Int)=some (lin s (k:Int)):=by
 obtain ⟨b,h1,h2⟩:=DY h k hk;rw [Am,h1,h2]
theorem B8 {c:Aa} {t:Ac} (hc:Rt c) (ht:Fit c t):∃ l,m197 FF c t=some (⟨t.Ends,(List.range t.Valves.length).map (vlv c t),t.Inputs,t.Values,t.Timers⟩,l)/\l.length<=10/\Cs l (rnP c t):=by
 have hb:=hc.bd;have h1:=hb.a';have h2:=hb.i;have h3:=hb.s;have hS:cS c=2 * cA c + c.Inputs.length:=rfl;have hL:cL c=cS c + c.Signals.length:=rfl;have hvl:=ht.v;unfold m197;rw [Dh (ht.sm hb),ob_,Oi hb ht.e (by rw [ht.i];omega) (by rw [ht.x];omega),ob_];obtain ⟨v,hI,hl⟩:=Qe (L:=He FF c (vals t)) (mk:=λi (v:List Bool×List Int)=>((i:Int),v.1,v.2)) (N:=cA c) (I:=λi v=>(v.2.length<=i/\Cs v.2 (rnPi c t i))/\v.1=upd (vlv c t) t.Valves i) (λn i v hi hI=>by
  obtain ⟨V,l⟩:=v;obtain ⟨⟨hll,hC⟩,rfl⟩:=hI;obtain ⟨p,m,e1,e2,hp,hm,g1,g2⟩:=A8 hc hi;have e5:(upd (vlv c t) t.Valves i)[i]?=some t.Valves[i]:=by rw [Cb (G0 i)];exact gE_ om_
  have e7:t.Valves.getD i false=t.Valves[i]:=by rw [GV,gE_ om_];rfl
  have hsetV:∀ y,y=vlv c t i->(upd (vlv c t) t.Valves i).set i y=upd (vlv c t) t.Valves (i + 1):=λy hy=>Dl om_ hy;have hkeep:vlv c t i=t.Valves[i]->upd (vlv c t) t.Valves i=upd (vlv c t) t.Valves (i + 1):=λhy=>by
   rw [← hsetV t.Valves[i] hy.symm];refine H2 λj=>?_;by_cases hj:j=i
   ·subst hj;rw [HF (by rw [Ka om_];omega),e5]
   ·rw [HT om_]
  have hvi:vlv c t i=if lin t (p:Int)=lin t (m:Int) then t.Valves[i] else lin t (p:Int):=by
   unfold vlv;rw [g1,g2,e7]
  dsimp only at hll hC;refine ⟨(upd (vlv c t) t.Valves (i + 1),if (lin t (p:Int) && lin t (m:Int))=true then l ++ [((cL c + i:Nat):Int)] else l),⟨?_,rfl⟩,?_⟩
  ·dsimp only;refine ⟨by split <;> (try simp) <;> omega,?_⟩
   cases hpm:lin t (p:Int) && lin t (m:Int) with
   | true=>
    rw [if_pos rfl];refine (hC.snoc λx ⟨j,h1,h2,_⟩=>by omega).iff λx=>?_;rw [Mw,g1,g2,hpm];simp
   | false=>
    rw [if_neg smp_];refine hC.iff λx=>?_;rw [Mw,g1,g2,hpm];simp
  ·rw [He];dsimp only;rw [hb.a,Ao,dt_ hi,ct_,Am,e1,ob_,Zb ht hp,ob_,Am,e2,ob_,Zb ht hm,ob_,En hb,ob_,Av om_ om_,show (cL c:Int) + (i:Int)=((cL c + i:Nat):Int) by omega,Am,e5,ob_,Aq om_,G3];cases hP:lin t (p:Int) with
   | true=>
    cases hM:lin t (m:Int) with
    | true=>
     unfold app;rw [Bool.and_self,ct_,if_pos so_,hkeep (by rw [hvi,hP,hM];simp)];rfl
    | false=>
     rw [hsetV true (by rw [hvi,hP,hM];simp)];rfl
   | false=>
    cases hM:lin t (m:Int) with
    | true=>
     rw [hsetV false (by rw [hvi,hP,hM];simp)];rfl
    | false=>
     rw [hkeep (by rw [hvi,hP,hM];simp)];rfl) (λn v _=>by
  rw [He];dsimp only;rw [hb.a,Ao,df_ om_,cf_]) FF 0 (t.Valves,[]) om_ uF ⟨⟨by simp,Cs.nil λ_=>Uf⟩,Bz.symm⟩
 obtain ⟨V,l⟩:=v;obtain ⟨⟨hll,hC⟩,rfl⟩:=hI;try dsimp only at hl hll hC
 rw [n0] at hl;refine ⟨l,?_,by omega,hC⟩;show ((He FF c (vals t) FF ((0:Int),t.Valves,[])).bind _)=_;rw [hl,ob_];have e2:=Dm (f:=vlv c t) (l:=t.Valves);rw [hvl] at e2;unfold tup;dsimp only;rw [e2,hvl]
theorem B7 {c:Aa} {t:Ac} (hb:Bd_ c) (ht:Fit c t) (V:List Bool) (hV:V.length=cA c):m198 FF ⟨t.Ends,V,t.Inputs,t.Values,t.Timers⟩=some ⟨(List.range t.Ends.length).map λi=>Fu (V.getD i false) (t.Ends.getD i 0),V,t.Inputs,t.Values,t.Timers⟩:=by
 have h1:=hb.a';have hel:=ht.e;have hsm:Smst (⟨t.Ends,V,t.Inputs,t.Values,t.Timers⟩:Ac) 1000:=by
  have:=ht.sm hb;exact ⟨this.e,by show V.length<=1000;omega,this.i,this.x,this.t⟩
 unfold m198;rw [Dh hsm,ob_];obtain ⟨v,hI,hl⟩:=Qe (L:=Hd ⟨t.Ends,V,t.Inputs,t.Values,t.Timers⟩) (mk:=λi (v:List Int)=>((i:Int),v)) (N:=cA c) (I:=λi v=>v=upd (λi=>Fu (V.getD i false) (t.Ends.getD i 0)) t.Ends i) (λn i v hi hI=>by
  subst hI;have e4:(upd (λi=>Fu (V.getD i false) (t.Ends.getD i 0)) t.Ends i)[i]?=some t.Ends[i]:=by rw [Cb (G0 i)];exact gE_ om_
  have e6:t.Ends.getD i 0=t.Ends[i]:=by rw [GV,gE_ om_];rfl
  have e7:V.getD i false=V[i]:=by rw [GV,gE_ om_];rfl
  have hee:=ht.ee t.Ends[i] (GF om_);have hsetE:∀ y,y=Fu (V.getD i false) (t.Ends.getD i 0)->(upd (λi=>Fu (V.getD i false) (t.Ends.getD i 0)) t.Ends i).set i y=upd (λi=>Fu (V.getD i false) (t.Ends.getD i 0)) t.Ends (i + 1):=λy hy=>Dl om_ hy;have hkeepE:Fu (V.getD i false) (t.Ends.getD i 0)=t.Ends[i]->upd (λi=>Fu (V.getD i false) (t.Ends.getD i 0)) t.Ends i=upd (λi=>Fu (V.getD i false) (t.Ends.getD i 0)) t.Ends (i + 1):=λhy=>by
   rw [← hsetE t.Ends[i] hy.symm];refine H2 λj=>?_;by_cases hj:j=i
   ·subst hj;rw [HF (by rw [Ka om_];omega),e4]
   ·rw [HT om_]
  refine ⟨_,rfl,?_⟩;rw [Hd];dsimp only;have eV:V[i]?=some V[i]:=gE_ om_;have eE:t.Ends[i]?=some t.Ends[i]:=gE_ om_;rw [hel,Ao,dt_ hi,ct_];simp only [Am,eV,eE,e4,ob_,G3];rw [Aq om_];rw [e6,e7] at hsetE hkeepE;generalize t.Ends[i]=e at hee hsetE hkeepE e4;cases hv:V[i] with
  | true=>
   rw [hv] at hsetE hkeepE;by_cases h0:e=0
   ·rw [show (e == 0)=true by simpa using h0];simp only [ct_,ob_,HS,cf_];rw [hsetE 1 (by unfold Fu;rw [if_pos rfl,if_neg om_])]
   ·by_cases h3:e=3
    ·rw [show (e == 0)=false by simpa using h0,show (e == 3)=true by simpa using h3];simp only [ct_,ob_,HS,cf_];rw [hsetE 1 (by unfold Fu;rw [if_pos rfl,if_neg om_])]
    ·rw [show (e == 0)=false by simpa using h0,show (e == 3)=false by simpa using h3];simp only [ct_,ob_,HS,cf_];rw [hkeepE (by unfold Fu;rw [if_pos rfl,if_pos om_])]
  | false=>
   rw [hv] at hsetE hkeepE;simp only [cf_,ob_,H0,ct_];by_cases h0:e=2
   ·rw [show (e == 2)=true by simpa using h0];simp only [ct_,ob_];rw [e4,ob_,ob_,hsetE 3 (by unfold Fu;rw [if_neg smp_,if_neg om_])]
   ·by_cases h3:e=1
    ·rw [show (e == 2)=false by simpa using h0,show (e == 1)=true by simpa using h3];simp only [ct_,ob_,cf_];rw [e4,ob_,ob_,hsetE 3 (by unfold Fu;rw [if_neg smp_,if_neg om_])]
    ·rw [show (e == 2)=false by simpa using h0,show (e == 1)=false by simpa using h3];simp only [cf_,ob_];rw [hkeepE (by unfold Fu;rw [if_neg smp_,if_pos om_])]) (λn v _=>by
  rw [Hd];dsimp only;rw [hel,Ao,df_ om_,cf_]) FF 0 t.Ends om_ uF Bz.symm
 subst hI;try dsimp only at hl
 rw [n0] at hl;show ((Hd ⟨t.Ends,V,t.Inputs,t.Values,t.Timers⟩ FF ((0:Int),t.Ends)).bind _)=_;rw [hl,ob_];have e2:=Dm (f:=λi=>Fu (V.getD i false) (t.Ends.getD i 0)) (l:=t.Ends);rw [hel] at e2;unfold tup;dsimp only;rw [e2,hel]
theorem CL {c:Aa} {s:Ac} (hc:Rt c) (hf:Fit c s):match stl c 65 s with
  | some t=>∃ l,m163 FF c s=some (rnd c t,l,true)/\l.length<=110/\Cs l λx=>Zw c 65 s x\/rnP c t x
  | none=>∃ a l,m163 FF c s=some (a,l,false):=by
 have hb:=hc.bd;have h:=B9 hc hf;unfold m163;cases hs:stl c 65 s with
 | none=>rw [hs] at h;obtain ⟨a,l,h⟩:=h;rw [h];exact ⟨_,_,rfl⟩
 | some t=>
  rw [hs] at h;obtain ⟨l,h,hl,hC⟩:=h;obtain ⟨ht,_,_⟩:=Lm hf hs;obtain ⟨l2,h2,hl2,hC2⟩:=B8 hc ht;obtain ⟨l3,h3,hl3,hC3⟩:=Wg (a:=l) (b:=l2) om_ hC hC2;rw [h,ob_];dsimp only;rw [nt_,cf_,h2,ob_];dsimp only;rw [B7 hb ht _ (by simp [ht.v]),ob_,h3,ob_];refine ⟨l3,?_,by omega,hC3⟩;congr 2;unfold rnd;congr 1;refine List.map_congr_left λi hi=>?_;have hi:=GZ.1 hi;rw [ht.e] at hi;rw [GV,GU,HR (by rw [ht.v];exact hi)];rfl
def rst (c:Aa):Nat->Ac->Option Ac
 | 0,_=>none
 | k + 1,s=>match stl c 65 s with
  | none=>none
  | some t=>if sst (rnd c t) s=true then some s else rst c k (rnd c t)
def Qt (c:Aa) (s:Ac):Prop:=∃ t,stl c 65 s=some t/\sst (rnd c t) s=true
theorem Ya {c:Aa}:∀ {k:Nat} {s t:Ac},Fit c s->rst c k s=some t->Fit c t/\t.Inputs=s.Inputs/\Qt c t
 | 0,_,_,_,h=>by cases h
 | k + 1,s,t,hf,h=>by
  unfold rst at h;cases hs:stl c 65 s with
  | none=>rw [hs] at h;cases h
  | some u=>
   rw [hs] at h;try dsimp only at h
   obtain ⟨hu,hk,_⟩:=Lm hf hs;split at h
   ·rename_i h1;obtain rfl:=Option.some.inj h;exact ⟨hf,rfl,u,hs,h1⟩
   ·obtain ⟨h1,h2,h3⟩:=Ya (Sd hu) h;exact ⟨h1,h2.trans hk.i,h3⟩
def Yb (c:Aa):Nat->Ac->Int->Prop
 | 0,_,_=>False
 | k + 1,s,x=>match stl c 65 s with
  | none=>False
  | some t=>(Zw c 65 s x\/rnP c t x)\/(sst (rnd c t) s=false/\Yb c k (rnd c t) x)
theorem CE {a b:List Int} (h:a.length + b.length<=400000000):∃ l,m178 FF a b=some l/\l.length<=a.length + b.length/\Cs l λx=>x∈a\/x∈b:=by
 unfold m178;obtain ⟨r1,r2,e2,e3,l3,hC⟩:=Xv (l:=a ++ b) so_;rw [Pg om_ om_,ob_,e2,ob_,e3];exact ⟨r2,rfl,by rw [GB] at l3;omega,hC.iff λx=>GN⟩
theorem Er {c:Aa} (hc:Rc c):∀ (k n j:Nat) (s:Ac) (q:List Int),j + k=65->k < n->Fit c s->q.length<=3000 * j ->
  match rst c k s with
  | some t=>∃ l,Cw FF c n ((j:Int),s,q)=some (.ret (t,0,l))/\l.length<=200000/\Cs l λx=>x∈q\/Yb c k s x
  | none=>Cw FF c n ((j:Int),s,q)=some (.ret (z0,21,[]))\/∃ q',Cw FF c n ((j:Int),s,q)=some (.brk q')
 | _,0,_,_,_,_,h,_,_=>by omega
 | 0,n + 1,j,s,q,h1,h2,hf,hq=>by
  unfold rst Cw;dsimp only;rw [show decide ((j:Int) < 65)=false by simp;omega,cf_];exact .inr ⟨_,rfl⟩
 | k + 1,n + 1,j,s,q,h1,h2,hf,hq=>by
  have hb:=hc.rt.bd;have h:=Wb hc hf;unfold rst Cw;dsimp only;rw [show decide ((j:Int) < 65)=true by simp;omega,ct_];cases hs:stl c 65 s with
  | none=>rw [hs] at h;rw [h];exact .inl rfl
  | some t=>
   rw [hs] at h;obtain ⟨l,h,hl,hmm⟩:=h;obtain ⟨ht,_,_⟩:=Lm hf hs;have hr:=Sd ht;obtain ⟨l2,e2,hl2,hC2⟩:=CE (a:=q) (b:=l) om_;rw [h,ob_];dsimp only;rw [zf_,cf_,e2,ob_,Ol (n:=1000) (hr.sm hb) uF om_,ob_];cases hq2:sst (rnd c t) s with
   | true=>
    rw [if_pos rfl,ct_,Ge.1 hq2];refine ⟨l2,rfl,by omega,hC2.iff λx=>?_⟩;rw [hmm,Yb,hs];dsimp only;rw [hq2];simp
   | false=>
    rw [if_neg smp_,cf_,Aq om_];have ih:=Er hc k n (j + 1) (rnd c t) l2 om_ om_ hr om_;cases hst:rst c k (rnd c t) with
    | none=>rw [hst] at ih;exact ih
    | some u=>
     rw [hst] at ih;obtain ⟨l',e4,hl',hC⟩:=ih;refine ⟨l',e4,hl',hC.iff λx=>?_⟩;rw [hC2.2];show (x∈q\/x∈l)\/Yb c k (rnd c t) x↔_;rw [hmm,Yb,hs];dsimp only;rw [hq2];simp [or_assoc]
theorem CP {c:Aa} {s:Ac} (hc:Rc c) (hf:Fit c s):match rst c 65 s with
  | some t=>∃ l,m151 FF c s=some (t,0,l)/\l.length<=200000/\Cs l (Yb c 65 s)
  | none=>m151 FF c s=some (z0,21,[]):=by
 have h:=Er hc 65 FF 0 s [] om_ uF hf smp_;rw [n0] at h;unfold m151;rw [Jg hc,(Ez hc.rt.bd).2 hf,ob_,zf_,cf_];cases hs:rst c 65 s with
 | none=>
  rw [hs] at h;rcases h with h | ⟨q,h⟩ <;> rw [h] <;> rfl
 | some t=>rw [hs] at h;obtain ⟨l,h,hl,hC⟩:=h;rw [h];exact ⟨l,rfl,hl,hC.iff λx=>by simp⟩
theorem Wj {c:Aa}:∀ {n z},Et FF c n z=(Cw FF c n z).map λo=>match o with | .brk q=>.brk q | .ret r=>.ret (r.1,r.2.2,r.2.1):=by
 intro n
 induction n with
 | zero=>intro z;rfl
 | succ n ih=>
  intro z;rw [Et,Cw];cases decide (z.1 < 65) with
  | false=>rfl
  | true=>
   rw [ct_,ct_];cases m177 FF c z.2.1 with
   | none=>rfl
   | some x=>
    rw [ob_,ob_];cases x.2.1 != 0 with
    | true=>rfl
    | false=>
     rw [cf_,cf_];cases m178 FF z.2.2 x.2.2 with
     | none=>rfl
     | some y=>
      rw [ob_,ob_];cases m179 FF x.1 z.2.1 with
      | none=>rfl
      | some b=>
       rw [ob_,ob_];cases b with
       | true=>rfl
       | false=>rw [cf_,cf_];exact ih
theorem Xj {c:Aa} {s:Ac} (hc:Rc c) (hf:Fit c s):match rst c 65 s with
  | some t=>∃ l,Rj FF c s=some (t,l,0)/\l.length<=200000/\Cs l (Yb c 65 s)
  | none=>Rj FF c s=some (z0,[],21):=by
 have h:=Er hc 65 FF 0 s [] om_ uF hf smp_;rw [n0] at h;unfold Rj;rw [Jg hc,(Ez hc.rt.bd).2 hf,ob_,zf_,cf_,Wj];cases hs:rst c 65 s with
 | none=>
  rw [hs] at h;rcases h with h | ⟨q,h⟩ <;> rw [h] <;> rfl
 | some t=>rw [hs] at h;obtain ⟨l,h,hl,hC⟩:=h;rw [h];exact ⟨l,rfl,hl,hC.iff λx=>by simp⟩
theorem Md {c:Aa} (hc:Rt c):∀ (k n j:Nat) (s:Ac) (q:List Int),j + k=65->k < n->Fit c s->q.length<=110 * j->∀ {p:Int->Prop},Cs q p ->
  match rst c k s with
  | some t=>∃ l,Eu FF c n (q,(j:Int),s)=some (.ret (t,l,true))/\Cs l λx=>p x\/Yb c k s x
  | none=>(∃ a l,Eu FF c n (q,(j:Int),s)=some (.ret (a,l,false)))\/∃ q',Eu FF c n (q,(j:Int),s)=some (.brk q')
 | _,0,_,_,_,_,h,_,_,_,_=>by omega
 | 0,n + 1,j,s,q,h1,h2,hf,hq,p,hp=>by
  unfold rst Eu;dsimp only;rw [show decide ((j:Int)<=64)=false by simp;omega,cf_];exact .inr ⟨_,rfl⟩
 | k + 1,n + 1,j,s,q,h1,h2,hf,hq,p,hp=>by
  have hb:=hc.bd;have h:=CL hc hf;unfold rst Eu;dsimp only;rw [show decide ((j:Int)<=64)=true by simp;omega,ct_];cases hs:stl c 65 s with
  | none=>rw [hs] at h;obtain ⟨a,l,h⟩:=h;rw [h];exact .inl ⟨_,_,rfl⟩
  | some t=>
   rw [hs] at h;obtain ⟨l,h,hl,hC⟩:=h;obtain ⟨ht,_,_⟩:=Lm hf hs;have hr:=Sd ht;obtain ⟨l2,e2,hl2,hC2⟩:=Wg (a:=q) (b:=l) om_ hp hC;rw [h,ob_];dsimp only;rw [nt_,cf_,e2,ob_,Pb (n:=1000) (hf.sm hb) uF om_,ob_,show sst s (rnd c t)=sst (rnd c t) s from Rv];cases hq2:sst (rnd c t) s with
   | true=>
    rw [if_pos rfl,ct_];refine ⟨l2,rfl,hC2.iff λx=>?_⟩;rw [Yb,hs];dsimp only;rw [hq2];simp
   | false=>
    rw [if_neg smp_,cf_,Aq om_];have ih:=Md hc k n (j + 1) (rnd c t) l2 om_ om_ hr om_ hC2;cases hst:rst c k (rnd c t) with
    | none=>rw [hst] at ih;exact ih
    | some u=>
     rw [hst] at ih;obtain ⟨l',e4,hC⟩:=ih;refine ⟨l',e4,hC.iff λx=>?_⟩;rw [Yb,hs];dsimp only;rw [hq2];simp [or_assoc]
theorem Wl {c:Aa} {s:Ac} (hc:Rt c) (hf:Fit c s):match rst c 65 s with
  | some t=>∃ l,m139 FF c s=some (t,l,true)/\Cs l (Yb c 65 s)
  | none=>∃ a l,m139 FF c s=some (a,l,false):=by
 have h:=Md hc 65 FF 0 s [] om_ uF hf smp_ (Cs.nil (p:=λ_=>False) λ_ h=>h);rw [n0] at h;unfold m139;cases hs:rst c 65 s with
 | none=>
  rw [hs] at h;rcases h with ⟨a,l,h⟩ | ⟨q,h⟩ <;> rw [h] <;> exact ⟨_,_,rfl⟩
 | some t=>rw [hs] at h;obtain ⟨l,h,hC⟩:=h;rw [h];exact ⟨l,rfl,hC.iff λx=>by simp⟩
theorem CZ {c:Aa} {s:Ac} (hc:Rt c) (hf:Fit c s):match rst c 65 s with
  | some t=>∃ l,m108 FF c s=some (t,l,0)/\Cs l (Yb c 65 s)
  | none=>m108 FF c s=some (z0,[],21):=by
 have h:=Wl hc hf;unfold m108;cases hs:rst c 65 s with
 | none=>rw [hs] at h;obtain ⟨a,l,h⟩:=h;rw [h];rfl
 | some t=>rw [hs] at h;obtain ⟨l,h,hC⟩:=h;rw [h];exact ⟨_,rfl,hC⟩
def qtE (c:Aa) (s:Ac):Int:=if DE c s=0 then (match stl c 65 s with | some t=>if sst (rnd c t) s=true then 0 else 14 | none=>14) else DE c s
theorem Wi {c:Aa} {s:Ac} (hc:Rc c):m152 FF c s=some (qtE c s):=by
 unfold m152 m180 qtE;rw [Jg hc,ob_];by_cases h0:DE c s=0
 ·have hf:=(Ez hc.rt.bd).1 h0;have h:=Wb hc hf;rw [if_pos h0,h0,zf_,cf_];cases hs:stl c 65 s with
  | none=>rw [hs] at h;rw [h];rfl
  | some t=>
   rw [hs] at h;obtain ⟨l,h,hl⟩:=h;obtain ⟨ht,_,_⟩:=Lm hf hs;rw [h,ob_];dsimp only;rw [show ((0:Int) == 0)=true by rfl,ct_,Ol (n:=1000) ((Sd ht).sm hc.rt.bd) uF om_];cases sst (rnd c t) s <;> rfl
 ·rw [if_neg h0,show (DE c s != 0)=true by simpa using h0,ct_,ob_];dsimp only;rw [show (DE c s != 0)=true by simpa using h0,ct_]
theorem Yf {c:Aa} {s:Ac} (hb:Bd_ c):qtE c s=0↔Fit c s/\Qt c s:=by
 unfold qtE Qt;rw [← Ez hb];by_cases h0:DE c s=0
 ·rw [if_pos h0];cases stl c 65 s with
  | none=>simp
  | some t=>simp [h0]
 ·rw [if_neg h0];simp [h0]
def act (s:Ac) (x:Ag):Option Ac:=
 if x.Kind=0 then (match idx s.Ends x.Index with
  | some e=>if e=1 then some { s with Ends:=s.Ends.set x.Index.toNat 2 } else if e=3 then some { s with Ends:=s.Ends.set x.Index.toNat 0 } else none
  | none=>none)
 else if x.Kind=1 then (match idx s.Timers x.Index with
  | some t=>if t=1 then some { s with Values:=s.Values.set x.Index.toNat true,Timers:=s.Timers.set x.Index.toNat 2 } else none
  | none=>none)
 else (match idx s.Inputs x.Index with
  | some v=>if v=x.Value then none else some { s with Inputs:=s.Inputs.set x.Index.toNat x.Value }
  | none=>none)
def aft (c:Aa) (s:Ac) (x:Ag):Ac×Int:=
 if x.Kind < 0\/3<=x.Kind then (z0,1) else match act s x with
  | none=>(z0,14)
  | some s'=>match rst c 65 s' with
   | none=>(z0,21)
   | some t=>(t,0)
theorem Xh {α:Type} {l:List α} {i:Nat} {y a:α} (h:a∈l.set i y):a∈l\/a=y:=by
 rcases List.mem_or_eq_of_mem_set h with h | h
 ·exact .inl h
 ·exact .inr h
theorem Tx {c:Aa} {s s':Ac} {x:Ag} (h:Fit c s) (ha:act s x=some s'):Fit c s':=by
 unfold act at ha;split at ha
 ·split at ha
  ·rename_i e he;split at ha
   ·obtain rfl:=Option.some.inj ha;exact ⟨(JJ ..).trans h.e,h.v,h.i,h.x,h.t,λa ha=>(Xh ha).elim (h.ee a) (λe=>by omega),h.tt,h.k⟩
   ·split at ha
    ·obtain rfl:=Option.some.inj ha;exact ⟨(JJ ..).trans h.e,h.v,h.i,h.x,h.t,λa ha=>(Xh ha).elim (h.ee a) (λe=>by omega),h.tt,h.k⟩
    ·cases ha
  ·cases ha
 ·split at ha
  ·split at ha
   ·rename_i t ht;split at ha
    ·rename_i h1;obtain rfl:=Option.some.inj ha;obtain ⟨i0,i1,i2⟩:=Bb ht;refine ⟨h.e,h.v,h.i,(JJ ..).trans h.x,(JJ ..).trans h.t,h.ee,λa ha=>(Xh ha).elim (h.tt a) (λe=>by omega),?_⟩;intro i y t' v' hy ht' hv';dsimp only at ht' hv';by_cases e:i=x.Index.toNat
     ·subst e;rw [HF om_] at ht';rw [HF (by have:=h.x;have:=h.t;omega)] at hv';obtain rfl:=Option.some.inj ht';obtain rfl:=Option.some.inj hv';refine ⟨λhk=>?_,λ_=>rfl⟩;have hlt:x.Index.toNat < s.Values.length:=by rw [h.x,← h.t];exact (GG.1 i2).1
      have hvo:s.Values[x.Index.toNat]?=some s.Values[x.Index.toNat]:=gE_ hlt;have:=(h.k _ y t _ hy i2 hvo).1 hk;omega
     ·rw [HT om_] at ht' hv';exact h.k i y t' v' hy ht' hv'
    ·cases ha
   ·cases ha
  ·split at ha
   ·split at ha
    ·cases ha
    ·obtain rfl:=Option.some.inj ha;exact ⟨h.e,h.v,(JJ ..).trans h.i,h.x,h.t,h.ee,h.tt,h.k⟩
   ·cases ha
def afP (c:Aa) (s:Ac) (x:Ag) (y:Int):Prop:=(aft c s x).2=0/\∃ s',act s x=some s'/\Yb c 65 s' y
theorem CO {c:Aa} {s:Ac} {x:Ag} (hc:Rc c) (hf:Fit c s):∃ l,m153 FF c s x=some ((aft c s x).1,l,(aft c s x).2)/\l.length<=200000/\Cs l (afP c s x):=by
 have hb:=hc.rt.bd;unfold m153 afP aft;rw [Wa (hf.sm hb),ob_];by_cases hk:x.Kind < 0\/3<=x.Kind
 ·rw [if_pos hk,show (decide (x.Kind < 0) || decide (x.Kind>=(3:Int)))=true by simpa using hk];exact ⟨_,rfl,by simp,Cs.nil λx h=>by cases h.1⟩
 ·rw [if_neg hk,show (decide (x.Kind < 0) || decide (x.Kind>=(3:Int)))=false by simp;omega,cf_]
  -- what the act gives
  have key:∃ r:Bool×(List Int)×(List Bool)×(List Bool)×(List Bool)×(List Int),((idx (List.range 3) x.Kind).bind λx6=>(bif x6 == 0 then m182 FF x (tup s).1 (tup s).2.1 (tup s).2.2.1 (tup s).2.2.2.1 (tup s).2.2.2.2 else bif x6 == 1 then m183 FF x (tup s).1 (tup s).2.1 (tup s).2.2.1 (tup s).2.2.2.1 (tup s).2.2.2.2 else bif x6 == 2 then m184 FF x (tup s).1 (tup s).2.1 (tup s).2.2.1 (tup s).2.2.2.1 (tup s).2.2.2.2 else none))=some r /\
    (match act s x with | none=>r.1=false | some s'=>r=(true,s'.Ends,s'.Valves,s'.Inputs,s'.Values,s'.Timers)):=by
   unfold tup act;dsimp only;have hkk:x.Kind=0\/x.Kind=1\/x.Kind=2:=by omega
   rcases hkk with k | k | k <;> rw [k]
   ·rw [show idx (List.range 3) (0:Int)=some 0 by rfl,ob_,show ((0:Nat) == 0)=true by rfl,ct_,if_pos rfl];unfold m182;by_cases hr:x.Index < 0\/(s.Ends.length:Int)<=x.Index
    ·rw [show (decide (x.Index < 0) || decide (x.Index>=(s.Ends.length:Int)))=true by simpa using hr,ct_];have:idx s.Ends x.Index=none:=by
      cases he:idx s.Ends x.Index with
      | none=>rfl
      | some e=>have:=Bb he;omega
     rw [this];exact ⟨_,rfl,rfl⟩
    ·rw [show (decide (x.Index < 0) || decide (x.Index>=(s.Ends.length:Int)))=false by simp;omega,cf_];obtain ⟨e,he,_⟩:=Cm (xs:=s.Ends) (i:=x.Index) om_ om_;rw [he,ob_];dsimp only;by_cases h1:e=1
     ·rw [if_pos h1,show (e == 1)=true by simpa using h1,ct_];exact ⟨_,rfl,rfl⟩
     ·rw [if_neg h1,show (e == 1)=false by simpa using h1,cf_];by_cases h3:e=3
      ·rw [if_pos h3,show (e == 3)=true by simpa using h3,ct_];exact ⟨_,rfl,rfl⟩
      ·rw [if_neg h3,show (e == 3)=false by simpa using h3,cf_];exact ⟨_,rfl,rfl⟩
   ·rw [show idx (List.range 3) (1:Int)=some 1 by rfl,ob_,show ((1:Nat) == 0)=false by rfl,cf_,show ((1:Nat) == 1)=true by rfl,ct_,if_neg om_,if_pos rfl];unfold m183;by_cases hr:x.Index < 0\/(s.Timers.length:Int)<=x.Index
    ·rw [show (decide (x.Index < 0) || decide (x.Index>=(s.Timers.length:Int)))=true by simpa using hr,ct_,ob_];have:idx s.Timers x.Index=none:=by
      cases he:idx s.Timers x.Index with
      | none=>rfl
      | some e=>have:=Bb he;omega
     rw [this];exact ⟨_,rfl,rfl⟩
    ·rw [show (decide (x.Index < 0) || decide (x.Index>=(s.Timers.length:Int)))=false by simp;omega,cf_];obtain ⟨e,he,_⟩:=Cm (xs:=s.Timers) (i:=x.Index) om_ om_;obtain ⟨v,hv,_⟩:=Cm (xs:=s.Values) (i:=x.Index) om_ (by have:=hf.x;have:=hf.t;omega);rw [he,ob_,ob_];dsimp only;by_cases h1:e=1
     ·rw [if_pos h1,show (e != 1)=false by simpa using h1,cf_,ob_,hv];exact ⟨_,rfl,rfl⟩
     ·rw [if_neg h1,show (e != 1)=true by simpa using h1,ct_];exact ⟨_,rfl,rfl⟩
   ·rw [show idx (List.range 3) (2:Int)=some 2 by rfl,ob_,show ((2:Nat) == 0)=false by rfl,cf_,show ((2:Nat) == 1)=false by rfl,cf_,show ((2:Nat) == 2)=true by rfl,ct_,if_neg om_,if_neg om_];unfold m184;by_cases hr:x.Index < 0\/(s.Inputs.length:Int)<=x.Index
    ·rw [show (decide (x.Index < 0) || decide (x.Index>=(s.Inputs.length:Int)))=true by simpa using hr,ct_,ob_];have:idx s.Inputs x.Index=none:=by
      cases he:idx s.Inputs x.Index with
      | none=>rfl
      | some e=>have:=Bb he;omega
     rw [this];exact ⟨_,rfl,rfl⟩
    ·rw [show (decide (x.Index < 0) || decide (x.Index>=(s.Inputs.length:Int)))=false by simp;omega,cf_];obtain ⟨e,he,_⟩:=Cm (xs:=s.Inputs) (i:=x.Index) om_ om_;rw [he,ob_,ob_];dsimp only;by_cases h1:e=x.Value
     ·rw [if_pos h1,show (e == x.Value)=true by simpa using h1,ct_];exact ⟨_,rfl,rfl⟩
     ·rw [if_neg h1,show (e == x.Value)=false by simpa using h1,cf_,ob_];exact ⟨_,rfl,rfl⟩
  obtain ⟨r,hr,hm⟩:=key;obtain ⟨x6,h6,hr⟩:=HZ.1 hr;rw [h6,ob_,hr,ob_];cases ha:act s x with
  | none=>
   rw [ha] at hm;rw [hm,nf_,ct_];exact ⟨_,rfl,by simp,Cs.nil λx h=>by cases h.1⟩
  | some s'=>
   rw [ha] at hm;subst hm;have h:=Xj hc (Tx hf ha);dsimp only;rw [nt_,cf_];rw [show (⟨s'.Ends,s'.Valves,s'.Inputs,s'.Values,s'.Timers⟩:Ac)=s' from rfl];cases hs:rst c 65 s' with
   | none=>rw [hs] at h;rw [h];exact ⟨_,rfl,by simp,Cs.nil λx h=>by cases h.1⟩
   | some t=>rw [hs] at h;obtain ⟨l,h,hl,hC⟩:=h;rw [h];exact ⟨_,rfl,hl,hC.iff λx=>by simp⟩
theorem m124_cs {c:Aa} {s:Ac} {x:Ag} (hc:Rc c) (hf:Fit c s) (hq:Qt c s):∃ l,m124 FF c s x=some ((aft c s x).1,l,(aft c s x).2)/\l.length<=200000/\Cs l (afP c s x):=by
 obtain ⟨l,h,hl,hC⟩:=CO (x:=x) hc hf;unfold m124;rw [Wi hc,(Yf hc.rt.bd).2 ⟨hf,hq⟩,ob_,zf_,cf_,h];exact ⟨l,rfl,hl,hC⟩
theorem Wo {c:Aa} {s:Ac} {x:Ag} (hc:Rc c) (hf:Fit c s) (hq:Qt c s):∃ l,m124 FF c s x=some ((aft c s x).1,l,(aft c s x).2):=
 let ⟨l,h,_⟩:=m124_cs hc hf hq;⟨l,h⟩
end Go.Pn
namespace Go.Pn
open Go
def Tz (s:Ac) (i:Nat):Option Ag:=if s.Ends.getD i 0=1\/s.Ends.getD i 0=3 then some ⟨0,(i:Int),false⟩ else none
def AS (s:Ac) (i:Nat):Option Ag:=if s.Timers.getD i 0=1 then some ⟨1,(i:Int),false⟩ else none
def Jx (s:Ac):List Ag:=(List.range s.Ends.length).filterMap (Tz s) ++ (List.range s.Timers.length).filterMap (AS s)
theorem Bq {α:Type} {g:Nat->Option α} {n:Nat}:((List.range n).filterMap g).length<=n:=by
 have:=List.length_filterMap_le g (List.range n);rw [KX] at this;exact this
theorem Fi {α:Type} {g:Nat->Option α} {n:Nat}:(List.range (n + 1)).filterMap g=(List.range n).filterMap g ++ (match g n with | some y=>[y] | none=>[]):=by
 rw [List.range_succ,List.filterMap_append];cases h:g n <;> simp [h]
theorem Yk {s:Ac} (h:Smst s 1000):m81 FF s=some (Jx s):=by
 have h1:=h.e;have h2:=h.t;unfold m81;obtain ⟨v,hv,hl⟩:=Qe (L:=Qn s) (mk:=λi (v:List Ag)=>((i:Int),v)) (N:=s.Ends.length) (I:=λi v=>v=(List.range i).filterMap (Tz s)) (λn i v hi hI=>by
  subst hI;refine ⟨_,rfl,?_⟩;have hle:=Bq (g:=Tz s) (n:=i);have hg:s.Ends.getD i 0=s.Ends[i]:=by rw [GV,gE_ hi];rfl
  rw [Qn];dsimp only;rw [Ao,dt_ hi,ct_];simp only [Am,gE_ hi,ob_];rw [Aq om_,Fi];have hp:Tz s i=if s.Ends[i]=1\/s.Ends[i]=3 then some ⟨0,(i:Int),false⟩ else none:=by unfold Tz;rw [hg]
  rw [hp];by_cases a1:s.Ends[i]=1
  ·rw [show (s.Ends[i] == 1)=true by simpa using a1,if_pos (.inl a1),ct_,ob_,ct_,Az so_];rfl
  ·by_cases a3:s.Ends[i]=3
   ·rw [show (s.Ends[i] == 1)=false by simpa using a1,show (s.Ends[i] == 3)=true by simpa using a3,if_pos (.inr a3),cf_,ob_,ct_,Az so_];rfl
   ·rw [show (s.Ends[i] == 1)=false by simpa using a1,show (s.Ends[i] == 3)=false by simpa using a3,if_neg om_,cf_,ob_,cf_,ob_,HM]) (λn v _=>by
  rw [Qn];dsimp only;rw [Ao,df_ om_,cf_]) FF 0 [] om_ uF rfl
 subst hv;try dsimp only at hl
 rw [n0] at hl;rw [hl,ob_];have hle1:=Bq (g:=Tz s) (n:=s.Ends.length);obtain ⟨v,hv,hl⟩:=Qe (L:=Qm s) (mk:=λi (v:List Ag)=>((i:Int),v)) (N:=s.Timers.length) (I:=λi v=>v=(List.range s.Ends.length).filterMap (Tz s) ++ (List.range i).filterMap (AS s)) (λn i v hi hI=>by
  subst hI;refine ⟨_,rfl,?_⟩;have hle:=Bq (g:=AS s) (n:=i);have hg:s.Timers.getD i 0=s.Timers[i]:=by rw [GV,gE_ hi];rfl
  rw [Qm];dsimp only;rw [Ao,dt_ hi,ct_];simp only [Am,gE_ hi,ob_];rw [Aq om_,Fi];have hp:AS s i=if s.Timers[i]=1 then some ⟨1,(i:Int),false⟩ else none:=by unfold AS;rw [hg]
  rw [hp];by_cases a1:s.Timers[i]=1
  ·rw [show (s.Timers[i] == 1)=true by simpa using a1,if_pos a1,ct_,Az so_,← G2];rfl
  ·rw [show (s.Timers[i] == 1)=false by simpa using a1,if_neg a1,cf_,ob_,HM]) (λn v _=>by
  rw [Qm];dsimp only;rw [Ao,df_ om_,cf_]) FF 0 ((List.range s.Ends.length).filterMap (Tz s)) om_ uF smp_
 subst hv;try dsimp only at hl
 rw [n0] at hl;rw [hl];rfl
theorem Mi {s:Ac} (h:Smst s 1000):(Jx s).length<=2000:=by
 have h1:=h.e;have h2:=h.t;have a:=Bq (g:=Tz s) (n:=s.Ends.length);have b:=Bq (g:=AS s) (n:=s.Timers.length);unfold Jx;rw [GB];omega
theorem Sk {s:Ac} {x:Ag}:x∈Jx s↔(∃ i,i < s.Ends.length/\(s.Ends.getD i 0=1\/s.Ends.getD i 0=3)/\x=⟨0,(i:Int),false⟩)\/(∃ i,i < s.Timers.length/\s.Timers.getD i 0=1/\x=⟨1,(i:Int),false⟩):=by
 unfold Jx;rw [GN,J0,J0];unfold Tz AS;constructor
 ·rintro (⟨i,hi,h⟩ | ⟨i,hi,h⟩)
  ·split at h
   ·rename_i h1;exact .inl ⟨i,GZ.1 hi,h1,(Option.some.inj h).symm⟩
   ·cases h
  ·split at h
   ·rename_i h1;exact .inr ⟨i,GZ.1 hi,h1,(Option.some.inj h).symm⟩
   ·cases h
 ·rintro (⟨i,hi,h,rfl⟩ | ⟨i,hi,h,rfl⟩)
  ·exact .inl ⟨i,GZ.2 hi,by rw [if_pos h]⟩
  ·exact .inr ⟨i,GZ.2 hi,by rw [if_pos h]⟩
theorem Zg {l:List Int} {i:Nat} (h:i < l.length):idx l (i:Int)=some (l.getD i 0):=by
 rw [Am,GV,gE_ h];rfl
theorem Zd {l:List Int} {i e:Int} (h:idx l i=some e):i.toNat < l.length/\l.getD i.toNat 0=e/\((i.toNat:Nat):Int)=i:=by
 obtain ⟨h0,h1,h2⟩:=Bb h;exact ⟨(GG.1 h2).1,by rw [GV,h2];rfl,by omega⟩
theorem C0 {s:Ac} {x:Ag} (h:Smst s 1000) (hk:0<=x.Kind/\x.Kind < 3):m107 FF s x=some (act s x).isSome:=by
 have hkk:x.Kind=0\/x.Kind=1\/x.Kind=2:=by omega
 unfold m107;by_cases h2:x.Kind=2
 ·rw [h2,show ((2:Int) == 2)=true by rfl,ct_];unfold act;rw [if_neg om_,if_neg om_];by_cases hr:x.Index>=0/\x.Index < s.Inputs.length
  ·rw [dt_ hr.1,dt_ hr.2,Bool.and_self,ct_];obtain ⟨v,hv,_⟩:=Cm (xs:=s.Inputs) hr.1 hr.2;rw [hv,ob_,ob_];dsimp only;by_cases e:v=x.Value
   ·rw [if_pos e,e];simp
   ·rw [if_neg e,show (v != x.Value)=true by simpa using e];rfl
  ·have:(decide (x.Index>=(0:Int)) && decide (x.Index < (s.Inputs.length:Int)))=false:=by
    rw [J4,decide_eq_false_iff_not,decide_eq_false_iff_not];omega
   have hn:idx s.Inputs x.Index=none:=by
    cases he:idx s.Inputs x.Index with
    | none=>rfl
    | some e=>have:=Bb he;omega
   rw [this,hn];rfl
 ·rw [show (x.Kind == 2)=false by simpa using h2,cf_,Yk h,ob_];have hpl:=Mi h;have h5:=Ub (L:=Pc x (Jx s)) (xs:=Jx s) (p:=λ_ y=>some ((y.Kind == x.Kind) && (y.Index == x.Index))) (q:=λy=>(y.Kind == x.Kind) && (y.Index == x.Index)) (r:=λ_=>true) (λn z=>by
   rw [Pc];congr 1;cases hy:idx (Jx s) z with
   | none=>rfl
   | some y=>
    simp only [ob_];cases (y.Kind == x.Kind) <;> rfl) om_ (λi y hy=>rfl) FF 0 om_ (by unfold FF; omega)
  rw [n0,GL] at h5;rw [h5];have key:(act s x).isSome=true↔∃ y∈Jx s,((y.Kind == x.Kind) && (y.Index == x.Index))=true:=by
   unfold act;constructor
   ·intro ha;split at ha
    ·rename_i hk0;split at ha
     ·rename_i e he;obtain ⟨g1,g2,g3⟩:=Zd he;have:e=1\/e=3:=by
       split at ha
       ·left;assumption
       ·split at ha
        ·right;assumption
        ·cases ha
      exact ⟨⟨0,((x.Index.toNat:Nat):Int),false⟩,Sk.2 (.inl ⟨_,g1,by omega,rfl⟩),by simp [hk0,g3]⟩
     ·cases ha
    ·split at ha
     ·rename_i hk0 hk1;split at ha
      ·rename_i e he;obtain ⟨g1,g2,g3⟩:=Zd he;have:e=1:=by
        split at ha
        ·assumption
        ·cases ha
       exact ⟨⟨1,((x.Index.toNat:Nat):Int),false⟩,Sk.2 (.inr ⟨_,g1,by omega,rfl⟩),by simp [hk1,g3]⟩
      ·cases ha
     ·omega
   ·rintro ⟨y,hy,hq⟩;rw [GM,beq_iff_eq,beq_iff_eq] at hq;obtain ⟨q1,q2⟩:=hq;rcases Sk.1 hy with ⟨i,hi,he,rfl⟩ | ⟨i,hi,he,rfl⟩
    ·dsimp only at q1 q2;rw [if_pos q1.symm,← q2,Zg hi];dsimp only;rcases he with he | he
     ·rw [if_pos he];rfl
     ·rw [if_neg om_,if_pos he];rfl
    ·dsimp only at q1 q2;rw [if_neg om_,if_pos q1.symm,← q2,Zg hi];dsimp only;rw [if_pos he];rfl
  cases h6:(Jx s).findIdx? (λy=>(y.Kind == x.Kind) && (y.Index == x.Index)) with
  | none=>
   rw [HH] at h6;have:(act s x).isSome=false:=by
    rw [Bool.eq_false_iff];intro ha;obtain ⟨y,hy,hq⟩:=key.1 ha;rw [h6 y hy] at hq;cases hq
   rw [this];rfl
  | some j=>
   obtain ⟨hj,hj2,_⟩:=G7.1 h6;rw [key.2 ⟨_,GF hj,hj2⟩];rfl
theorem CY {c:Aa} {s s':Ac} {x:Ag} (hb:Bd_ c) (hf:Fit c s) (hk:0<=x.Kind/\x.Kind < 3) (ha:act s x=some s'):m109 FF s x=some s':=by
 have hkk:x.Kind=0\/x.Kind=1\/x.Kind=2:=by omega
 unfold m109;rw [Dh (hf.sm hb),ob_];unfold tup;dsimp only;unfold act at ha;rcases hkk with k | k | k <;> rw [k] at ha ⊢
 ·rw [if_pos rfl] at ha;rw [show ((0:Int) == 0)=true by rfl,ct_];split at ha
  ·rename_i e he;obtain ⟨i0,i1,i2⟩:=Bb he;rw [he,ob_,ob_];split at ha
   ·rename_i h1;obtain rfl:=Option.some.inj ha;obtain ⟨y,hy,_⟩:=Cm (xs:=s.Ends.set x.Index.toNat 0) i0 (by rw [JJ];exact i1);rw [h1,show ((1:Int) == 1)=true by rfl,ct_,hy,ob_,ob_,ob_,List.set_set]
   ·rename_i h1;split at ha
    ·obtain rfl:=Option.some.inj ha;rw [show (e == 1)=false by simpa using h1,cf_,ob_,ob_]
    ·cases ha
  ·cases ha
 ·rw [if_neg om_,if_pos rfl] at ha;rw [show ((1:Int) == 0)=false by rfl,cf_,show ((1:Int) == 1)=true by rfl,ct_];split at ha
  ·rename_i e he;obtain ⟨i0,i1,i2⟩:=Bb he;have hx:=hf.x;have ht:=hf.t;obtain ⟨y,hy,_⟩:=Cm (xs:=s.Values) i0 om_;rw [he,ob_,hy,ob_,ob_];split at ha
   ·obtain rfl:=Option.some.inj ha;rfl
   ·cases ha
  ·cases ha
 ·rw [if_neg om_,if_neg om_] at ha;rw [show ((2:Int) == 0)=false by rfl,cf_,show ((2:Int) == 1)=false by rfl,cf_,show ((2:Int) == 2)=true by rfl,ct_];split at ha
  ·rename_i e he;rw [he,ob_,ob_,ob_,ob_];split at ha
   ·cases ha
   ·obtain rfl:=Option.some.inj ha;rfl
  ·cases ha
theorem m82_cs {c:Aa} {s:Ac} {x:Ag} (hc:Rt c) (hf:Fit c s):∃ l,m82 FF c s x=some ((aft c s x).1,l,(aft c s x).2)/\Cs l (afP c s x):=by
 have hb:=hc.bd;unfold m82 afP aft;by_cases hk:x.Kind < 0\/3<=x.Kind
 ·rw [if_pos hk,show (decide (x.Kind < 0) || decide (x.Kind > 2))=true by simp;omega];exact ⟨_,rfl,Cs.nil λx h=>by cases h.1⟩
 ·rw [if_neg hk,show (decide (x.Kind < 0) || decide (x.Kind > 2))=false by simp;omega,cf_,C0 (hf.sm hb) om_,ob_];cases ha:act s x with
  | none=>exact ⟨_,rfl,Cs.nil λx h=>by cases h.1⟩
  | some s'=>
   rw [show (!(some s').isSome)=false by rfl,cf_,CY hb hf om_ ha,ob_];have h:=CZ hc (Tx hf ha);dsimp only;cases hs:rst c 65 s' with
   | none=>rw [hs] at h;rw [h];exact ⟨_,rfl,Cs.nil λx h=>by cases h.1⟩
   | some t=>rw [hs] at h;obtain ⟨l,h,hC⟩:=h;rw [h];exact ⟨_,rfl,hC.iff λy=>⟨λh=>⟨rfl,s',rfl,h⟩,λ⟨_,s2,h2,h3⟩=>by obtain rfl:=Option.some.inj h2;exact h3⟩⟩
theorem Yj {c:Aa} {s:Ac} {x:Ag} (hc:Rt c) (hf:Fit c s):∃ l,m82 FF c s x=some ((aft c s x).1,l,(aft c s x).2):=
 let ⟨l,h,_⟩:=m82_cs hc hf;⟨l,h⟩
def DV (c:Aa) (i:Nat):Bool:=((c.Signals[i]?).map (·.Init)).getD false
def ini (c:Aa):Ac:=⟨List.replicate (cA c) 0,List.replicate (cA c) false,List.replicate c.Inputs.length false,(List.range c.Signals.length).map (DV c),List.replicate c.Signals.length 0⟩
theorem Th {c:Aa} (hc:Rt c):Fit c (ini c):=by
 refine ⟨by simp [ini],by simp [ini],by simp [ini],by simp [ini],by simp [ini],?_,?_,?_⟩
 ·intro a ha;have:=K1 ha;omega
 ·intro a ha;have:=K1 ha;omega
 ·intro i x t v hx ht hv;have hi:=(GG.1 hx).1;have ht':(List.replicate c.Signals.length (0:Int))[i]?=some t:=ht;have hv':((List.range c.Signals.length).map (DV c))[i]?=some v:=hv;rw [JY,if_pos hi] at ht';rw [GU,HR hi] at hv';have ht':=Option.some.inj ht';have hv':=Option.some.inj hv';subst ht';refine ⟨λ_=>rfl,λhk=>?_⟩;have:=hc.ini x (GP hx) hk;unfold DV at hv';rw [hx] at hv';have hv':x.Init=v:=hv';rw [← hv',this];rfl
theorem Mb {c:Aa} (hb:Bd_ c):∃ z,Ec c FF ((0:Int),List.replicate c.Signals.length false)=some (z,(List.range c.Signals.length).map (DV c)):=by
 have h3:=hb.s;obtain ⟨v,hv,hl⟩:=Qe (L:=Ec c) (mk:=λi (v:List Bool)=>((i:Int),v)) (N:=c.Signals.length) (I:=λi v=>v=upd (DV c) (List.replicate c.Signals.length false) i) (λn i v hi hI=>by
  subst hI;refine ⟨_,rfl,?_⟩;have hg:(upd (DV c) (List.replicate c.Signals.length false) i)[i]?=some false:=by rw [Cb (G0 i),JY,if_pos hi]
  rw [Ec];dsimp only;rw [Ao,dt_ hi,ct_,Am,gE_ hi,ob_,Am,hg,ob_,Aq om_,G3,Dl (by simpa using hi) (by unfold DV;rw [gE_ hi];rfl)]) (λn v _=>by
  rw [Ec];dsimp only;rw [Ao,df_ om_,cf_]) FF 0 _ om_ uF Bz.symm
 subst hv;try dsimp only at hl
 rw [n0] at hl;rw [hl];have:=Dm (f:=DV c) (l:=List.replicate c.Signals.length false);rw [J3] at this;rw [this];exact ⟨_,rfl⟩
theorem AL {c:Aa}:∀ {n z},Ov c n z=Ec c n z:=by
 intro n
 induction n with
 | zero=>intro z;rfl
 | succ n ih=>intro z;rw [Ov,Ec];simp only [ih]
theorem Eg {α:Type} {z:α} {n:Nat} (h:n<=1000):mks z (n:Int)=some (List.replicate n z):=by
 unfold mks;rw [if_pos om_,G3]
theorem CQ {c:Aa} (hc:Rc c):m150 FF c=some (Aw c (ini c),0):=by
 have hb:=hc.rt.bd;have h1:=hb.a';have h2:=hb.i;have h3:=hb.s;obtain ⟨z,hz⟩:=Mb hb;unfold m150;rw [hc.ck,ob_,zf_,cf_,hb.a,Eg om_,ob_,Eg om_,ob_,Eg om_,ob_,Eg om_,ob_,Eg om_,ob_,hz,ob_];dsimp only;rw [show (⟨List.replicate (cA c) 0,List.replicate (cA c) false,List.replicate c.Inputs.length false,(List.range c.Signals.length).map (DV c),List.replicate c.Signals.length 0⟩:Ac)=ini c from rfl,CF hc.rt hc.fw (Th hc.rt)];rfl
theorem CR {c:Aa} (hc:Rt c):m140 FF c=some (Aw c (ini c)):=by
 have hb:=hc.bd;have h1:=hb.a';have h2:=hb.i;have h3:=hb.s;obtain ⟨z,hz⟩:=Mb hb;unfold m140;rw [hb.a,Eg om_,ob_,Eg om_,ob_,Eg om_,ob_,Eg om_,ob_,Eg om_,ob_,AL,hz,ob_];dsimp only;rw [show (⟨List.replicate (cA c) 0,List.replicate (cA c) false,List.replicate c.Inputs.length false,(List.range c.Signals.length).map (DV c),List.replicate c.Signals.length 0⟩:Ac)=ini c from rfl,Wf hc (Th hc)];rfl
theorem CW {c:Aa} (hc:Rc c):match rst c 65 (Aw c (ini c)) with
  | some t=>∃ l,m123 FF c=some (t,0,l)/\l.length<=200000/\Cs l (Yb c 65 (Aw c (ini c)))
  | none=>m123 FF c=some (z0,21,[]):=by
 have h:=CP hc (Ey (Th hc.rt));unfold m123;rw [CQ hc,ob_,zf_,cf_];dsimp only;cases hs:rst c 65 (Aw c (ini c)) with
 | none=>rw [hs] at h;rw [h];rfl
 | some t=>rw [hs] at h;obtain ⟨l,h,hl,hC⟩:=h;rw [h];exact ⟨l,rfl,hl,hC⟩
def bgs (c:Aa):List Bool->Nat->Ac->Option Ac
 | [],_,s=>some s
 | b :: l,i,s=>if b=true then (match rst c 65 { s with Inputs:=s.Inputs.set i true } with
   | some t=>bgs c l (i + 1) t
   | none=>none) else bgs c l (i + 1) s
theorem Kj {c:Aa} {held:List Bool} (hl:held.length<=1000) {e:Int} (he:e≠0) (s:Ac):∀ (n i:Nat),i<=held.length->held.length - i < n->∃ z,Hv FF c held n (e,(i:Int),s)=some (e,z,s)
 | 0,i,_,h=>by omega
 | n + 1,i,h1,h2=>by
  unfold Hv;dsimp only;by_cases hi:i < held.length
  ·rw [Ao,dt_ hi,ct_,Am,gE_ hi,ob_,show (e == 0)=false by simpa using he,HW,cf_,ob_,Aq om_];exact Kj hl he s n (i + 1) om_ om_
  ·rw [Ao,df_ hi,cf_];exact ⟨_,rfl⟩
theorem Tu {c:Aa} (hc:Rc c) {held:List Bool} (hhl:held.length=c.Inputs.length):∀ (l:List Bool) (i n:Nat) (s:Ac),held.drop i=l->l.length < n->Fit c s->Qt c s->(∀ j,i<=j->j < c.Inputs.length->s.Inputs[j]?=some false) ->
  match bgs c l i s with
  | some t=>(∃ z,Hv FF c held n ((0:Int),(i:Int),s)=some (0,z,t))/\(∃ z,Ce FF c held n (true,(i:Int),s)=some (true,z,t))/\Fit c t/\Qt c t
  | none=>(∃ z t,Hv FF c held n ((0:Int),(i:Int),s)=some (21,z,t))/\∃ z t,Ce FF c held n (true,(i:Int),s)=some (false,z,t)
 | [],i,0,s,_,h,_,_,_=>by simp at h
 | [],i,n + 1,s,hd,_,hf,hq,_=>by
  have hi:held.length<=i:=by simpa using hd
  unfold bgs Hv Ce;dsimp only;rw [Ao,df_ om_,cf_,HW,cf_];exact ⟨⟨_,rfl⟩,⟨_,rfl⟩,hf,hq⟩
 | b :: l,i,0,s,_,h,_,_,_=>by simp at h
 | b :: l,i,n + 1,s,hd,hn,hf,hq,hI=>by
  have hb:=hc.rt.bd;have h2:=hb.i;have hi:i < held.length:=by
   rcases H4 i held.length with h | h
   ·exact h
   ·rw [G1 h] at hd;cases hd
  rw [GE hi] at hd;obtain ⟨hb1,hd1⟩:=List.cons.inj hd;have hx:held[i]?=some b:=by rw [gE_ hi,hb1]
  have hin:=hI i (G0 i) om_;unfold bgs Hv Ce;dsimp only;rw [Ao,dt_ hi,ct_,HJ,ct_,Am,hx,ob_,ob_,show ((0:Int) == 0)=true by rfl,HJ,Aq om_];simp only [JE] at hn;cases b with
  | false=>
   rw [if_neg smp_,cf_,cf_,ob_,ob_];exact Tu hc hhl l (i + 1) n s hd1 om_ hf hq (λj h1 h2=>hI j om_ h2)
  | true=>
   have ha:act s ⟨2,(i:Int),true⟩=some { s with Inputs:=s.Inputs.set i true }:=by
    unfold act;dsimp only;rw [if_neg om_,if_neg om_,Am,hin];rfl
   have haf:aft c s ⟨2,(i:Int),true⟩=match rst c 65 { s with Inputs:=s.Inputs.set i true } with | none=>(z0,21) | some t=>(t,0):=by
    unfold aft;rw [if_neg smp_,ha]
    all_goals (dsimp only; cases rst c 65 { s with Inputs:=s.Inputs.set i true } <;> rfl)
   obtain ⟨l1,e1⟩:=Wo (x:=⟨2,(i:Int),true⟩) hc hf hq;obtain ⟨l2,e2⟩:=Yj (x:=⟨2,(i:Int),true⟩) hc.rt hf;rw [if_pos rfl,ct_,ct_,e1,e2,ob_,ob_,ob_,ob_];rw [haf];cases hs:rst c 65 { s with Inputs:=s.Inputs.set i true } with
   | none=>
    dsimp only;refine ⟨?_,?_⟩
    ·obtain ⟨z,hz⟩:=Kj (c:=c) (held:=held) om_ (show (21:Int)≠0 by omega) z0 n (i + 1) om_ (by
      have:held.length - (i + 1)=l.length:=by rw [← hd1,List.length_drop]
      omega)
     exact ⟨_,_,hz⟩
    ·rw [show ((21:Int) == 0)=false by rfl];cases n with
     | zero=>omega
     | succ n=>
      unfold Ce;dsimp only;rw [KW,cf_];exact ⟨_,_,rfl⟩
   | some t=>
    dsimp only;rw [show ((0:Int) == 0)=true by rfl];obtain ⟨f1,f2,f3⟩:=Ya (Tx hf ha) hs;refine Tu hc hhl l (i + 1) n t hd1 om_ f1 f3 (λj h1 h2=>?_);rw [f2];dsimp only;rw [HT om_];exact hI j om_ h2
def Fx (c:Aa) (held:List Bool):Ac×Int:=match rst c 65 (Aw c (ini c)) with
 | none=>(z0,21)
 | some s=>match bgs c held 0 s with
  | none=>(z0,21)
  | some t=>(t,0)
theorem Tv {c:Aa} (hw:Fw c) (hs16:c.Signals.length<=16\/64 < c.Signals.length) (held:List Bool) :
  (∃ e,e≠0/\m97 FF c held=some (z0,e)/\m80 FF c held=some (z0,e)/\(Rc c->held.length≠c.Inputs.length))\/(Rc c/\held.length=c.Inputs.length/\m97 FF c held=some (Fx c held)/\m80 FF c held=some (Fx c held)/\((Fx c held).2=0->Fit c (Fx c held).1/\Qt c (Fx c held).1)):=by
 obtain ⟨e,h1,h2,h3⟩:=E9 hw hs16;unfold m97 m80 m105;rw [h1,h2,ob_,ob_];by_cases he:e=0
 ·subst he;have hc:Rc c:=⟨h3 rfl,hw,h1,h2⟩;have hb:=hc.rt.bd;have hi:=hb.i;rw [zf_,cf_,cf_];by_cases hl:held.length=c.Inputs.length
  ·right;refine ⟨hc,hl,?_⟩;rw [show ((held.length:Int) != (c.Inputs.length:Int))=false by simp;omega,cf_,cf_,ob_,zf_,cf_];unfold m106 Fx;have hf:=Ey (Th hc.rt);have h71:=CW hc;have h156:=Wl hc.rt hf;rw [CR hc.rt,ob_];cases hr:rst c 65 (Aw c (ini c)) with
   | none=>
    rw [hr] at h71 h156;obtain ⟨a,l,h156⟩:=h156;rw [h71,h156,ob_,ob_];dsimp only;obtain ⟨z,hz⟩:=Kj (c:=c) (held:=held) om_ (show (21:Int)≠0 by omega) z0 FF 0 om_ uF;rw [n0] at hz;rw [hz,ob_];have:Ce FF c held FF (false,(0:Int),a)=some (false,0,a):=by
     show Ce FF c held (99999 + 1) _=_;unfold Ce;dsimp only;rw [KW,cf_]
    rw [this];exact ⟨rfl,rfl,λh=>by cases h⟩
   | some s=>
    rw [hr] at h71 h156;obtain ⟨l1,h71,_⟩:=h71;obtain ⟨l2,h156,_⟩:=h156;obtain ⟨f1,f2,f3⟩:=Ya hf hr;rw [h71,h156,ob_,ob_];dsimp only;have hbs:=Tu hc hl held 0 FF s smp_ uF f1 f3 (λj _ hj=>by
     rw [f2];show (List.replicate c.Inputs.length false)[j]?=some false;rw [JY,if_pos hj])
    rw [n0] at hbs;cases hg:bgs c held 0 s with
    | none=>
     rw [hg] at hbs;obtain ⟨⟨z,t,a1⟩,⟨z',t',a2⟩⟩:=hbs;rw [a1,a2];exact ⟨rfl,rfl,λh=>by cases h⟩
    | some t=>
     rw [hg] at hbs;obtain ⟨⟨z,a1⟩,⟨z',a2⟩,a3,a4⟩:=hbs;rw [a1,a2];exact ⟨rfl,rfl,λ_=>⟨a3,a4⟩⟩
  ·left;rw [show ((held.length:Int) != (c.Inputs.length:Int))=true by simp;omega,ct_,ct_];exact ⟨8,by omega,rfl,rfl,λ_=>hl⟩
 ·left;rw [show (e != 0)=true by simpa using he,ct_,ct_];refine ⟨e,he,rfl,?_,λhc=>absurd (Option.some.inj (h1.symm.trans hc.ck)) he⟩;rw [ob_,show (e != 0)=true by simpa using he,ct_]
end Go.Pn
namespace Go.Pn
open Go
theorem forG {S σ R:Type} {L:Nat->S->R} {mk:Nat->σ->S} {N:Nat} {I:Nat->σ->Prop} {E:σ->R}
  (h:∀ (n i:Nat) s,i < N->I i s->∃ s',I (i + 1) s'/\L (n + 1) (mk i s)=L n (mk (i + 1) s')) (h':∀ (n:Nat) s,I N s->L (n + 1) (mk N s)=E s) :
  ∀ (n i:Nat) s,i<=N->N - i < n->I i s->∃ s',I N s'/\L n (mk i s)=E s'
 | 0,i,_,_,h,_=>by omega
 | n + 1,i,s,h1,h2,hI=>by
  by_cases hi:i < N
  ·obtain ⟨s',h3,h4⟩:=h n i s hi hI;rw [h4];exact forG h h' n (i + 1) s' om_ om_ h3
  ·obtain rfl:i=N:=by omega
   exact ⟨s,hI,h' n s hI⟩
theorem Lz {x:Ag} {l:List Ag} (h:l.length<=100000):Eb x (l,0)=some (true,(l ++ [x],0)):=by
 unfold Eb;dsimp only;rw [Az so_];rfl
theorem CC {s:Ac} (h:Smst s 1000):m187 FF s=some (Jx s):=by
 have h1:=h.e;have h2:=h.t;unfold m187 m188;obtain ⟨v,hv,hl⟩:=forG (L:=Hg Eb s) (mk:=λi (v:List Ag)=>((i:Int),(v,0))) (N:=s.Ends.length) (I:=λi v=>v=(List.range i).filterMap (Tz s)) (E:=λv=>some (.brk ((s.Ends.length:Int),(v,0)))) (λn i v hi hI=>by
  subst hI;refine ⟨_,rfl,?_⟩;have hle:=Bq (g:=Tz s) (n:=i);have hg:s.Ends.getD i 0=s.Ends[i]:=by rw [GV,gE_ hi];rfl
  rw [Hg];dsimp only;rw [Ao,dt_ hi,ct_,Am,gE_ hi,ob_,Aq om_,Fi];have hp:Tz s i=if s.Ends[i]=1\/s.Ends[i]=3 then some ⟨0,(i:Int),false⟩ else none:=by unfold Tz;rw [hg]
  rw [hp];by_cases a1:s.Ends[i]=1\/s.Ends[i]=3
  ·rw [show ((s.Ends[i] == 1) || (s.Ends[i] == 3))=true by simpa using a1,if_pos a1,ct_,Lz om_];rfl
  ·rw [show ((s.Ends[i] == 1) || (s.Ends[i] == 3))=false by simpa using a1,if_neg a1,cf_,cf_,HM]) (λn v _=>by
  rw [Hg];dsimp only;rw [Ao,df_ om_,cf_]) FF 0 [] om_ uF rfl
 subst hv;try dsimp only at hl
 rw [n0] at hl;rw [hl,ob_];have hle1:=Bq (g:=Tz s) (n:=s.Ends.length);obtain ⟨v,hv,hl⟩:=forG (L:=Hf Eb s) (mk:=λi (v:List Ag)=>((i:Int),(v,0))) (N:=s.Timers.length) (I:=λi v=>v=(List.range s.Ends.length).filterMap (Tz s) ++ (List.range i).filterMap (AS s)) (E:=λv=>some (.brk ((s.Timers.length:Int),(v,0)))) (λn i v hi hI=>by
  subst hI;refine ⟨_,rfl,?_⟩;have hle:=Bq (g:=AS s) (n:=i);have hg:s.Timers.getD i 0=s.Timers[i]:=by rw [GV,gE_ hi];rfl
  rw [Hf];dsimp only;rw [Ao,dt_ hi,ct_,Am,gE_ hi,ob_,Aq om_,Fi];have hp:AS s i=if s.Timers[i]=1 then some ⟨1,(i:Int),false⟩ else none:=by unfold AS;rw [hg]
  rw [hp];by_cases a1:s.Timers[i]=1
  ·rw [show (s.Timers[i] == 1)=true by simpa using a1,if_pos a1,ct_,Lz (by rw [GB];omega),← G2];rfl
  ·rw [show (s.Timers[i] == 1)=false by simpa using a1,if_neg a1,cf_,cf_,HM]) (λn v _=>by
  rw [Hf];dsimp only;rw [Ao,df_ om_,cf_]) FF 0 ((List.range s.Ends.length).filterMap (Tz s)) om_ uF smp_
 subst hv;try dsimp only at hl
 rw [n0] at hl;dsimp only;rw [hl];rfl
theorem CU {c:Aa} {s:Ac} (hc:Rc c) (hf:Fit c s) (hq:Qt c s):m132 FF c s=some (0,Jx s):=by
 unfold m132 m158 m157;rw [Wi hc,(Yf hc.rt.bd).2 ⟨hf,hq⟩,ob_,zf_,cf_,ob_,CC (hf.sm hc.rt.bd)];rfl
def nb (l:List Int):List UInt8:=l.flatMap λn=>[UInt8.ofNat (48 + n.toNat),32]
def fb (l:List Bool):List UInt8:=l.map λv=>if v=true then 116 else 102
theorem DS (a b:ByteArray):(a ++ b).data.toList=a.data.toList ++ b.data.toList:=by
 rw [ByteArray.data_append,Array.toList_append]
theorem ba_push (a:ByteArray) (b:UInt8):(a.push b).data.toList=a.data.toList ++ [b]:=by
 rw [ByteArray.data_push,Array.toList_push]
theorem EV:((List.range 10).all λn=>decide (m127 0 (n:Int)=some (⟨#[UInt8.ofNat (48 + n)]⟩:ByteArray)))=true:=by kernel_rfl
theorem CV {n:Int} (h0:0<=n) (h:n < 10):m127 FF n=some (⟨#[UInt8.ofNat (48 + n.toNat)]⟩:ByteArray):=by
 have:=of_decide_eq_true (GQ.1 EV n.toNat (GZ.2 om_));rw [show ((n.toNat:Nat):Int)=n by omega] at this;exact this
theorem nb_len {l:List Int}:(nb l).length=2 * l.length:=by
 induction l with
 | nil=>rfl
 | cons a l ih=>unfold nb at ih ⊢;rw [KG,GB,ih];simp;omega
theorem Wn {l:List Int} (hl:l.length<=1000) (h:∀ a∈l,0<=a/\a < 10):∃ r,m125 FF l=some r/\r.data.toList=nb l:=by
 unfold m125;obtain ⟨v,hv,hh⟩:=Qe (L:=Ld FF l) (mk:=λi (v:ByteArray)=>((i:Int),v)) (N:=l.length) (I:=λi v=>v.data.toList=nb (l.take i)) (λn i v hi hI=>by
  have hb:=h l[i] (GF hi);have hsz:v.size=2 * i:=by rw [Bc,hI,nb_len,JN];omega
  have hxs:(⟨#[UInt8.ofNat (48 + (l[i]).toNat)]⟩:ByteArray).size=1:=rfl;rw [Ld];dsimp only;rw [Ao,dt_ hi,ct_,Am,gE_ hi,ob_,CV hb.1 hb.2,ob_];unfold m126 m128;rw [if_pos om_,ob_];have hs2:(v ++ (⟨#[UInt8.ofNat (48 + (l[i]).toNat)]⟩:ByteArray)).size=2 * i + 1:=by
   rw [Bc,DS,GB,← Bc,hsz];rfl
  rw [if_pos om_,ob_,Aq om_];refine ⟨_,?_,rfl⟩;rw [ba_push,DS,hI,JV,gE_ hi];unfold nb;rw [List.flatMap_append];simp) (λn v _=>by
  rw [Ld];dsimp only;rw [Ao,df_ om_,cf_]) FF 0 ByteArray.empty om_ uF rfl
 try dsimp only at hh
 rw [n0] at hh;rw [hh];rw [HE om_] at hv;exact ⟨v,rfl,hv⟩
theorem Oz {l:List Bool} (hl:l.length<=1000):∃ r,m130 FF l=some r/\r.data.toList=fb l:=by
 unfold m130;obtain ⟨v,hv,hh⟩:=Qe (L:=Lc FF l) (mk:=λi (v:ByteArray)=>((i:Int),v)) (N:=l.length) (I:=λi v=>v.data.toList=fb (l.take i)) (λn i v hi hI=>by
  have hsz:v.size=i:=by rw [Bc,hI];unfold fb;rw [HQ,JN];omega
  have key:∃ r:ByteArray,((m131 FF l[i]).bind λx5=>ssl x5 0 (1:Int))=some r/\r.data.toList=[if l[i]=true then 116 else 102]:=by
   cases l[i]
   ·exact ⟨⟨#[102]⟩,by kernel_rfl,rfl⟩
   ·exact ⟨⟨#[116]⟩,by kernel_rfl,rfl⟩
  obtain ⟨r,hr,hr2⟩:=key;obtain ⟨x5,h5,h6⟩:=HZ.1 hr;have hrs:r.size=1:=by rw [Bc,hr2];rfl
  rw [Lc];dsimp only;rw [Ao,dt_ hi,ct_,Am,gE_ hi,ob_,h5,ob_,h6,ob_];unfold m126;rw [if_pos om_,ob_,Aq om_];refine ⟨_,?_,rfl⟩;rw [DS,hI,hr2,JV,gE_ hi];unfold fb;rw [List.map_append];simp) (λn v _=>by
  rw [Lc];dsimp only;rw [Ao,df_ om_,cf_]) FF 0 ByteArray.empty om_ uF rfl
 try dsimp only at hh
 rw [n0] at hh;rw [hh];rw [HE om_] at hv;exact ⟨v,rfl,hv⟩
theorem BD:∀ {l l':List Int},(∀ a∈l,0<=a/\a < 10)->(∀ a∈l',0<=a/\a < 10)->nb l=nb l'->l=l'
 | [],[],_,_,_=>rfl
 | [],b :: l',_,_,h=>by unfold nb at h;simp at h
 | a :: l,[],_,_,h=>by unfold nb at h;simp at h
 | a :: l,b :: l',h1,h2,h=>by
  unfold nb at h;rw [KG,KG] at h;have h:=List.cons.inj h;have ha:=h1 a smp_;have hb:=h2 b smp_;have he:a=b:=by
   have:=congrArg UInt8.toNat h.1;rw [UInt8.toNat_ofNat',UInt8.toNat_ofNat'] at this;omega
  have ht:=(List.cons.inj h.2).2;rw [he,BD (λx hx=>h1 x (by simp [hx])) (λx hx=>h2 x (by simp [hx])) ht]
theorem Zm:∀ {l l':List Bool},fb l=fb l'->l=l'
 | [],[],_=>rfl
 | [],b :: l',h=>by unfold fb at h;simp at h
 | a :: l,[],h=>by unfold fb at h;simp at h
 | a :: l,b :: l',h=>by
  unfold fb at h;rw [GR,GR] at h;have h:=List.cons.inj h;have he:a=b:=by
   cases a <;> cases b <;> first | rfl | (have:=h.1; revert this; decide)
  rw [he,Zm h.2]
theorem Pw {a b:Key}:Bp a b=true↔a=b:=by
 obtain ⟨⟨⟨a1⟩⟩,⟨⟨a2⟩⟩,⟨⟨a3⟩⟩,⟨⟨a4⟩⟩,⟨⟨a5⟩⟩⟩:=a;obtain ⟨⟨⟨b1⟩⟩,⟨⟨b2⟩⟩,⟨⟨b3⟩⟩,⟨⟨b4⟩⟩,⟨⟨b5⟩⟩⟩:=b;simp [Bp]
theorem Mk {c:Aa} {s:Ac} (hb:Bd_ c) (h:Fit c s):∃ k,m98 FF s=some k/\k.ends.data.toList=nb s.Ends/\k.valves.data.toList=fb s.Valves/\k.inputs.data.toList=fb s.Inputs/\k.values.data.toList=fb s.Values/\k.timers.data.toList=nb s.Timers:=by
 have hs:=h.sm hb;obtain ⟨k1,e1,d1⟩:=Wn hs.e (λa ha=>by have:=h.ee a ha;omega);obtain ⟨k2,e2,d2⟩:=Oz hs.v;obtain ⟨k3,e3,d3⟩:=Oz hs.i;obtain ⟨k4,e4,d4⟩:=Oz hs.x;obtain ⟨k5,e5,d5⟩:=Wn hs.t (λa ha=>by have:=h.tt a ha;omega);unfold m98;rw [e1,e2,e3,e4,e5];exact ⟨_,rfl,d1,d2,d3,d4,d5⟩
theorem key_inj {c:Aa} {s t:Ac} (hb:Bd_ c) (hs:Fit c s) (ht:Fit c t) {k:Key} (h1:m98 FF s=some k) (h2:m98 FF t=some k):s=t:=by
 obtain ⟨a,ha,a1,a2,a3,a4,a5⟩:=Mk hb hs;obtain ⟨b,hb',b1,b2,b3,b4,b5⟩:=Mk hb ht;rw [h1] at ha;rw [h2] at hb';obtain rfl:=Option.some.inj ha;obtain rfl:=Option.some.inj hb';have e1:=BD (λa ha=>by have:=hs.ee a ha;omega) (λa ha=>by have:=ht.ee a ha;omega) (a1.symm.trans b1);have e5:=BD (λa ha=>by have:=hs.tt a ha;omega) (λa ha=>by have:=ht.tt a ha;omega) (a5.symm.trans b5);have e2:=Zm (a2.symm.trans b2);have e3:=Zm (a3.symm.trans b3);have e4:=Zm (a4.symm.trans b4);cases s;cases t
 simp_all
theorem EA {κ ν:Type} [DecidableEq κ] {eqb:κ->κ->Bool} (he:∀ a b,eqb a b=true↔a=b) {m:List (κ×ν)} {k j:κ} {y:ν}:mat eqb (Mj eqb m k y) j=if eqb j k=true then some y else mat eqb m j:=by
 induction m with
 | nil=>
  show mat eqb [(k,y)] j=_;rw [Bl]
 | cons p m ih=>
  obtain ⟨k',z⟩:=p;rw [My,Bl];by_cases h:eqb k k'=true
  ·rw [if_pos h,Bl,← (he _ _).1 h];by_cases h2:eqb j k=true
   ·rw [if_pos h2,if_pos h2]
   ·rw [if_neg h2,if_neg h2,if_neg h2]
  ·rw [if_neg h,Bl,ih];by_cases h2:eqb j k'=true
   ·have h3:¬ eqb j k=true:=λe=>h (by rw [← (he _ _).1 e];exact h2);rw [if_pos h2,if_neg h3,if_pos h2]
   ·rw [if_neg h2,if_neg h2]
theorem AE {m:List (Key×Int)} {k j:Key} {y:Int}:mat Bp (Mj Bp m k y) j=if Bp j k=true then some y else mat Bp m j:=by
 classical
 exact EA (λa b=>Pw)
def Kn (c:Aa) (S:List Ac) (m:List (Key×Int)):Prop:=∀ s,Fit c s->∀ k,m98 FF s=some k->mat Bp m k=(S.findIdx? λx=>sst s x).map λ(j:Nat)=>(j:Int)
theorem Kn.nil (c:Aa):Kn c [] []:=λs _ k _=>rfl
theorem Kn.put {c:Aa} {S:List Ac} {m:List (Key×Int)} {t:Ac} {k:Key} (hb:Bd_ c) (h:Kn c S m) (ht:Fit c t) (hk:m98 FF t=some k) (hn:S.findIdx? (λx=>sst t x)=none):Kn c (S ++ [t]) (Mj Bp m k (S.length:Int)):=by
 intro s hs j hj;rw [AE,List.findIdx?_append];by_cases e:s=t
 ·subst e;rw [hk] at hj;obtain rfl:=Option.some.inj hj;rw [if_pos (Pw.2 rfl),hn];simp [Xu]
 ·have hne:¬ Bp j k=true:=λe2=>by
   have:=Pw.1 e2;subst this;exact e (key_inj hb hs ht hj hk)
  have hst:sst s t=false:=by
   cases hx:sst s t with
   | false=>rfl
   | true=>exact absurd (Ge.1 hx) e
  rw [if_neg hne,h s hs j hj];cases S.findIdx? (λx=>sst s x) with
  | some q=>rfl
  | none=>simp [hst]
def Jw (c:Aa) (most:Nat) (s:Ac):List Ag->List Ac->List Int->Int ⊕ (List Ac×List Int)
 | [],S,mv=>.inr (S,mv)
 | x :: l,S,mv=>if (aft c s x).2=0 then (if plc S (aft c s x).1 < 0 then (if S.length=most then .inl 12 else Jw c most s l (S ++ [(aft c s x).1]) (mv ++ [(S.length:Int)])) else Jw c most s l S (mv ++ [plc S (aft c s x).1])) else .inl (aft c s x).2
def Rs (c:Aa) (most:Nat):Nat->Nat->List Ac->List (List Int)->Int ⊕ Space
 | 0,_,_,_=>.inl 99
 | n + 1,i,S,M=>match S[i]? with
  | none=>.inr ⟨S,M⟩
  | some s=>match Jw c most s (Jx s) S [] with
   | .inl e=>.inl e
   | .inr r=>Rs c most n (i + 1) r.1 (M ++ [r.2])
def Al (c:Aa) (S:List Ac):Prop:=∀ s∈S,Fit c s/\Qt c s
theorem DT {c:Aa} {s:Ac} {x:Ag} (hf:Fit c s) (h:(aft c s x).2=0):Fit c (aft c s x).1/\Qt c (aft c s x).1:=by
 unfold aft at h ⊢;by_cases hk:x.Kind < 0\/3<=x.Kind
 ·rw [if_pos hk] at h;cases h
 ·rw [if_neg hk] at h ⊢;cases ha:act s x with
  | none=>rw [ha] at h;cases h
  | some s'=>
   rw [ha] at h;dsimp only at h ⊢;cases ht:rst c 65 s' with
   | none=>rw [ht] at h;cases h
   | some t=>
    have:=Ya (Tx hf ha) ht;exact ⟨this.1,this.2.2⟩
theorem Jz {c:Aa} {most:Nat} {s:Ac} (hf:Fit c s):∀ (l:List Ag) (S:List Ac) (mv:List Int) {r:List Ac×List Int},Al c S->S.length<=most->Jw c most s l S mv=.inr r ->
  Al c r.1/\r.1.length<=most/\r.2.length=mv.length + l.length/\∃ X,r.1=S ++ X
 | [],S,mv,r,h1,h2,h=>by
  unfold Jw at h;obtain rfl:=Sum.inr.inj h;exact ⟨h1,h2,rfl,[],by simp⟩
 | x :: l,S,mv,r,h1,h2,h=>by
  unfold Jw at h;split at h
  ·rename_i h0;split at h
   ·split at h
    ·cases h
    ·obtain ⟨a1,a2,a3,X,a4⟩:=Jz hf l _ _ (λt ht=>by
      rcases GN.1 ht with ht | ht
      ·exact h1 t ht
      ·obtain rfl:t=_:=by simpa using ht
       exact DT hf h0) so_ h
     refine ⟨a1,a2,by rw [a3];simp;omega,(aft c s x).1 :: X,by rw [a4];simp⟩
   ·obtain ⟨a1,a2,a3,X,a4⟩:=Jz hf l _ _ h1 h2 h;exact ⟨a1,a2,by rw [a3];simp;omega,X,a4⟩
  ·cases h
theorem Uj {S:List Ac} {t:Ac} (h:¬ plc S t < 0):∃ j,j < S.length/\plc S t=(j:Int)/\S.findIdx? (λx=>sst t x)=some j:=by
 unfold plc at h ⊢;cases hf:S.findIdx? (λx=>sst t x) with
 | none=>rw [hf] at h;simp at h
 | some j=>exact ⟨j,(G7.1 hf).1,rfl,rfl⟩
theorem A9 {S:List Ac} {t:Ac} (h:plc S t < 0):S.findIdx? (λx=>sst t x)=none:=by
 unfold plc at h;cases hf:S.findIdx? (λx=>sst t x) with
 | none=>rfl
 | some j=>rw [hf] at h;simp at h;omega
abbrev zsp:Space:=⟨[],[]⟩
theorem Gr {c:Aa} (hc:Rt c) {most:Nat} (hmo:most<=16384) {s:Ac} (hf:Fit c s) (i0:Nat) (z6:Int×List Ac×List (List Int)) (hz:z6.1=i0) (x9:Ac) (l:List Ag) (hl:l.length<=2000) :
  ∀ (k n j:Nat) (S:List Ac) (mv:List Int),j + k=l.length->k < n->Al c S->S.length<=most->S[i0]?=some s->mv.length<=j ->
   match Jw c most s (l.drop j) S mv with
   | .inl e=>Lu FF c (most:Int) z6 x9 l n ((j:Int),S,mv)=some (.ret (zsp,e))
   | .inr r=>Lu FF c (most:Int) z6 x9 l n ((j:Int),S,mv)=some (.brk ((l.length:Int),r.1,r.2))
 | _,0,_,_,_,_,h,_,_,_,_=>by omega
 | 0,n + 1,j,S,mv,h1,_,_,_,_,_=>by
  obtain rfl:j=l.length:=by omega
  rw [G6];unfold Jw Lu;dsimp only;rw [Ao,df_ om_,cf_]
 | k + 1,n + 1,j,S,mv,h1,h2,hA,hS,hi,hm=>by
  have hb:=hc.bd;have hj:j < l.length:=by omega
  rw [GE hj];unfold Jw Lu;dsimp only;obtain ⟨q,e1⟩:=Yj (x:=l[j]) hc hf;rw [Ao,dt_ hj,ct_,hz,Am,hi,ob_,Am,gE_ hj,ob_,e1,ob_];dsimp only;by_cases h0:(aft c s l[j]).2=0
  ·have hfa:=DT hf h0;rw [if_pos h0,h0,zf_,cf_,EF (n:=1000) (λx hx=>(hA x hx).1.sm hb) uF om_ uF om_,ob_,Aq om_];by_cases hp:plc S (aft c s l[j]).1 < 0
   ·rw [if_pos hp,dt_ hp,ct_];by_cases hM:S.length=most
    ·rw [if_pos hM,show ((S.length:Int) == (most:Int))=true by rw [Jt];simpa using hM,ct_]
    ·rw [if_neg hM,show ((S.length:Int) == (most:Int))=false by rw [Jt];simpa using hM,cf_,Az so_,ob_,Az so_,ob_];exact Gr hc hmo hf i0 z6 hz x9 l hl k n (j + 1) _ _ om_ om_ (λt ht=>by
      rcases GN.1 ht with ht | ht
      ·exact hA t ht
      ·obtain rfl:t=_:=by simpa using ht
       exact hfa) so_ (by rw [GO (GG.1 hi).1];exact hi) so_
   ·rw [if_neg hp,df_ hp,cf_,Az so_,ob_];exact Gr hc hmo hf i0 z6 hz x9 l hl k n (j + 1) _ _ om_ om_ hA hS hi so_
  ·rw [if_neg h0,show ((aft c s l[j]).2 != 0)=true by simpa using h0,ct_]
theorem Du {c:Aa} (hc:Rt c) {most:Nat} (hmo:most<=16384):∀ (n i:Nat) (S:List Ac) (M:List (List Int)),Al c S->S.length<=most->i<=S.length->most < n + i->M.length=i ->
  match Rs c most n i S M with
  | .inl e=>Ra FF c (most:Int) n ((i:Int),S,M)=some (.ret (zsp,e))
  | .inr sp=>∃ z,Ra FF c (most:Int) n ((i:Int),S,M)=some (.brk (z,sp.States,sp.Moves))
 | 0,i,S,M,_,h1,h2,h3,_=>by omega
 | n + 1,i,S,M,hA,h1,h2,h3,hM=>by
  have hb:=hc.bd;unfold Rs Ra;dsimp only;by_cases hi:i < S.length
  ·have hs:S[i]?=some S[i]:=gE_ hi;obtain ⟨hf,hq⟩:=hA S[i] (GF hi);have hpl:=Mi (hf.sm hb);rw [hs,Ao,dt_ hi,ct_,Am,hs,ob_,Yk (hf.sm hb),ob_];have h:=Gr hc hmo hf i ((i:Int),S,M) rfl S[i] (Jx S[i]) hpl (Jx S[i]).length FF 0 S [] om_ uF hA h1 hs smp_;rw [n0,GL] at h;dsimp only;cases hx:Jw c most S[i] (Jx S[i]) S [] with
   | inl e=>rw [hx] at h;rw [h];rfl
   | inr r=>
    rw [hx] at h;obtain ⟨a1,a2,a3,X,a4⟩:=Jz hf _ _ _ hA h1 hx;rw [h,ob_];dsimp only;rw [Az so_,ob_,Aq om_];exact Du hc hmo n (i + 1) r.1 _ a1 a2 (by rw [a4];simp;omega) om_ (by simp [hM])
  ·rw [HA om_,Ao,df_ hi,cf_];exact ⟨_,rfl⟩
theorem Xk {c:Aa} (hb:Bd_ c) {t:Ac} (ht:Fit c t) {S:List Ac} {m:List (Key×Int)} {mv:List Int} (hS:S.length<=16384) (hmv:mv.length<=10000) (hK:Kn c S m) (v3:List (List Int)) :
  if plc S t < 0 then (if S.length=16384 then Ph FF t m S v3 mv=some (12,m,S,mv) else ∃ m',Ph FF t m S v3 mv=some (0,m',S ++ [t],mv ++ [(S.length:Int)])/\Kn c (S ++ [t]) m') else Ph FF t m S v3 mv=some (0,m,S,mv ++ [plc S t]):=by
 obtain ⟨k,hk,_⟩:=Mk hb ht;have hm:=hK t ht k hk;unfold Ph;rw [hk,ob_,hm];by_cases hp:plc S t < 0
 ·have hn:=A9 hp;rw [if_pos hp,hn];simp only [JG,Option.isSome_none,H0,ct_];by_cases hM:S.length=16384
  ·rw [if_pos hM,show ((S.length:Int) == 16384)=true by simp;omega,ct_]
  ·rw [if_neg hM,show ((S.length:Int) == 16384)=false by simp;omega,cf_,Az so_,ob_,Az so_,ob_];exact ⟨_,rfl,hK.put hb ht hk hn⟩
 ·obtain ⟨j,hj,hpj,hfj⟩:=Uj hp;rw [if_neg hp,hfj];simp only [GY,Option.isSome_some,HS,cf_,KH];rw [Az so_,ob_,hpj]
theorem Dp {c:Aa} (hc:Rc c) {s:Ac} (hf:Fit c s) (hq:Qt c s) (v4:List (List Int)) (x1:Int×List Ag) (hl:x1.2.length<=2000) :
  ∀ (k n j:Nat) (S:List Ac) (mv:List Int) (m:List (Key×Int)),j + k=x1.2.length->k < n->Al c S->S.length<=16384->mv.length<=j->Kn c S m ->
   match Jw c 16384 s (x1.2.drop j) S mv with
   | .inl e=>∃ q,Dq FF c s v4 x1 n ((j:Int),m,S,mv)=some (.ret (e,q))/\e≠0
   | .inr r=>∃ z m',Dq FF c s v4 x1 n ((j:Int),m,S,mv)=some (.brk (z,m',r.1,r.2))/\Kn c r.1 m'
 | _,0,_,_,_,_,_,h,_,_,_,_=>by omega
 | 0,n + 1,j,S,mv,m,h1,_,_,_,_,hK=>by
  obtain rfl:j=x1.2.length:=by omega
  rw [G6];unfold Jw Dq;dsimp only;rw [Ao,df_ om_,cf_];exact ⟨_,m,rfl,hK⟩
 | k + 1,n + 1,j,S,mv,m,h1,h2,hA,hS,hm,hK=>by
  have hb:=hc.rt.bd;have hj:j < x1.2.length:=by omega
  rw [GE hj];unfold Jw Dq;dsimp only;obtain ⟨q,e1⟩:=Wo (x:=x1.2[j]) hc hf hq;rw [Ao,dt_ hj,ct_,Am,gE_ hj,ob_,e1,ob_];dsimp only;by_cases h0:(aft c s x1.2[j]).2=0
  ·have hfa:=DT hf h0;rw [if_pos h0,h0,zf_,cf_];have h90:=Xk hb hfa.1 hS (mv:=mv) om_ hK v4;by_cases hp:plc S (aft c s x1.2[j]).1 < 0
   ·rw [if_pos hp] at h90 ⊢;by_cases hM:S.length=16384
    ·rw [if_pos hM] at h90 ⊢;rw [h90];exact ⟨_,rfl,by omega⟩
    ·rw [if_neg hM] at h90 ⊢;obtain ⟨m',h90,hK'⟩:=h90;rw [h90,ob_];dsimp only;rw [zf_,cf_,Aq om_];exact Dp hc hf hq v4 x1 hl k n (j + 1) _ _ m' om_ om_ (λt ht=>by
      rcases GN.1 ht with ht | ht
      ·exact hA t ht
      ·obtain rfl:t=_:=by simpa using ht
       exact hfa) so_ so_ hK'
   ·rw [if_neg hp] at h90 ⊢;rw [h90,ob_];dsimp only;rw [zf_,cf_,Aq om_];exact Dp hc hf hq v4 x1 hl k n (j + 1) _ _ m om_ om_ hA hS so_ hK
  ·rw [if_neg h0,show ((aft c s x1.2[j]).2 != 0)=true by simpa using h0,ct_];exact ⟨_,rfl,h0⟩
theorem Nf {c:Aa} (hc:Rc c):∀ (n i:Nat) (S:List Ac) (M:List (List Int)) (m:List (Key×Int)),Al c S->S.length<=16384->i<=S.length->16384 < n + i->M.length=i->Kn c S m ->
  match Rs c 16384 n i S M with
  | .inl e=>Qo FF c n ((i:Int),S,M,m)=some (.ret (zsp,e))
  | .inr sp=>∃ z m',Qo FF c n ((i:Int),S,M,m)=some (.brk (z,sp.States,sp.Moves,m'))
 | 0,i,S,M,m,_,h1,h2,h3,_,_=>by omega
 | n + 1,i,S,M,m,hA,h1,h2,h3,hM,hK=>by
  have hb:=hc.rt.bd;unfold Rs Qo;dsimp only;by_cases hi:i < S.length
  ·have hs:S[i]?=some S[i]:=gE_ hi;obtain ⟨hf,hq⟩:=hA S[i] (GF hi);have hpl:=Mi (hf.sm hb);have h:=Dp hc hf hq M (0,Jx S[i]) hpl (Jx S[i]).length FF 0 S [] m (by dsimp only;omega) uF hA h1 smp_ hK;rw [n0,GL] at h;rw [hs,Ao,dt_ hi,ct_,Am,hs,ob_];unfold EC;rw [CU hc hf hq,ob_];dsimp only at h ⊢;rw [zf_,cf_];cases hx:Jw c 16384 S[i] (Jx S[i]) S [] with
   | inl e=>
    rw [hx] at h;obtain ⟨q,h,he⟩:=h;rw [h,ob_,ob_];dsimp only;rw [show (e != 0)=true by simpa using he,ct_]
   | inr r=>
    rw [hx] at h;obtain ⟨a1,a2,a3,X,a4⟩:=Jz hf _ _ _ hA h1 hx;obtain ⟨z,m',h,hK'⟩:=h;rw [h,ob_,ob_];dsimp only;rw [zf_,cf_,Az so_,ob_,Aq om_];exact Nf hc n (i + 1) r.1 _ m' a1 a2 (by rw [a4];simp;omega) om_ (by simp [hM]) hK'
  ·rw [HA om_,Ao,df_ hi,cf_];exact ⟨_,_,rfl⟩
theorem Mu {c:Aa} {s:Ac} (hf:Fit c s):∀ (l:List Ag) (S:List Ac) (mv:List Int),S.length<=120->Jw c 120 s l S mv≠.inl 12->Jw c 16384 s l S mv=Jw c 120 s l S mv
 | [],S,mv,_,_=>rfl
 | x :: l,S,mv,h1,h=>by
  unfold Jw at h ⊢;by_cases h0:(aft c s x).2=0
  ·rw [if_pos h0] at h;rw [if_pos h0,if_pos h0];by_cases hp:plc S (aft c s x).1 < 0
   ·rw [if_pos hp] at h;rw [if_pos hp,if_pos hp];by_cases hM:S.length=120
    ·rw [if_pos hM] at h;exact absurd rfl h
    ·rw [if_neg hM] at h;rw [if_neg hM,if_neg om_];exact Mu hf l _ _ so_ h
   ·rw [if_neg hp] at h;rw [if_neg hp,if_neg hp];exact Mu hf l _ _ h1 h
  ·rw [if_neg h0,if_neg h0]
theorem Ua {c:Aa}:∀ (n i:Nat) (S:List Ac) (M:List (List Int)),Al c S->S.length<=120->Rs c 120 n i S M≠.inl 12->Rs c 16384 n i S M=Rs c 120 n i S M
 | 0,_,_,_,_,_,_=>rfl
 | n + 1,i,S,M,hA,h1,h=>by
  unfold Rs at h ⊢;cases hs:S[i]? with
  | none=>rfl
  | some s=>
   rw [hs] at h;try dsimp only at h ⊢
   have hf:=(hA s (GP hs)).1;have hne:Jw c 120 s (Jx s) S []≠.inl 12:=λe=>by rw [e] at h;exact h rfl
   rw [Mu hf _ _ _ h1 hne];cases hx:Jw c 120 s (Jx s) S [] with
   | inl e=>rfl
   | inr r=>
    rw [hx] at h;obtain ⟨a1,a2,a3,X,a4⟩:=Jz hf _ _ _ hA h1 hx;exact Ua n (i + 1) r.1 _ a1 a2 h
theorem AU {c:Aa} {most:Nat}:∀ (n i:Nat) (S:List Ac) (M:List (List Int)) {sp:Space},Al c S->S.length<=most->M.length=i->i<=S.length->(∀ l∈M,l.length<=2000)->Bd_ c->Rs c most n i S M=.inr sp ->
  Al c sp.States/\sp.States.length<=most/\sp.Moves.length=sp.States.length/\(∀ l∈sp.Moves,l.length<=2000)/\∃ X,sp.States=S ++ X
 | 0,_,_,_,_,_,_,_,_,_,_,h=>by cases h
 | n + 1,i,S,M,sp,hA,h1,hM,hi,hR,hb,h=>by
  unfold Rs at h;cases hs:S[i]? with
  | none=>
   rw [hs] at h;obtain rfl:=Sum.inr.inj h;have:=List.getElem?_eq_none_iff.1 hs;exact ⟨hA,h1,by show M.length=S.length;omega,hR,[],by simp⟩
  | some s=>
   rw [hs] at h;dsimp only at h;have hf:=(hA s (GP hs)).1;cases hx:Jw c most s (Jx s) S [] with
   | inl e=>rw [hx] at h;cases h
   | inr r=>
    rw [hx] at h;obtain ⟨a1,a2,a3,X,a4⟩:=Jz hf _ _ _ hA h1 hx;have hil:=(GG.1 hs).1;obtain ⟨b1,b2,b3,b4,Y,b5⟩:=AU n (i + 1) r.1 _ a1 a2 (by simp [hM]) (by rw [a4];simp;omega) (λl hl=>by
     rcases GN.1 hl with hl | hl
     ·exact hR l hl
     ·obtain rfl:l=_:=by simpa using hl
      rw [a3];have:=Mi (hf.sm hb);simp;omega) hb h
    exact ⟨b1,b2,b3,b4,X ++ Y,by rw [b5,a4];simp⟩
def E6 (c:Aa) (held:List Bool) (most:Nat):Int ⊕ Space:=Rs c most FF 0 [(Fx c held).1] []
theorem Sw (c:Aa) (held:List Bool):∃ b,m50 FF c held=some b/\(b=true->Fw c/\(c.Signals.length<=16\/64 < c.Signals.length)/\held.length<=200/\(Rc c->held.length=c.Inputs.length->(Fx c held).2=0->E6 c held 120≠.inl 12)):=by
 unfold m50;obtain ⟨b,hb,hfw⟩:=EG c;rw [hb,ob_];cases b with
 | false=>rw [nf_,KS,ct_];exact ⟨false,rfl,by simp⟩
 | true=>
  obtain ⟨hw,hs⟩:=hfw rfl;rw [nt_,JD];by_cases hl:((held.length:Int) > 200)
  ·rw [dt_ hl,ct_];exact ⟨false,rfl,by simp⟩
  ·rw [df_ hl,cf_];unfold m51;rcases Tv hw hs held with ⟨e,he,h1,h2,h4⟩ | ⟨hc,hll,h1,h2,h3⟩
   ·rw [h2,ob_];dsimp only;rw [show (e != 0)=true by simpa using he,ct_,ob_];refine ⟨_,rfl,λ_=>⟨hw,hs,by omega,λhc hll h0=>?_⟩⟩;exact λ_=>h4 hc hll
   ·rw [h2,ob_];try dsimp only
    by_cases h0:(Fx c held).2=0
    ·obtain ⟨hf,hq⟩:=h3 h0;have hA:Al c [(Fx c held).1]:=λt ht=>by
      obtain rfl:t=_:=by simpa using ht
      exact ⟨hf,hq⟩
     have hx:=Du hc.rt (most:=120) om_ FF 0 [(Fx c held).1] [] hA smp_ om_ uF rfl;rw [n0] at hx;rw [h0,zf_,cf_];rw [show Rs c 120 FF 0 [(Fx c held).1] []=E6 c held 120 from rfl] at hx;cases he:E6 c held 120 with
     | inl e=>
      rw [he] at hx;rw [show (120:Int)=((120:Nat):Int) from rfl,hx];refine ⟨_,rfl,λhb=>⟨hw,hs,by omega,λ_ _ _ h12=>?_⟩⟩;obtain rfl:=Sum.inl.inj h12;simp at hb
     | inr sp=>
      rw [he] at hx;obtain ⟨z,hx⟩:=hx;rw [show (120:Int)=((120:Nat):Int) from rfl,hx];exact ⟨_,rfl,λhb=>⟨hw,hs,by omega,λ_ _ _ h12=>by cases h12⟩⟩
    ·rw [show ((Fx c held).2 != 0)=true by simpa using h0,ct_];exact ⟨_,rfl,λ_=>⟨hw,hs,by omega,λ_ _ h=>absurd h h0⟩⟩
theorem E5 {c:Aa} {held:List Bool} (hb:m50 FF c held=some true):(∃ e,e≠0/\m75 FF c held=some (zsp,e)/\m52 FF c held=some (zsp,e)) \/
  (∃ sp,Rc c/\held.length=c.Inputs.length/\m75 FF c held=some (sp,0)/\m52 FF c held=some (sp,0)/\E6 c held 120=.inr sp/\(Fx c held).2=0/\Fit c (Fx c held).1/\Qt c (Fx c held).1)\/(Rc c/\held.length=c.Inputs.length/\(Fx c held).2=0/\∃ e,E6 c held 120=.inl e/\m75 FF c held=some (zsp,e)/\m52 FF c held=some (zsp,e)):=by
 obtain ⟨b,hb',h⟩:=Sw c held;rw [hb] at hb';obtain rfl:=Option.some.inj hb';obtain ⟨hw,hs,hl,hne⟩:=h rfl;unfold m75 m52 m51;rcases Tv hw hs held with ⟨e,he,h1,h2,h4⟩ | ⟨hc,hll,h1,h2,h3⟩
 ·left;rw [h1,h2,ob_,ob_];dsimp only;rw [show (e != 0)=true by simpa using he,ct_,ct_];exact ⟨e,he,rfl,rfl⟩
 ·rw [h1,h2,ob_,ob_];try dsimp only
  by_cases h0:(Fx c held).2=0
  ·right;obtain ⟨hf,hq⟩:=h3 h0;have hbd:=hc.rt.bd;have hA:Al c [(Fx c held).1]:=λt ht=>by
    obtain rfl:t=_:=by simpa using ht
    exact ⟨hf,hq⟩
   have hx:=Du hc.rt (most:=16384) om_ FF 0 [(Fx c held).1] [] hA smp_ om_ uF rfl;obtain ⟨k,hk,_⟩:=Mk hbd hf;have hK:Kn c [(Fx c held).1] (Mj Bp [] k (0:Int)):=(Kn.nil c).put hbd hf hk rfl;have hy:=Nf hc FF 0 [(Fx c held).1] [] (Mj Bp [] k (0:Int)) hA smp_ om_ uF rfl hK;rw [n0] at hx hy;have hm:=Ua FF 0 [(Fx c held).1] [] hA smp_ (hne hc hll h0);rw [hm,show Rs c 120 FF 0 [(Fx c held).1] []=E6 c held 120 from rfl] at hx hy;rw [h0,zf_,cf_,cf_,hk,ob_,show (16384:Int)=((16384:Nat):Int) from rfl];cases he:E6 c held 120 with
   | inl e=>
    right;rw [he] at hx hy;dsimp only at hx hy;rw [hx,hy];exact ⟨hc,hll,rfl,e,rfl,rfl,rfl⟩
   | inr sp=>
    left;rw [he] at hx hy;obtain ⟨z,hx⟩:=hx;obtain ⟨z',m',hy⟩:=hy;rw [hx,hy];exact ⟨sp,hc,hll,rfl,rfl,rfl,rfl,hf,hq⟩
  ·left;rw [show ((Fx c held).2 != 0)=true by simpa using h0,ct_,ct_];exact ⟨_,h0,rfl,rfl⟩
theorem Hz {f:Nat} {xs ys:List Int} (hl:xs.length < 4611686018427387904) (hf:xs.length < f):m40 f xs ys=some (xs == ys):=by
 unfold m40;exact DH (L:=Yt xs ys) (λ_ _=>rfl) hl hf
end Go.Pn
namespace Go.Pn
open Go
structure Xr (c:Aa) (s:Ac) (l:List Ag) (S:List Ac) (R:List Ac) (Y:List Int):Prop where
 app:∃ X,R=S ++ X
 len:Y.length=l.length
 ev:∀ (j:Nat) x,l[j]?=some x->(aft c s x).2=0/\∃ k:Nat,Y[j]?=some (k:Int)/\R[k]?=some (aft c s x).1
 new:∀ k,S.length<=k->k < R.length->(k:Int)∈Y
def Nd (S:List Ac):Prop:=∀ (i j:Nat) s,S[i]?=some s->S[j]?=some s->i=j
theorem Nd.put {S:List Ac} {t:Ac} (h:Nd S) (hn:S.findIdx? (λx=>sst t x)=none):Nd (S ++ [t]):=by
 rw [HH] at hn;have hno:∀ (i:Nat),S[i]?≠some t:=λi hi=>by
  have:=hn t (GP hi);rw [Xu] at this;cases this
 have hg:∀ (i:Nat) s,(S ++ [t])[i]?=some s->S[i]?=some s\/(i=S.length/\s=t):=λi s hs=>by
  rcases H4 i S.length with h1 | h1
  ·rw [GO h1] at hs;exact .inl hs
  ·rw [G4 h1] at hs;rcases KA h1 with h2 | h2
   ·subst h2;simp at hs;exact .inr ⟨rfl,hs.symm⟩
   ·rw [HA so_] at hs;cases hs
 intro i j s hi hj;rcases hg i s hi with h1 | ⟨h1,h2⟩ <;> rcases hg j s hj with h3 | ⟨h3,h4⟩
 ·exact h i j s h1 h3
 ·subst h4;exact absurd h1 (hno i)
 ·subst h2;exact absurd h3 (hno j)
 ·omega
theorem Xc {c:Aa} {most:Nat} {s:Ac}:∀ (l:List Ag) (S:List Ac) (mv:List Int) {r:List Ac×List Int},Nd S->Jw c most s l S mv=.inr r->∃ Y,r.2=mv ++ Y/\Xr c s l S r.1 Y/\Nd r.1
 | [],S,mv,r,hN,h=>by
  unfold Jw at h;obtain rfl:=Sum.inr.inj h;exact ⟨[],by simp,⟨⟨[],by simp⟩,rfl,λj x hx=>by simp at hx,λk h1 h2=>by dsimp only at h2;omega⟩,hN⟩
 | x :: l,S,mv,r,hN,h=>by
  unfold Jw at h;by_cases h0:(aft c s x).2=0
  ·rw [if_pos h0] at h;by_cases hp:plc S (aft c s x).1 < 0
   ·rw [if_pos hp] at h;by_cases hM:S.length=most
    ·rw [if_pos hM] at h;cases h
    ·rw [if_neg hM] at h;obtain ⟨Y,e1,⟨⟨X,e2⟩,e3,e4,e5⟩,e6⟩:=Xc l _ _ (hN.put (A9 hp)) h;refine ⟨(S.length:Int) :: Y,by rw [e1];simp,⟨⟨(aft c s x).1 :: X,by rw [e2];simp⟩,by simp [e3],λj y hy=>?_,λk h1 h2=>?_⟩,e6⟩
     ·cases j with
      | zero=>
       obtain rfl:x=y:=by simpa using hy
       exact ⟨h0,S.length,rfl,by rw [e2];simp⟩
      | succ j=>
       obtain ⟨a,k,b,d⟩:=e4 j y (by simpa using hy);exact ⟨a,k,by simpa using b,d⟩
     ·by_cases hk:k=S.length
      ·subst hk;simp
      ·exact GS _ (e5 k so_ h2)
   ·rw [if_neg hp] at h;obtain ⟨q,hq,hq2,hq3⟩:=Uj hp;obtain ⟨Y,e1,⟨⟨X,e2⟩,e3,e4,e5⟩,e6⟩:=Xc l _ _ hN h;refine ⟨(q:Int) :: Y,by rw [e1,hq2];simp,⟨⟨X,e2⟩,by simp [e3],λj y hy=>?_,λk h1 h2=>GS _ (e5 k h1 h2)⟩,e6⟩;cases j with
    | zero=>
     obtain rfl:x=y:=by simpa using hy
     refine ⟨h0,q,rfl,?_⟩;obtain ⟨g1,g2,_⟩:=G7.1 hq3;rw [e2,GO g1,gE_ g1,← Ge.1 g2]
    | succ j=>
     obtain ⟨a,k,b,d⟩:=e4 j y (by simpa using hy);exact ⟨a,k,by simpa using b,d⟩
  ·rw [if_neg h0] at h;cases h
structure Rwm (c:Aa) (S:List Ac) (s:Ac) (mv:List Int):Prop where
 len:mv.length=(Jx s).length
 ev:∀ (j:Nat) x,(Jx s)[j]?=some x->(aft c s x).2=0/\∃ k:Nat,mv[j]?=some (k:Int)/\S[k]?=some (aft c s x).1
theorem Rwm.app {c:Aa} {S X:List Ac} {s:Ac} {mv:List Int} (h:Rwm c S s mv):Rwm c (S ++ X) s mv:=
 ⟨h.len,λj x hx=>by
  obtain ⟨a,k,b,d⟩:=h.ev j x hx;exact ⟨a,k,b,by rw [GO (GG.1 d).1];exact d⟩⟩
structure Fnd (c:Aa) (s0:Ac) (i:Nat) (S:List Ac) (M:List (List Int)):Prop where
 ml:M.length=i
 il:i<=S.length
 hd:S[0]?=some s0
 nd:Nd S
 row:∀ (j:Nat) s mv,j < i->S[j]?=some s->M[j]?=some mv->Rwm c S s mv
 par:∀ k,0 < k->k < S.length->∃ p mv,p < k/\M[p]?=some mv/\(k:Int)∈mv
theorem AV {c:Aa} {s0:Ac} {most:Nat}:∀ (n i:Nat) (S:List Ac) (M:List (List Int)) {sp:Space},Fnd c s0 i S M->Rs c most n i S M=.inr sp->Fnd c s0 sp.States.length sp.States sp.Moves
 | 0,_,_,_,_,_,h=>by cases h
 | n + 1,i,S,M,sp,hF,h=>by
  unfold Rs at h;cases hs:S[i]? with
  | none=>
   rw [hs] at h;obtain rfl:=Sum.inr.inj h;have h1:=List.getElem?_eq_none_iff.1 hs;have h2:=hF.il;have:i=S.length:=by omega
   subst this;exact hF
  | some s=>
   rw [hs] at h;try dsimp only at h
   cases hx:Jw c most s (Jx s) S [] with
   | inl e=>rw [hx] at h;cases h
   | inr r=>
    rw [hx] at h;obtain ⟨Y,e1,⟨⟨X,e2⟩,e3,e4,e5⟩,e6⟩:=Xc _ _ _ hF.nd hx;have hil:=(GG.1 hs).1;have e1:r.2=Y:=by simpa using e1
    refine AV n (i + 1) r.1 _ ⟨by simp [hF.ml],by rw [e2];simp;omega,?_,e6,?_,?_⟩ h
    ·rw [e2,GO om_];exact hF.hd
    ·intro j t mv hj ht hm;by_cases hji:j=i
     ·subst hji;rw [G4 (by rw [hF.ml];omega),hF.ml,K4] at hm;have hm:r.2=mv:=by simpa using hm
      rw [e2,GO hil,hs] at ht;obtain rfl:=Option.some.inj ht;rw [← hm,e1];exact ⟨e3,e4⟩
     ·have hj2:j < i:=by omega
      rw [GO (by rw [hF.ml];exact hj2)] at hm;rw [e2,GO om_] at ht;rw [e2];exact (hF.row j t mv hj2 ht hm).app
    ·intro k h1 h2;by_cases hk:k < S.length
     ·obtain ⟨p,mv,a,b,d⟩:=hF.par k h1 hk;exact ⟨p,mv,a,by rw [GO (GG.1 b).1];exact b,d⟩
     ·refine ⟨i,r.2,by omega,?_,by rw [e1];exact e5 k om_ h2⟩;rw [G4 (by rw [hF.ml];omega),hF.ml,K4];rfl
structure Sp_ (c:Aa) (s0:Ac) (sp:Space):Prop where
 al:Al c sp.States
 le:sp.States.length<=120
 fd:Fnd c s0 sp.States.length sp.States sp.Moves
theorem expF_sp {c:Aa} {held:List Bool} {sp:Space} (hb:Bd_ c) (hf:Fit c (Fx c held).1) (hq:Qt c (Fx c held).1) (h:E6 c held 120=.inr sp):Sp_ c (Fx c held).1 sp:=by
 have hA:Al c [(Fx c held).1]:=λt ht=>by
  obtain rfl:t=_:=by simpa using ht
  exact ⟨hf,hq⟩
 obtain ⟨a1,a2,_⟩:=AU FF 0 _ [] hA smp_ rfl smp_ smp_ hb h;refine ⟨a1,a2,AV FF 0 _ [] ⟨rfl,by simp,rfl,?_,λj s mv hj=>by omega,λk h1 h2=>by simp at h2;omega⟩ h⟩;intro i j s hi hj;have h1:=(GG.1 hi).1;have h2:=(GG.1 hj).1;simp at h1 h2;omega
theorem D5 {c:Aa} {s:Ac} (hb:Bd_ c) (h:Fit c s):(Jx s).length<=22:=by
 have h1:=hb.a';have h3:=hb.s;have a:=Bq (g:=Tz s) (n:=s.Ends.length);have b:=Bq (g:=AS s) (n:=s.Timers.length);have he:=h.e;have ht:=h.t;unfold Jx;rw [GB];omega
theorem Sp_.get {c:Aa} {s0:Ac} {sp:Space} (h:Sp_ c s0 sp) {i:Nat} (hi:i < sp.States.length):∃ s mv,sp.States[i]?=some s/\sp.Moves[i]?=some mv/\Rwm c sp.States s mv/\Fit c s/\Qt c s:=by
 have hm:i < sp.Moves.length:=by rw [h.fd.ml];exact hi
 have h1:sp.States[i]?=some sp.States[i]:=gE_ hi;have h2:sp.Moves[i]?=some sp.Moves[i]:=gE_ hm;obtain ⟨hf,hq⟩:=h.al _ (GF hi);exact ⟨_,_,h1,h2,h.fd.row i _ _ hi h1 h2,hf,hq⟩
theorem Rwm.mem {c:Aa} {S:List Ac} {s:Ac} {mv:List Int} (h:Rwm c S s mv) {k:Int} (hk:k∈mv):0<=k/\k < S.length:=by
 obtain ⟨j,hj⟩:=JX hk;have hl:=(GG.1 hj).1;rw [h.len] at hl;obtain ⟨_,q,h1,h2⟩:=h.ev j _ (gE_ hl);rw [hj] at h1;obtain rfl:=Option.some.inj h1;have:=(GG.1 h2).1;omega
theorem Sp_.pos {c:Aa} {s0:Ac} {sp:Space} (h:Sp_ c s0 sp):0 < sp.States.length:=(GG.1 h.fd.hd).1
theorem Sp_.rows {c:Aa} {s0:Ac} {sp:Space} (hb:Bd_ c) (h:Sp_ c s0 sp):∀ l∈sp.Moves,l.length<=22/\∀ k∈l,0<=k/\k < sp.States.length:=by
 intro l hl;obtain ⟨i,hi⟩:=JX hl;have hil:=(GG.1 hi).1;rw [h.fd.ml] at hil;obtain ⟨s,mv,h1,h2,h3,h4,h5⟩:=h.get hil;rw [hi] at h2;obtain rfl:=Option.some.inj h2;exact ⟨by rw [h3.len];exact D5 hb h4,λk hk=>h3.mem hk⟩
end Go.Pn
namespace Go.Pn
open Go Go.Sort Go.Proofs
def Sb_ (s:Ab):Prop:=0<=s.Actuator/\s.Actuator<=1000
theorem EE {f:Nat} {a b:Ab} (ha:Sb_ a) (hb:Sb_ b):m93 f a b=some (sd a b):=by
 obtain ⟨x,p⟩:=a;obtain ⟨y,q⟩:=b;have h1:0<=x/\x<=1000:=ha;have h2:0<=y/\y<=1000:=hb;unfold m93 sd;dsimp only;by_cases h:x=y
 ·subst h;rw [show (x != x)=false by simp,cf_,if_pos rfl];cases p <;> cases q <;> rfl
 ·rw [show (x != y)=true by simpa using h,ct_,if_neg h,Av om_ om_]
def cl:List Ab->List Ab->Option Int
 | [],_=>none
 | _ :: _,[]=>some 1
 | a :: l,b :: m=>if sd a b=0 then cl l m else some (sd a b)
theorem FP:∀ (a b:List Ab),lcs a b=match cl a b with | some r=>r | none=>if a.length < b.length then -1 else 0
 | [],[]=>rfl
 | [],_ :: _=>by simp [lcs,cl]
 | _ :: _,[]=>rfl
 | a :: l,b :: m=>by
  unfold lcs cl;by_cases h:sd a b=0
  ·rw [if_pos h,if_pos h,FP l m];cases cl l m with
   | some r=>rfl
   | none=>simp
  ·rw [if_neg h,if_neg h]
theorem Mz {f:Nat} {v0 v1:List Ab} (h0:∀ s∈v0,Sb_ s) (h1:∀ s∈v1,Sb_ s) (hl:v0.length<=100000000):∀ (n i:Nat),i<=v0.length->v0.length - i < n ->
  Ur f v0 v1 n i=some (match cl (v0.drop i) (v1.drop i) with | some r=>.ret r | none=>.brk (v0.length:Int))
 | 0,i,_,h=>by omega
 | n + 1,i,hi,hn=>by
  rw [Ur];by_cases hlt:i < v0.length
  ·rw [Ao,dt_ hlt,ct_,Am,gE_ hlt,ob_,GE hlt];by_cases h2:i < v1.length
   ·rw [show decide ((i:Int)>=(v1.length:Int))=false by simp;omega,cf_,Am,gE_ h2,ob_,EE (h0 _ (GF _)) (h1 _ (GF _)),ob_,GE h2];unfold cl;by_cases h3:sd v0[i] v1[i]=0
    ·rw [h3,if_pos rfl,zf_,cf_,Aq om_,Mz h0 h1 hl n (i + 1) om_ om_]
    ·rw [if_neg h3,show (sd v0[i] v1[i] != 0)=true by simpa using h3,ct_]
   ·rw [show decide ((i:Int)>=(v1.length:Int))=true by simp;omega,ct_,G1 (by omega:v1.length<=i)];rfl
  ·obtain rfl:i=v0.length:=by omega
   rw [Ao,df_ om_,cf_,G6];rfl
theorem Mo {v0 v1:List Ab} (h0:∀ s∈v0,Sb_ s) (h1:∀ s∈v1,Sb_ s) (hl:v0.length<=10000):m60 FF v0 v1=some (lcs v0 v1):=by
 unfold m60 m92;have:=Mz (f:=FF) h0 h1 om_ FF 0 om_ uF;rw [n0,GL,GL] at this;rw [this,FP];cases cl v0 v1 with
 | some r=>rfl
 | none=>
  rw [ob_];dsimp only;by_cases h:v0.length < v1.length
  ·rw [if_pos h,show decide ((v0.length:Int) < (v1.length:Int))=true by simp;omega];rfl
  ·rw [if_neg h,show decide ((v0.length:Int) < (v1.length:Int))=false by simp;omega];rfl
def Xb (x:Int):Int:=if x < 0 then -1 else if 0 < x then 1 else 0
theorem Xx {x:Int}:Xb x=0↔x=0:=by unfold Xb; split <;> (try split) <;> omega
theorem A3 {x:Int}:Xb x < 0↔x < 0:=by unfold Xb; split <;> (try split) <;> omega
def co:List Ab->List Ab->Option Int
 | a :: l,b :: m=>if sd a b=0 then co l m else some (Xb (sd a b))
 | _,_=>none
theorem FO:∀ (a b:List Ab),Xb (lcs a b)=match co a b with | some r=>r | none=>if a.length < b.length then -1 else if a.length > b.length then 1 else 0
 | [],[]=>rfl
 | [],_ :: _=>by simp [lcs,co,Xb]
 | _ :: _,[]=>by simp [lcs,co,Xb]
 | a :: l,b :: m=>by
  unfold lcs co;by_cases h:sd a b=0
  ·rw [if_pos h,if_pos h,FO l m];cases co l m with
   | some r=>rfl
   | none=>simp
  ·rw [if_neg h,if_neg h]
theorem Nh {v0 v1:List Ab} (hl:v0.length<=100000000):∀ (n i:Nat),i<=v0.length->v0.length - i < n ->
  ∃ k,Uw v0 v1 n i=some (match co (v0.drop i) (v1.drop i) with | some r=>.ret r | none=>.brk k)
 | 0,i,_,h=>by omega
 | n + 1,i,hi,hn=>by
  rw [Uw];by_cases hlt:i < v0.length/\i < v1.length
  ·obtain ⟨hlt,h2⟩:=hlt;rw [Ao,Ao,dt_ hlt,dt_ h2,LG,ct_];simp only [Am,gE_ hlt,gE_ h2,ob_];rw [GE hlt,GE h2];unfold co;generalize ha:v0[i]=a;generalize hb:v1[i]=b;obtain ⟨x,p⟩:=a;obtain ⟨y,q⟩:=b;dsimp only;by_cases h3:x=y
   ·subst h3;rw [show (x != x)=false by simp,cf_];by_cases h4:p=q
    ·subst h4;rw [show (p != p)=false by simp,cf_,if_pos (Bo.2 rfl),Aq om_];exact Nh hl n (i + 1) om_ om_
    ·rw [show (p != q)=true by simpa using h4,ct_];refine ⟨0,?_⟩;cases p <;> cases q <;> simp_all [sd,Xb]
   ·rw [show (x != y)=true by simpa using h3,ct_];refine ⟨0,?_⟩;have h5:sd ⟨x,p⟩ ⟨y,q⟩=x - y:=by unfold sd;rw [if_neg h3]
    rw [h5,if_neg om_];unfold Xb;by_cases h6:x < y
    ·rw [dt_ h6,ct_,if_pos om_]
    ·rw [df_ h6,cf_,if_neg om_,if_pos om_]
  ·refine ⟨(i:Int),?_⟩;have:(decide ((i:Int) < (v0.length:Int)) && decide ((i:Int) < (v1.length:Int)))=false:=by
    rw [Ao,Ao];rcases H4 i v0.length with h | h
    ·rw [df_ (show ¬ i < v1.length from λh'=>hlt ⟨h,h'⟩),KW]
    ·rw [df_ om_,HW]
   rw [this,cf_];have:co (v0.drop i) (v1.drop i)=none:=by
    rcases H4 i v0.length with h | h
    ·rw [G1 (show v1.length<=i from Nat.le_of_not_lt λh'=>hlt ⟨h,h'⟩)];cases v0.drop i <;> rfl
    ·rw [G1 h];rfl
   rw [this]
theorem Mn {v0 v1:List Ab} (hl:v0.length<=10000):m68 FF v0 v1=some (Xb (lcs v0 v1)):=by
 unfold m68;obtain ⟨k,hk⟩:=Nh (v0:=v0) (v1:=v1) om_ FF 0 om_ uF;rw [n0,GL,GL] at hk;rw [hk,FO];cases co v0 v1 with
 | some r=>rfl
 | none=>
  rw [ob_];dsimp only;rcases Nat.lt_trichotomy v0.length v1.length with h | h | h
  ·rw [if_pos h,show decide ((v0.length:Int) < (v1.length:Int))=true by simp;omega];rfl
  ·rw [if_neg om_,if_neg om_,show decide ((v0.length:Int) < (v1.length:Int))=false by simp;omega,show decide ((v0.length:Int) > (v1.length:Int))=false by simp;omega];rfl
  ·rw [if_neg om_,if_pos h,show decide ((v0.length:Int) < (v1.length:Int))=false by simp;omega,show decide ((v0.length:Int) > (v1.length:Int))=true by simp;omega];rfl
end Go.Pn
namespace Go.Pn
open Go Go.Sort Go.Proofs
instance:DecidableEq Ab:=λa b=>decidable_of_iff (sd a b=0) Bo
theorem Li {a b:List Ab} {l:List (List Ab)}:Da (a :: b :: l)=if lcs a b=0 then Da (b :: l) else a :: Da (b :: l):=by rw [Da]
theorem DL {a:List Ab}:Da [a]=[a]:=rfl
theorem Py:∀ (l:List (List Ab)) (y x:List Ab),Da (l ++ [y] ++ [x])=if y=x then Da (l ++ [y]) else Da (l ++ [y]) ++ [x]
 | [],y,x=>by
  show Da [y,x]=if y=x then Da [y] else Da [y] ++ [x]
  rw [Li,DL,DL];by_cases h:y=x
  ·subst h;rw [if_pos (Ax.2 rfl),if_pos rfl]
  ·rw [if_neg λe=>h (Ax.1 e),if_neg h];rfl
 | [a],y,x=>by
  have h1:Da [y,x]=if y=x then Da [y] else Da [y] ++ [x]:=Py [] y x
  show Da (a :: y :: [x])=if y=x then Da (a :: [y]) else Da (a :: [y]) ++ [x]
  rw [Li (a:=a) (b:=y) (l:=[x]),Li (a:=a) (b:=y) (l:=[]),h1];by_cases h:lcs a y=0
  ·rw [if_pos h,if_pos h]
  ·rw [if_neg h,if_neg h];split <;> rfl
 | a :: b :: l,y,x=>by
  have h1:Da (b :: (l ++ [y] ++ [x]))=if y=x then Da (b :: (l ++ [y])) else Da (b :: (l ++ [y])) ++ [x]:=Py (b :: l) y x
  show Da (a :: b :: (l ++ [y] ++ [x]))=if y=x then Da (a :: b :: (l ++ [y])) else Da (a :: b :: (l ++ [y])) ++ [x]
  rw [Li (a:=a) (b:=b) (l:=l ++ [y] ++ [x]),Li (a:=a) (b:=b) (l:=l ++ [y]),h1];by_cases h:lcs a b=0
  ·rw [if_pos h,if_pos h]
  ·rw [if_neg h,if_neg h];split <;> rfl
theorem Wx {l:List (List Ab)} {i:Nat} (h0:0 < i) (h:i < l.length):Da (l.take (i + 1))=if l[i - 1]'om_=l[i] then Da (l.take i) else Da (l.take i) ++ [l[i]]:=by
 obtain ⟨k,rfl⟩:∃ k,i=k + 1:=⟨i - 1,by omega⟩;have h1:=Py (l.take k) (l[k]'om_) l[k + 1];rw [show l.take k ++ [l[k]'om_]=l.take (k + 1) from H6 om_,show l.take (k + 1) ++ [l[k + 1]]=l.take (k + 1 + 1) from H6 h] at h1;exact h1
def EqT (E:List Ab->List Ab->Option Bool) (xs:List (List Ab)):Prop:=∀ x∈xs,∀ y∈xs,E x y=some (decide (x=y))
theorem C6 {α:Type} {xs:List α} {k n:Nat} {j:Nat} (hk:k + j < n) (hn:n<=xs.length):Ti xs (k,n) (j:Int)=some (xs[k + j]'om_):=by
 unfold Ti;rw [if_pos om_];show xs[k + (j:Int).toNat]?=_;rw [G3,gE_ om_]
structure Ci (v zs:List (List Ab)) (p kk:Nat):Prop where
 len:zs.length=v.length
 lt:kk < p
 hi:∀ j,p<=j + 1->zs[j]?=v[j]?
 tk:zs.take kk=Da (v.take p)
theorem Gl {E:List Ab->List Ab->Option Bool} {L:Nat->(Int×Int×List (List Ab))->Option (Int×Int×List (List Ab))} {v:List (List Ab)} {k:Nat} (hE:EqT E v) (hl:v.length<=10000000)
  (hL:∀ n z7,L (n + 1) z7=(bif (decide (z7.2.1 < ((v.length - k:Nat):Int))) then (Ti z7.2.2 (k,v.length) z7.2.1).bind λx9=>(Ti z7.2.2 (k,v.length) (wr (z7.2.1 - 1))).bind λx10=>(E x9 x10).bind λx11=>(bif (!x11) then (Ti z7.2.2 (k,v.length) z7.2.1).bind λx13=>(idx z7.2.2 z7.1).bind λx14=>some ((wr (z7.1 + 1)),(z7.2.2.set z7.1.toNat x13)) else some (z7.1,z7.2.2)).bind λz12=>L n (z12.1,(wr (z7.2.1 + 1)),z12.2) else some (z7.1,z7.2.1,z7.2.2))) :
  ∀ (n k2 kk:Nat) (zs:List (List Ab)),1<=k2->k + k2<=v.length->v.length - (k + k2) < n->Ci v zs (k + k2) kk->∃ (kk':Nat) (zs':List (List Ab)) (j:Int),L n ((kk:Int),(k2:Int),zs)=some ((kk':Int),j,zs')/\Ci v zs' v.length kk'
 | 0,_,_,_,_,_,h,_=>by omega
 | n + 1,k2,kk,zs,h1,h2,h3,hI=>by
  rw [hL];dsimp only;have hzl:=hI.len;have hkk:=hI.lt;by_cases hlt:k + k2 < v.length
  ·have e1:zs[k + k2]'om_=v[k + k2]:=by
    have:=hI.hi (k + k2) om_;rw [gE_ om_,gE_ hlt] at this;exact Option.some.inj this
   have e2:zs[k + (k2 - 1)]'om_=v[k + k2 - 1]'om_:=by
    have:=hI.hi (k + (k2 - 1)) om_;rw [gE_ om_,gE_ om_] at this;have h4:=Option.some.inj this;rw [h4];congr 1;omega
   have hw:wr ((k2:Int) - 1)=((k2 - 1:Nat):Int):=by rw [Av om_ om_];omega
   have i1:Ti zs (k,v.length) (k2:Int)=some v[k + k2]:=by
    have:=C6 (xs:=zs) (k:=k) (n:=v.length) (j:=k2) om_ om_;rw [this,e1]
   have i2:Ti zs (k,v.length) ((k2 - 1:Nat):Int)=some (v[k + k2 - 1]'om_):=by
    have:=C6 (xs:=zs) (k:=k) (n:=v.length) (j:=k2 - 1) om_ om_;rw [this,e2]
   rw [show decide ((k2:Int) < ((v.length - k:Nat):Int))=true by simp;omega,ct_,i1,ob_,hw,i2,ob_,hE _ (GF _) _ (GF _),ob_];have hst:=Wx (l:=v) (i:=k + k2) om_ hlt;by_cases he:v[k + k2]=v[k + k2 - 1]'om_
   ·rw [dt_ he,HS,cf_,ob_,Aq om_];refine Gl hE hl hL n (k2 + 1) kk zs om_ om_ om_ ⟨hzl,by omega,λj hj=>hI.hi j om_,?_⟩;rw [show k + (k2 + 1)=k + k2 + 1 by omega,hst,if_pos he.symm];exact hI.tk
   ·rw [df_ he,H0,ct_,ob_,Am,gE_ om_,ob_,ob_,Aq om_,Aq om_,G3];refine Gl hE hl hL n (k2 + 1) (kk + 1) (zs.set kk v[k + k2]) om_ om_ om_ ⟨by simp [hzl],by omega,λj hj=>?_,?_⟩
    ·rw [HT om_];exact hI.hi j om_
    ·rw [show k + (k2 + 1)=k + k2 + 1 by omega,hst,if_neg λe=>he e.symm,← hI.tk];have hk:kk < (zs.set kk v[k + k2]).length:=by simp;omega
     rw [← H6 hk];have e3:(zs.set kk v[k + k2]).take kk=zs.take kk:=by
      refine H2 λj=>?_;rw [J1,J1];split
      ·rw [HT om_]
      ·rfl
     rw [e3];simp
  ·have hN:k + k2=v.length:=by omega
   rw [show decide ((k2:Int) < ((v.length - k:Nat):Int))=false by simp;omega,cf_];rw [hN] at hI;exact ⟨kk,zs,(k2:Int),rfl,hI⟩
theorem Pz:∀ {v:List (List Ab)},(∀ j,0 < j->(h:j < v.length)->v[j]≠v[j - 1]'om_)->Da v=v
 | [],_=>rfl
 | [_],_=>rfl
 | a :: b :: l,h=>by
  have h1:=h 1 om_ smp_;have h1:b≠a:=h1;rw [Da,if_neg λe=>h1 (Ax.1 e).symm];congr 1;refine Pz λj hj hl=>?_;have:=h (j + 1) om_ (by simpa using hl);obtain ⟨i,rfl⟩:∃ i,j=i + 1:=⟨j - 1,by omega⟩;exact this
theorem BG {E:List Ab->List Ab->Option Bool} {L1:Nat->Int->Option (Lo Int (List (List Ab)))} {L2:Nat×Nat->Nat->(Int×Int×List (List Ab))->Option (Int×Int×List (List Ab))} {v:List (List Ab)} (hE:EqT E v) (hl:v.length<=10000)
  (hL2:∀ x6 n z7,L2 x6 (n + 1) z7=(bif (decide (z7.2.1 < ((x6.2 - x6.1:Nat):Int))) then (Ti z7.2.2 x6 z7.2.1).bind λx9=>(Ti z7.2.2 x6 (wr (z7.2.1 - 1))).bind λx10=>(E x9 x10).bind λx11=>(bif (!x11) then (Ti z7.2.2 x6 z7.2.1).bind λx13=>(idx z7.2.2 z7.1).bind λx14=>some ((wr (z7.1 + 1)),(z7.2.2.set z7.1.toNat x13)) else some (z7.1,z7.2.2)).bind λz12=>L2 x6 n (z12.1,(wr (z7.2.1 + 1)),z12.2) else some (z7.1,z7.2.1,z7.2.2)))
  (hL1:∀ n z1,L1 (n + 1) z1=(bif (decide (z1 < (v.length:Int))) then (idx v z1).bind λx3=>(idx v (wr (z1 - 1))).bind λx4=>(E x3 x4).bind λx5=>(bif x5 then (lsr z1 (v.length:Int) (v.length:Int)).bind λx6=>(L2 x6 FF (z1,(1:Int),v)).bind λo8s=>(lsr o8s.1 (o8s.2.2.length:Int) (o8s.2.2.length:Int)).bind λx15=>(lsl (o8s.2.2.take x15.1 ++ (List.replicate (x15.2 - x15.1) ([]:List Ab) ++ o8s.2.2.drop (x15.1 + (x15.2 - x15.1)))) 0 o8s.1).bind λx16=>some (.ret x16) else L1 n (wr (z1 + 1))) else some (.brk z1))) :
  ∀ (n i:Nat),1<=i->i<=v.length->v.length - i < n->(∀ j,0 < j->j < i->(h:j < v.length)->v[j]≠v[j - 1]'om_)->((∃ z,L1 n (i:Int)=some (.brk z))/\Da v=v)\/L1 n (i:Int)=some (.ret (Da v))
 | 0,_,_,_,h,_=>by omega
 | n + 1,i,h1,h2,h3,hn=>by
  rw [hL1];by_cases hlt:i < v.length
  ·have hw:wr ((i:Int) - 1)=((i - 1:Nat):Int):=by rw [Av om_ om_];omega
   rw [Ao,dt_ hlt,ct_,Am,gE_ hlt,ob_,hw,Am,gE_ om_,ob_,hE _ (GF _) _ (GF _),ob_];by_cases he:v[i]=v[i - 1]'om_
   ·right;have hr:lsr (i:Int) (v.length:Int) (v.length:Int)=some (i,v.length):=by
     unfold lsr;rw [if_pos ⟨by omega,by omega,by omega⟩,G3,G3]
    have hself:Da (v.take i)=v.take i:=Pz λj hj hl=>by
     rw [List.getElem_take,List.getElem_take];rw [JN] at hl;exact hn j hj om_ om_
    obtain ⟨kk,zs,j,e1,hI⟩:=Gl (k:=i) hE om_ (λn z7=>hL2 (i,v.length) n z7) FF 1 i v om_ om_ uF ⟨rfl,by omega,λ_ _=>rfl,by rw [Wx om_ hlt,if_pos he.symm,hself]⟩;have e1:L2 (i,v.length) FF ((i:Int),(1:Int),v)=some ((kk:Int),j,zs):=e1;have hzl:=hI.len;have hkk:=hI.lt;rw [dt_ he,ct_,hr,ob_,e1,ob_];dsimp only;have hr2:lsr (kk:Int) (zs.length:Int) (zs.length:Int)=some (kk,zs.length):=by
     unfold lsr;rw [if_pos ⟨by omega,by omega,by omega⟩,G3,G3]
    rw [hr2,ob_];dsimp only;have hs:lsl (zs.take kk ++ (List.replicate (zs.length - kk) ([]:List Ab) ++ zs.drop (kk + (zs.length - kk)))) 0 (kk:Int)=some (zs.take kk):=by
     have hl1:(zs.take kk).length=kk:=by rw [JN];omega
     unfold lsl;rw [if_pos ⟨by omega,by omega,by simp;omega⟩];simp only [Int.toNat_zero,GL,G3,Nat.sub_zero];rw [List.take_append_of_le_length om_,HE om_]
    rw [hs,ob_,hI.tk,List.take_length]
   ·rw [df_ he,cf_,Aq om_];refine BG hE hl hL2 hL1 n (i + 1) om_ om_ om_ λj hj hji hjl=>?_;rcases LN (Nat.le_of_lt_succ hji) with h | h
    ·exact hn j hj h hjl
    ·subst h;exact he
  ·left;rw [Ao,df_ hlt,cf_];exact ⟨⟨_,rfl⟩,Pz λj hj hjl=>hn j hj om_ hjl⟩
theorem m89_eqT {xs:List (List Ab)} (h:∀ x∈xs,(∀ s∈x,Sb_ s)/\x.length<=10000):EqT (m89 FF) xs:=λx hx y hy=>by
 unfold m89;rw [Mo (h x hx).1 (h y hy).1 (h x hx).2,ob_];congr 1;rw [HU];simp [Ax]
theorem EN {v:List (List Ab)} (h:∀ x∈v,(∀ s∈x,Sb_ s)/\x.length<=10000) (hl:v.length<=10000):m61 FF v=some (Da v):=by
 unfold m61;by_cases h2:v.length < 2
 ·rw [show decide ((v.length:Int) < 2)=true by simp;omega,ct_]
  match v,h2 with
  | [],_=>rfl
  | [_],_=>rfl
 ·rw [show decide ((v.length:Int) < 2)=false by simp;omega,cf_];rcases BG (L1:=Qs FF v) (L2:=Yq FF) (m89_eqT h) hl (λ_ _ _=>rfl) (λ_ _=>rfl) FF 1 om_ om_ uF (λj hj hj1=>by omega) with ⟨⟨z,hz⟩,hc⟩ | hz
  ·have hz:Qs FF v FF 1=some (.brk z):=hz;rw [hz,hc];rfl
  ·have hz:Qs FF v FF 1=some (.ret (Da v)):=hz;rw [hz];rfl
theorem EO {v:List (List Ab)} (h:∀ x∈v,(∀ s∈x,Sb_ s)/\x.length<=10000) (hl:v.length<=10000):m59 FF v=some (Mf (ltOf lcs) v):=by
 unfold m59;rw [dt_ om_,HJ];have:v.all (λx=>v.all λy=>m60 FF x y == some (lcs x y))=true:=by
  rw [GQ];intro x hx;rw [GQ];intro y hy;rw [Mo (h x hx).1 (h y hy).1 (h x hx).2];simp
 rw [this,ct_]
def nub (v:List (List Ab)):List (List Ab):=Da (Mf (ltOf lcs) v)
theorem BB {v:List (List Ab)} {x:List Ab}:x∈nub v↔x∈v:=by
 unfold nub;rw [Ms,(Db v).mem_iff]
theorem FK {v:List (List Ab)}:(nub v).Pairwise lL:=Xo (Rx C4 v)
end Go.Pn
namespace Go.Pn
open Go
theorem Ro {α:Type} {l:List α} {q:α->Bool}:(∃ j,l.findIdx? q=some j/\l.any q=true)\/(l.findIdx? q=none/\l.any q=false):=by
 cases h:l.findIdx? q with
 | some j=>
  left;obtain ⟨h1,h2,_⟩:=G7.1 h;exact ⟨j,rfl,G5.2 ⟨_,GF h1,h2⟩⟩
 | none=>
  right;rw [HH] at h;exact ⟨rfl,HN.2 λx hx=>by simpa using h x hx⟩
end Go.Pn
namespace Go.Pn
open Go
theorem exp_ne {c:Aa} {held:List Bool} (_:True):E6 c held 120≠.inl 0:=by
 intro h3;have key:∀ (n i:Nat) (S:List Ac) (M:List (List Int)),Rs c 120 n i S M≠.inl 0:=by
  intro n
  induction n with
  | zero=>intro i S M h;cases h
  | succ n ih=>
   intro i S M h;unfold Rs at h;cases hs:S[i]? with
   | none=>rw [hs] at h;cases h
   | some s=>
    rw [hs] at h;try dsimp only at h
    have hx:∀ (l:List Ag) (S:List Ac) (mv:List Int),Jw c 120 s l S mv≠.inl 0:=by
     intro l
     induction l with
     | nil=>intro S mv h;cases h
     | cons x l ihl=>
      intro S mv h;unfold Jw at h;split at h
      ·split at h
       ·split at h
        ·cases h
        ·exact ihl _ _ h
       ·exact ihl _ _ h
      ·rename_i h0;exact h0 (Sum.inl.inj h)
    cases hr:Jw c 120 s (Jx s) S [] with
    | inl e=>
     rw [hr] at h;have:=Sum.inl.inj h;subst this;exact hx _ _ _ hr
    | inr r=>rw [hr] at h;exact ih _ _ _ h
 exact key _ _ _ _ h3
end Go.Pn
namespace Go.Pn
open Go
def frE (s t:Ac) (i:Nat):Option Ab:=if (t.Ends.getD i 0=1\/t.Ends.getD i 0=3)/\s.Ends.getD i 0≠t.Ends.getD i 0 then some ⟨(i:Int),t.Ends.getD i 0 == 1⟩ else none
def frs (s t:Ac):List Ab:=(List.range s.Ends.length).filterMap (frE s t)
theorem FR {s t:Ac} {i:Nat} (h:i < s.Ends.length) (h':i < t.Ends.length):frE s t i=if (t.Ends[i]=1\/t.Ends[i]=3)/\s.Ends[i]≠t.Ends[i] then some ⟨(i:Int),t.Ends[i] == 1⟩ else none:=by
 unfold frE;rw [GV,GV,gE_ h,gE_ h'];rfl
theorem CX {s t:Ac} (he:t.Ends.length=s.Ends.length) (hl:s.Ends.length<=1000):m111 FF s t=some (frs s t):=by
 unfold m111;obtain ⟨v,hv,hh⟩:=Qe (L:=Le s t) (mk:=λi (v:List Ab)=>((i:Int),v)) (N:=s.Ends.length) (I:=λi v=>v=(List.range i).filterMap (frE s t)) (λn i v hi hI=>by
  subst hI;have hi':i < t.Ends.length:=by omega
  refine ⟨_,rfl,?_⟩;have hle:=Bq (g:=frE s t) (n:=i);rw [Le];simp only [Ao,dt_ hi,ct_,Am,gE_ hi,gE_ hi',ob_];rw [Aq om_,Fi,FR hi hi'];have k1:(bif (t.Ends[i] == 1) then some true else some (t.Ends[i] == 3))=some (decide (t.Ends[i]=1\/t.Ends[i]=3)):=by
   by_cases a1:t.Ends[i]=1
   ·rw [show (t.Ends[i] == 1)=true by simpa using a1,dt_ (.inl a1)];rfl
   ·rw [show (t.Ends[i] == 1)=false by simpa using a1,cf_];by_cases a3:t.Ends[i]=3
    ·rw [show (t.Ends[i] == 3)=true by simpa using a3,dt_ (.inr a3)]
    ·rw [show (t.Ends[i] == 3)=false by simpa using a3,df_ om_]
  rw [k1,ob_];by_cases ha:t.Ends[i]=1\/t.Ends[i]=3
  ·rw [dt_ ha,ct_,ob_];by_cases hn:s.Ends[i]=t.Ends[i]
   ·rw [show (s.Ends[i] != t.Ends[i])=false by simpa using hn,cf_,ob_,if_neg (λh=>h.2 hn),HM]
   ·rw [show (s.Ends[i] != t.Ends[i])=true by simpa using hn,ct_,Az so_,ob_,ob_,if_pos ⟨ha,hn⟩]
  ·rw [df_ ha,cf_,ob_,cf_,ob_,if_neg (λh=>ha h.1),HM]) (λn v _=>by
  rw [Le];dsimp only;rw [Ao,df_ om_,cf_]) FF 0 [] om_ uF rfl
 subst hv;try dsimp only at hh
 rw [n0] at hh;rw [hh];rfl
theorem C1 {s t:Ac} (he:t.Ends.length=s.Ends.length) (hl:s.Ends.length<=1000):m102 FF s t=some (frs s t):=by
 unfold m102;obtain ⟨v,hv,hh⟩:=Qe (L:=Lf s t) (mk:=λi (v:List Ab)=>((i:Int),v)) (N:=s.Ends.length) (I:=λi v=>v=(List.range i).filterMap (frE s t)) (λn i v hi hI=>by
  subst hI;have hi':i < t.Ends.length:=by omega
  refine ⟨_,rfl,?_⟩;have hle:=Bq (g:=frE s t) (n:=i);rw [Lf];simp only [he,Ao,dt_ hi,ct_,Am,gE_ hi,gE_ hi',ob_];rw [Aq om_,Fi,FR hi hi'];have k1:((t.Ends[i] != s.Ends[i]) && ((t.Ends[i] == 1) || (t.Ends[i] == 3)))=decide ((t.Ends[i]=1\/t.Ends[i]=3)/\s.Ends[i]≠t.Ends[i]):=by
   rw [HU];simp;omega
  rw [k1];by_cases ha:(t.Ends[i]=1\/t.Ends[i]=3)/\s.Ends[i]≠t.Ends[i]
  ·rw [dt_ ha,ct_,Az so_,ob_,ob_,if_pos ha]
  ·rw [df_ ha,cf_,ob_,if_neg ha,HM]) (λn v _=>by
  rw [Lf];dsimp only;rw [he,Ao,df_ om_,cf_]) FF 0 [] om_ uF rfl
 subst hv;try dsimp only at hh
 rw [n0] at hh;rw [hh];rfl
theorem EH {c:Aa} {s t:Ac} (hb:Bd_ c) (hs:Fit c s) (ht:Fit c t):m76 FF s t=some (frs s t,0):=by
 have h6:=hb.a';have h1:=hs.e;have h2:=ht.e;unfold m76;rw [show ((s.Ends.length:Int) != (t.Ends.length:Int))=false by simp;omega,df_ om_,KN,cf_,Pg om_ om_,ob_];have e1:=Ub (L:=Ym (s.Ends ++ t.Ends)) (xs:=s.Ends ++ t.Ends) (p:=λ_ x=>some (decide (x < 0) || decide (x>=4))) (q:=λx=>decide (x < 0) || decide (x>=4)) (r:=λ_=>(([]:List Ab),(1:Int))) (λ_ _=>rfl) so_ (λ_ _ _=>rfl) FF 0 smp_ (by simp;unfold FF;omega);rw [n0,GL] at e1;rcases Ro (l:=s.Ends ++ t.Ends) (q:=λx=>decide (x < 0) || decide (x>=4)) with ⟨j,hj,ha⟩ | ⟨hj,ha⟩
 ·exfalso;obtain ⟨x,hx,h3⟩:=G5.1 ha;have:0<=x/\x < 4:=(GN.1 hx).elim (hs.ee x) (ht.ee x);simp at h3;omega
 ·rw [hj] at e1;rw [e1,ob_];dsimp only;rw [C1 om_ om_];rfl
end Go.Pn
namespace Go.Pn
open Go
structure Sq (c:Aa) (sp:Space):Prop where
 bd:Bd_ c
 fit:∀ s∈sp.States,Fit c s
 ml:sp.Moves.length=sp.States.length
 pos:0 < sp.States.length
 le:sp.States.length<=120
 rows:∀ l∈sp.Moves,l.length<=22/\∀ k∈l,0<=k/\k < sp.States.length
theorem Sp_.sq {c:Aa} {s0:Ac} {sp:Space} (hb:Bd_ c) (h:Sp_ c s0 sp):Sq c sp:=
 ⟨hb,λs hs=>(h.al s hs).1,h.fd.ml,h.pos,h.le,h.rows hb⟩
def stq_ (sp:Space) (i:Int):Ac:=(idx sp.States i).getD default
theorem Pr {sp:Space} {i:Int} (h0:0<=i) (h:i < sp.States.length):idx sp.States i=some (stq_ sp i)/\stq_ sp i∈sp.States:=by
 obtain ⟨x,hx,hm⟩:=Cm (xs:=sp.States) h0 h;unfold stq_;rw [hx];exact ⟨rfl,hm⟩
def lab (sp:Space) (i to:Int):List Ab:=frs (stq_ sp i) (stq_ sp to)
def Mh (sp:Space) (i:Int) (l:List Int):List Move:=l.map λto=>⟨lab sp i to,to⟩
def sdv (sp:Space):List (List Move):=(List.range sp.Moves.length).map λi:Nat=>Mh sp (i:Int) (sp.Moves.getD i [])
section
variable {c:Aa} {sp:Space}
theorem Ry:(sdv sp).length=sp.Moves.length:=by simp [sdv]
theorem Xe {i:Nat} {mv:List Int} (h:sp.Moves[i]?=some mv):(sdv sp)[i]?=some (Mh sp i mv):=by
 have hi:=(GG.1 h).1;unfold sdv;rw [GU,HR hi,GY,GV,h];rfl
theorem Na {i:Nat} {mv:List Int} (h:Sq c sp) (hi:sp.Moves[i]?=some mv):∀ (n k:Nat) (acc:List (List Ab)),k<=mv.length->acc.length<=k->mv.length - k < n ->
  Us FF sp i n ((k:Int),acc)=some ((mv.length:Int),acc ++ (mv.drop k).map (lab sp i))
 | 0,_,_,_,_,h=>by omega
 | n + 1,k,acc,hk,ha,hn=>by
  have hil:=(GG.1 hi).1;obtain ⟨h22,hr⟩:=h.rows mv (GP hi);rw [Us];dsimp only;rw [Am,hi,ob_];by_cases hlt:k < mv.length
  ·obtain ⟨r1,r2⟩:=hr mv[k] (GF _);obtain ⟨e1,m1⟩:=Pr (sp:=sp) (i:=(i:Int)) om_ (by have:=h.ml;omega);obtain ⟨e2,m2⟩:=Pr (sp:=sp) r1 r2;have f1:=(h.fit _ m1).e;have f2:=(h.fit _ m2).e;have f3:=h.bd.a';rw [Ao,dt_ hlt,ct_,e1,ob_,ob_,Am,gE_ hlt,ob_,e2,ob_,CX om_ om_,ob_,Az so_,ob_,Aq om_,
    Na h hi n (k + 1) _ om_ so_ om_,GE hlt,GR,G2]
   rfl
  ·obtain rfl:k=mv.length:=by omega
   rw [Ao,df_ om_,cf_,G6];simp
theorem So {i:Nat} {mv:List Int} (h:Sq c sp) (hi:sp.Moves[i]?=some mv):m85 FF sp i=some (mv.map (lab sp i)):=by
 obtain ⟨h22,_⟩:=h.rows mv (GP hi);unfold m85;have:=Na h hi FF 0 [] om_ smp_ uF;rw [n0,GL,JU] at this;rw [this];rfl
theorem Nm {i:Nat} {mv:List Int} {z:List (List Move)} (h:Sq c sp) (hi:sp.Moves[i]?=some mv):∀ (n k:Nat) (acc:List Move),k<=mv.length->acc.length<=k->mv.length - k < n ->
  Uz FF (sp,(0:Int)) ((i:Int),z) mv n ((k:Int),acc)=some (.brk ((mv.length:Int),acc ++ Mh sp i (mv.drop k)))
 | 0,_,_,_,_,h=>by omega
 | n + 1,k,acc,hk,ha,hn=>by
  have hil:=(GG.1 hi).1;obtain ⟨h22,hr⟩:=h.rows mv (GP hi);rw [Uz];dsimp only;by_cases hlt:k < mv.length
  ·obtain ⟨r1,r2⟩:=hr mv[k] (GF _);obtain ⟨e1,m1⟩:=Pr (sp:=sp) (i:=(i:Int)) om_ (by have:=h.ml;omega);obtain ⟨e2,m2⟩:=Pr (sp:=sp) r1 r2;rw [Ao,dt_ hlt,ct_,Am,gE_ hlt,ob_,e1,ob_,e2,ob_,EH h.bd (h.fit _ m1) (h.fit _ m2),ob_];dsimp only;rw [zf_,cf_,Az so_,ob_,Aq om_,Nm h hi n (k + 1) _ om_ so_ om_,GE hlt];unfold Mh;rw [GR,G2];rfl
  ·obtain rfl:k=mv.length:=by omega
   rw [Ao,df_ om_,cf_,G6];unfold Mh;simp
theorem Nn (h:Sq c sp):∀ (n i:Nat),i<=sp.Moves.length->sp.Moves.length - i < n ->
  Vb FF (sp,(0:Int)) n ((i:Int),(sdv sp).take i)=some (.brk ((sp.Moves.length:Int),sdv sp))
 | 0,_,_,h=>by omega
 | n + 1,i,hi,hn=>by
  have hml:=h.ml;have hle:=h.le;rw [Vb];dsimp only;by_cases hlt:i < sp.Moves.length
  ·have hg:sp.Moves[i]?=some sp.Moves[i]:=gE_ hlt;obtain ⟨h22,_⟩:=h.rows _ (GP hg);have e1:=Nm (z:=(sdv sp).take i) h hg FF 0 [] om_ smp_ uF;rw [n0,GL,JU] at e1;have e2:=Xe hg;have hs:i < (sdv sp).length:=by rw [Ry];exact hlt
   rw [gE_ hs] at e2;have e2:=Option.some.inj e2;rw [Ao,dt_ hlt,ct_,Am,hg,ob_,e1,ob_];dsimp only;rw [Az so_,ob_,Aq om_,← e2,H6 hs];exact Nn h n (i + 1) om_ om_
  ·obtain rfl:i=sp.Moves.length:=by omega
   rw [Ao,df_ om_,cf_,HE (by rw [Ry];exact G0 _)]
theorem Hy {held:List Bool} (h:Sq c sp) (hx:m75 FF c held=some (sp,0)):m57 FF c held=some (some ⟨sdv sp⟩,0):=by
 have hml:=h.ml;have hle:=h.le;unfold m57;rw [hx,ob_];dsimp only;have:=Nn h FF 0 om_ uF;rw [n0,KE] at this;rw [zf_,cf_,this];rfl
theorem BH {held:List Bool} {e:Int} {sp:Space} (hx:m75 FF c held=some (sp,e)) (he:e≠0):m57 FF c held=some (none,e):=by
 unfold m57;rw [hx,ob_];dsimp only;rw [show (e != 0)=true by simpa using he,ct_]
theorem frs_sb {s t:Ac} (hs:s.Ends.length<=6):(∀ x∈frs s t,Sb_ x)/\(frs s t).length<=6:=by
 constructor
 ·intro x hx;unfold frs at hx;obtain ⟨i,hi,he⟩:=J0.1 hx;unfold frE at he;split at he
  ·obtain rfl:=Option.some.inj he;have:=GZ.1 hi;constructor
   ·show 0<=(i:Int);omega
   ·show (i:Int)<=1000;omega
  ·cases he
 ·have:=Bq (g:=frE s t) (n:=s.Ends.length);unfold frs;omega
theorem Za (h:Sq c sp) {i to:Int} (h0:0<=i) (h1:i < sp.States.length):(∀ x∈lab sp i to,Sb_ x)/\(lab sp i to).length<=6:=by
 obtain ⟨_,m1⟩:=Pr (sp:=sp) h0 h1;have f1:=(h.fit _ m1).e;have f3:=h.bd.a';exact frs_sb om_
end
end Go.Pn
namespace Go.Pn
open Go
inductive Sc (sp:Space) (S:Int->Prop):Int->Prop
 | base {i:Int}:S i->Sc sp S i
 | step {i j:Int} {mv:List Int}:Sc sp S i->idx sp.Moves i=some mv->j∈mv->lab sp i j=[]->Sc sp S j
theorem Sc.bind {sp:Space} {S T:Int->Prop} (h:∀ i,S i->Sc sp T i):∀ {i:Int},Sc sp S i->Sc sp T i:=by
 intro i hi
 induction hi with
 | base h1=>exact h _ h1
 | step _ h2 h3 h4 ih=>exact .step ih h2 h3 h4
def mkd (a:List Bool) (i:Int):Prop:=idx a i=some true
theorem Sh {a:List Bool} {v i:Int} (h0:0<=v) (h:v < a.length):mkd (a.set v.toNat true) i↔i=v\/mkd a i:=by
 unfold mkd idx;by_cases hi:0<=i
 ·rw [if_pos hi,if_pos hi];by_cases e:i=v
  ·subst e;rw [HF om_];simp
  ·rw [HT om_];simp [e]
 ·rw [if_neg hi,if_neg hi];constructor
  ·intro h;cases h
  ·rintro (h | h)
   ·omega
   ·cases h
def unm (a:List Bool):Nat:=a.count false
theorem Xd:∀ {a:List Bool} {v:Nat},a[v]?=some false->unm (a.set v true) + 1=unm a
 | [],_,h=>by simp at h
 | b :: a,0,h=>by
  obtain rfl:b=false:=by simpa using h
  simp [unm]
 | b :: a,v + 1,h=>by
  have:=Xd (a:=a) (v:=v) (by simpa using h);unfold unm at this ⊢;rw [List.set_cons_succ,List.count_cons,List.count_cons];omega
structure Vs (sp:Space) (S:Int->Prop) (a b:List Bool):Prop where
 len:b.length=a.length
 un:unm b<=unm a
 up:∀ i,mkd a i->mkd b i
 so:∀ i,mkd b i->mkd a i\/Sc sp S i
 cl:∀ i,mkd b i->mkd a i\/∀ mv j,idx sp.Moves i=some mv->j∈mv->lab sp i j=[]->mkd b j
theorem Vs.refl {sp:Space} {S:Int->Prop} {a:List Bool}:Vs sp S a a:=⟨rfl,G0 _,λ_ h=>h,λ_ h=>.inl h,λ_ h=>.inl h⟩
theorem Vs.trans {sp:Space} {S:Int->Prop} {a b c:List Bool} (h:Vs sp S a b) (k:Vs sp S b c):Vs sp S a c where
 len:=k.len.trans h.len
 un:=HB k.un h.un
 up:=λi hi=>k.up i (h.up i hi)
 so:=λi hi=>(k.so i hi).elim (h.so i) .inr
 cl:=λi hi=>(k.cl i hi).elim (λh1=>(h.cl i h1).imp id λh2 mv j h3 h4 h5=>k.up j (h2 mv j h3 h4 h5)) .inr
theorem Vs.mono {sp:Space} {S T:Int->Prop} {a b:List Bool} (h:Vs sp S a b) (hs:∀ i,S i->Sc sp T i):Vs sp T a b:=
 ⟨h.len,h.un,h.up,λi hi=>(h.so i hi).imp id λh1=>h1.bind hs,h.cl⟩
section
variable {c:Aa} {sp:Space}
theorem ED (h:Sq c sp):∀ (u f:Nat) (v:Int) (a:List Bool),0<=v->v < sp.States.length->a.length=sp.States.length->unm a<=u->u + 40<=f ->
  ∃ b,m95 f v (some ⟨sdv sp⟩) a (some ⟨sdv sp⟩)=some b/\Vs sp (·=v) a b/\mkd b v:=by
 intro u
 induction u with
 | zero=>
  intro f v a h0 h1 ha hu hf;obtain ⟨f,rfl⟩:∃ g,f=g + 1:=⟨f - 1,by omega⟩;obtain ⟨x,hx,hm⟩:=Cm (xs:=a) h0 om_;have:x=true:=by
   cases x with
   | true=>rfl
   | false=>
    exfalso;have:0 < a.count false:=LL.2 hm;unfold unm at hu;omega
  subst this;refine ⟨a,?_,Vs.refl,hx⟩;rw [m95,hx,ob_,ct_]
 | succ u ih=>
  intro f v a h0 h1 ha hu hf;obtain ⟨f,rfl⟩:∃ g,f=g + 1:=⟨f - 1,by omega⟩;obtain ⟨x,hx,hm⟩:=Cm (xs:=a) h0 om_;cases x with
  | true=>
   refine ⟨a,?_,Vs.refl,hx⟩;rw [m95,hx,ob_,ct_]
  | false=>
   have hml:=h.ml;have hv:v=((v.toNat:Nat):Int):=by omega
   have hg:sp.Moves[v.toNat]?=some (sp.Moves[v.toNat]'om_):=gE_ om_;generalize hmv:sp.Moves[v.toNat]'om_=mv at hg;obtain ⟨h22,hr⟩:=h.rows _ (GP hg);have hx':a[v.toNat]?=some false:=by
    unfold idx at hx;rw [if_pos h0] at hx;exact hx
   have hu1:=Xd hx'
   -- the loop
   have loop:∀ (n k:Nat) (b:List Bool),k<=mv.length->mv.length - k < n->b.length=sp.States.length->unm b<=u ->
     ∃ b',Ql (m95 f) (some ⟨sdv sp⟩) (Mh sp v mv) n ((k:Int),b)=some ((mv.length:Int),b')/\Vs sp (λj=>j∈mv/\lab sp v j=[]) b b'/\∀ j∈mv.drop k,lab sp v j=[]->mkd b' j:=by
    intro n
    induction n with
    | zero=>intro k b _ hn;omega
    | succ n ihn=>
     intro k b hk hn hb hub;have hrl:(Mh sp v mv).length=mv.length:=by simp [Mh]
     rw [Ql];dsimp only;by_cases hlt:k < mv.length
     ·have hrk:(Mh sp v mv)[k]?=some ⟨lab sp v mv[k],mv[k]⟩:=by
       unfold Mh;rw [GU,gE_ hlt];rfl
      obtain ⟨r1,r2⟩:=hr mv[k] (GF _);rw [hrl,Ao,dt_ hlt,ct_,Am,hrk,ob_];dsimp only;by_cases hs:lab sp v mv[k]=[]
      ·obtain ⟨b1,e1,v1,k1⟩:=ih f mv[k] b r1 r2 hb hub om_;obtain ⟨b2,e2,v2,k2⟩:=ihn (k + 1) b1 om_ om_ (v1.len.trans hb) (HB v1.un hub);refine ⟨b2,?_,(v1.mono λi hi=>.base (by subst hi;exact ⟨List.getElem_mem _,hs⟩)).trans v2,λj hj hl=>?_⟩
       ·rw [hs,show (((([]:List Ab).length:Int)) == 0)=true from rfl,ct_,e1,ob_,ob_,Aq om_,e2]
       ·rw [GE hlt] at hj;rcases GJ.1 hj with rfl | hj
        ·exact v2.up _ k1
        ·exact k2 j hj hl
      ·obtain ⟨b2,e2,v2,k2⟩:=ihn (k + 1) b om_ om_ hb hub;refine ⟨b2,?_,v2,λj hj hl=>?_⟩
       ·have:(((lab sp v mv[k]).length:Int) == 0)=false:=by
         cases hq:lab sp v mv[k] with
         | nil=>exact (hs hq).elim
         | cons y ys=>simp;omega
        rw [this,cf_,ob_,Aq om_,e2]
       ·rw [GE hlt] at hj;rcases GJ.1 hj with rfl | hj
        ·exact (hs hl).elim
        ·exact k2 j hj hl
     ·obtain rfl:k=mv.length:=by omega
      rw [hrl,Ao,df_ om_,cf_];exact ⟨b,rfl,Vs.refl,λj hj=>by rw [G6] at hj;simp at hj⟩
   obtain ⟨b,e1,v1,k1⟩:=loop f 0 (a.set v.toNat true) om_ om_ (by simp;exact ha) om_;have hmk:∀ i,mkd (a.set v.toNat true) i↔i=v\/mkd a i:=λi=>Sh h0 om_;have hidx:idx (sdv sp) v=some (Mh sp v mv):=by
    have:=Xe hg;rw [← hv] at this;rw [hv,Am,← hv];exact this
   have hmvi:∀ mv',idx sp.Moves v=some mv'->mv'=mv:=λmv' hm'=>by
    rw [hv,Am,hg] at hm';exact (Option.some.inj hm').symm
   refine ⟨b,?_,⟨v1.len.trans smp_,by have:=v1.un;omega,λi hi=>v1.up i ((hmk i).2 (.inr hi)),λi hi=>?_,λi hi=>?_⟩,v1.up v ((hmk v).2 (.inl rfl))⟩
   ·have e1:Ql (m95 f) (some ⟨sdv sp⟩) (Mh sp v mv) f ((0:Int),a.set v.toNat true)=some ((mv.length:Int),b):=e1;rw [m95,hx,ob_,cf_,ob_,ob_];dsimp only;rw [hidx,ob_,e1];rfl
   ·rcases v1.so i hi with h2 | h2
    ·rcases (hmk i).1 h2 with rfl | h3
     ·exact .inr (.base rfl)
     ·exact .inl h3
    ·refine .inr (h2.bind λj hj=>?_);have:idx sp.Moves v=some mv:=by rw [hv,Am];exact hg
     exact .step (.base rfl) this hj.1 hj.2
   ·rcases v1.cl i hi with h2 | h2
    ·rcases (hmk i).1 h2 with rfl | h3
     ·refine .inr λmv' j hm' hj hl=>?_;rw [hmvi mv' hm'] at hj;exact k1 j (by rw [GL];exact hj) hl
     ·exact .inl h3
    ·exact .inr h2
end
end Go.Pn
namespace Go.Pn
open Go
theorem coll {L:Nat->Int×List Int->Option (Int×List Int)} {b:List Bool} (hl:b.length<=1000)
  (hL:∀ n z,L (n + 1) z=(bif decide (z.1 < (b.length:Int)) then (idx b z.1).bind λx=>(bif x then (app z.2 ([z.1]:List Int)).bind λy=>some y else some z.2).bind λz'=>L n ((wr (z.1 + 1)),z') else some (z.1,z.2))) :
  ∃ l,L FF ((0:Int),[])=some ((b.length:Int),l)/\Cs l (mkd b):=by
 obtain ⟨v,hv,hh⟩:=Qe (L:=L) (mk:=λi (v:List Int)=>((i:Int),v)) (N:=b.length) (I:=λi v=>v.length<=i/\Cs v λx=>mkd b x/\x < (i:Int)) (λn i v hi hI=>by
  obtain ⟨h1,h2⟩:=hI;have hg:b[i]?=some b[i]:=gE_ hi;rw [hL];dsimp only;rw [Ao,dt_ hi,ct_,Am,hg,ob_,Aq om_];have hm:mkd b (i:Int)↔b[i]=true:=by unfold mkd;rw [Am,hg];simp
  cases hb:b[i] with
  | true=>
   rw [ct_,Az so_,ob_,ob_];refine ⟨_,⟨by simp;omega,?_⟩,rfl⟩;refine (h2.snoc (y:=(i:Int)) λx hx=>hx.2).iff λx=>⟨λhx=>?_,λhx=>?_⟩
   ·rcases hx with hx | rfl
    ·exact ⟨hx.1,by omega⟩
    ·exact ⟨hm.2 hb,by omega⟩
   ·by_cases e:x=i
    ·exact .inr e
    ·exact .inl ⟨hx.1,by omega⟩
  | false=>
   rw [cf_,ob_];refine ⟨_,⟨by omega,h2.iff λx=>⟨λhx=>⟨hx.1,by omega⟩,λhx=>⟨hx.1,?_⟩⟩⟩,rfl⟩;have:x≠i:=λe=>by rw [e,hm,hb] at hx;cases hx.1
   omega) (λn v _=>by
  rw [hL];dsimp only;rw [Ao,df_ om_,cf_]) FF 0 [] om_ uF ⟨by simp,Cs.nil λx hx=>by
   obtain ⟨h1,h2⟩:=hx;unfold mkd idx at h1;split at h1
   ·omega
   ·cases h1⟩
 refine ⟨v,hh,hv.2.iff λx=>⟨λhx=>hx.1,λhx=>⟨hx,?_⟩⟩⟩;unfold mkd idx at hx;split at hx
 ·have:=(GG.1 hx).1;omega
 ·cases hx
theorem Sj {n:Nat} {i:Int}:¬ mkd (List.replicate n false) i:=by
 unfold mkd idx;split
 ·rw [JY];split <;> simp
 ·simp
section
variable {c:Aa} {sp:Space}
theorem Nj (h:Sq c sp) {l:List Int} (hl:∀ i∈l,0<=i/\i < sp.States.length) (hll:l.length<=10000):∀ (n k:Nat) (a:List Bool),k<=l.length->l.length - k < n->a.length=sp.States.length ->
  ∃ b,Qr FF (some ⟨sdv sp⟩) l n ((k:Int),a)=some ((l.length:Int),b)/\Vs sp (·∈l) a b/\∀ i∈l.drop k,mkd b i
 | 0,_,_,_,h,_=>by omega
 | n + 1,k,a,hk,hn,ha=>by
  rw [Qr];dsimp only;by_cases hlt:k < l.length
  ·obtain ⟨r1,r2⟩:=hl l[k] (GF _);have hle:=h.le;obtain ⟨b1,e1,v1,k1⟩:=ED h a.length FF l[k] a r1 r2 ha (by unfold unm;exact KO) uF;obtain ⟨b2,e2,v2,k2⟩:=Nj h hl hll n (k + 1) b1 om_ om_ (v1.len.trans ha);refine ⟨b2,?_,(v1.mono λi hi=>.base (by subst hi;exact GF _)).trans v2,λi hi=>?_⟩
   ·rw [Ao,dt_ hlt,ct_,Am,gE_ hlt,ob_,e1,ob_,Aq om_,e2]
   ·rw [GE hlt] at hi;rcases GJ.1 hi with rfl | hi
    ·exact v2.up _ k1
    ·exact k2 i hi
  ·obtain rfl:k=l.length:=by omega
   rw [Ao,df_ om_,cf_];exact ⟨a,rfl,Vs.refl,λi hi=>by rw [G6] at hi;simp at hi⟩
theorem Yp (h:Sq c sp) {l:List Int} (hl:∀ i∈l,0<=i/\i < sp.States.length) (hll:l.length<=10000):∃ r,m66 FF (some ⟨sdv sp⟩) l=some r/\Cs r (Sc sp (·∈l)):=by
 have hml:=h.ml;have hle:=h.le;have hsl:(sdv sp).length=sp.States.length:=by rw [Ry,hml]
 obtain ⟨b,e1,v1,k1⟩:=Nj h hl hll FF 0 (List.replicate sp.States.length false) om_ uF smp_;have hbl:b.length=sp.States.length:=by rw [v1.len];simp
 obtain ⟨r,e2,hr⟩:=coll (L:=Ux ((l.length:Int),b)) (b:=b) om_ (λn z=>by rw [Ux]);refine ⟨r,?_,hr.iff λx=>⟨λhx=>?_,λhx=>?_⟩⟩
 ·unfold m66;rw [ob_];dsimp only;have hm:mks false (((sdv sp).length:Int))=some (List.replicate sp.States.length false):=by
   rw [hsl];unfold mks;rw [if_pos ⟨by omega,by omega⟩,G3]
  have e1:Qr FF (some ⟨sdv sp⟩) l FF ((0:Int),List.replicate sp.States.length false)=some ((l.length:Int),b):=e1;rw [hm,ob_,e1,ob_,e2];rfl
 ·exact (v1.so x hx).elim (λh1=>(Sj h1).elim) id
 ·induction hx with
  | base h1=>exact k1 _ (by rw [GL];exact h1)
  | step _ h2 h3 h4 ih=>exact (v1.cl _ ih).elim (λh1=>(Sj h1).elim) λh1=>h1 _ _ h2 h3 h4
end
end Go.Pn
namespace Go.Pn
open Go
structure Ps (sp:Space) (a b:List Bool) (m m':Bool):Prop where
 len:b.length=a.length
 un:unm b<=unm a
 up:∀ i,mkd a i->mkd b i
 so:∀ i,mkd b i->Sc sp (mkd a) i
 no:m'=false->m=false/\b=a
 ye:m'=true->m=true\/unm b < unm a
theorem Ps.refl {sp:Space} {a:List Bool} {m:Bool}:Ps sp a a m m:=⟨rfl,G0 _,λ_ h=>h,λ_ h=>.base h,λh=>⟨h,rfl⟩,λh=>.inl h⟩
theorem Ps.trans {sp:Space} {a b c:List Bool} {m m' m'':Bool} (h:Ps sp a b m m') (k:Ps sp b c m' m''):Ps sp a c m m'' where
 len:=k.len.trans h.len
 un:=HB k.un h.un
 up:=λi hi=>k.up i (h.up i hi)
 so:=λi hi=>(k.so i hi).bind h.so
 no:=λe=>by
  obtain ⟨e1,e2⟩:=k.no e;obtain ⟨e3,e4⟩:=h.no e1;exact ⟨e3,e2.trans e4⟩
 ye:=λe=>by
  rcases k.ye e with h1 | h1
  ·rcases h.ye h1 with h2 | h2
   ·exact .inl h2
   ·have:=k.un;exact .inr om_
  ·have:=h.un;exact .inr om_
section
variable {c:Aa} {sp:Space}
theorem Nb (h:Sq c sp) {i:Nat} {mv:List Int} {z:Bool×Int×List Bool} (hz:z.2.1=(i:Int)) (hi:sp.Moves[i]?=some mv):∀ (n k:Nat) (m:Bool) (a:List Bool),k<=mv.length->mv.length - k < n->a.length=sp.States.length->mkd a i ->
  ∃ m' b,Dr sp z (mv.map (lab sp i)) n (m,(k:Int),a)=some (m',(mv.length:Int),b)/\Ps sp a b m m'/\∀ j∈mv.drop k,lab sp i j=[]->mkd b j
 | 0,_,_,_,_,h,_,_=>by omega
 | n + 1,k,m,a,hk,hn,ha,hm=>by
  obtain ⟨h22,hr⟩:=h.rows mv (GP hi);have hml:=h.ml;have hle:=h.le;rw [Dr];dsimp only;rw [hz,HQ];by_cases hlt:k < mv.length
  ·obtain ⟨r1,r2⟩:=hr mv[k] (GF _);obtain ⟨x,hx,hxm⟩:=Cm (xs:=a) r1 om_;have hlk:(mv.map (lab sp i))[k]?=some (lab sp i mv[k]):=by rw [GU,gE_ hlt];rfl
   rw [Ao,dt_ hlt,ct_,Am,hi,ob_,Am,gE_ hlt,ob_,Am,hlk,ob_,Aq om_];have goon:∀ (m1:Bool) (a1:List Bool),Ps sp a a1 m m1->(lab sp i mv[k]=[]->mkd a1 mv[k])->∃ m' b,Dr sp z (mv.map (lab sp i)) n (m1,((k + 1:Nat):Int),a1)=some (m',(mv.length:Int),b)/\Ps sp a b m m'/\∀ j∈mv.drop k,lab sp i j=[]->mkd b j:=by
    intro m1 a1 p1 q1;obtain ⟨m',b,e2,p2,q2⟩:=Nb h hz hi n (k + 1) m1 a1 om_ om_ (p1.len.trans ha) (p1.up _ hm);refine ⟨m',b,e2,p1.trans p2,λj hj hl=>?_⟩;rw [GE hlt] at hj;rcases GJ.1 hj with rfl | hj
    ·exact p2.up _ (q1 hl)
    ·exact q2 j hj hl
   by_cases hs:lab sp i mv[k]=[]
   ·rw [hs,show (((([]:List Ab).length:Int)) == 0)=true from rfl,ct_,hx,ob_,ob_];cases x with
    | true=>
     rw [HS,cf_,ob_];exact goon m a Ps.refl λ_=>hx
    | false=>
     rw [H0,ct_,ob_,ob_];have hx':a[mv[k].toNat]?=some false:=by
      unfold idx at hx;rw [if_pos r1] at hx;exact hx
     have hu:=Xd hx';have hmk:∀ y,mkd (a.set mv[k].toNat true) y↔y=mv[k]\/mkd a y:=λy=>Sh r1 om_;refine goon true (a.set mv[k].toNat true) ⟨by simp,by omega,λy hy=>(hmk y).2 (.inr hy),λy hy=>?_,λe=>(by cases e),λ_=>.inr om_⟩ λ_=>(hmk _).2 (.inl rfl);rcases (hmk y).1 hy with rfl | hy
     ·exact .step (.base hm) (by rw [Am];exact hi) (GF _) hs
     ·exact .base hy
   ·have:(((lab sp i mv[k]).length:Int) == 0)=false:=by
     cases hq:lab sp i mv[k] with
     | nil=>exact (hs hq).elim
     | cons y ys=>simp;omega
    rw [this,cf_,ob_,cf_,ob_];exact goon m a Ps.refl λe=>(hs e).elim
  ·obtain rfl:k=mv.length:=by omega
   rw [Ao,df_ om_,cf_];exact ⟨m,a,rfl,Ps.refl,λj hj=>by rw [G6] at hj;simp at hj⟩
def Cld (sp:Space) (a:List Bool) (i:Int):Prop:=mkd a i->∀ mv j,idx sp.Moves i=some mv->j∈mv->lab sp i j=[]->mkd a j
theorem Gj (h:Sq c sp):∀ (n i:Nat) (m:Bool) (a:List Bool),i<=sp.States.length->sp.States.length - i < n->a.length=sp.States.length ->
  ∃ m' b,Dt FF sp n (m,(i:Int),a)=some (m',(sp.States.length:Int),b)/\Ps sp a b m m'/\(m'=false->∀ j:Nat,i<=j->j < sp.States.length->Cld sp a j)
 | 0,_,_,_,_,h,_=>by omega
 | n + 1,i,m,a,hi,hn,ha=>by
  have hml:=h.ml;have hle:=h.le;rw [Dt];dsimp only;by_cases hlt:i < sp.States.length
  ·have hg:sp.Moves[i]?=some (sp.Moves[i]'om_):=gE_ om_;generalize sp.Moves[i]'om_=mv at hg;obtain ⟨h22,_⟩:=h.rows mv (GP hg);have hx:a[i]?=some (a[i]'om_):=gE_ om_;rw [Ao,dt_ hlt,ct_,Am,hx,ob_];cases hb:a[i]'om_ with
   | false=>
    rw [H0,ct_,Aq om_];obtain ⟨m',b,e2,p2,q2⟩:=Gj h n (i + 1) m a om_ om_ ha;refine ⟨m',b,e2,p2,λe j hj hjl=>?_⟩;rcases KA hj with rfl | hj
    ·intro hm;unfold mkd at hm;rw [Am,hx,hb] at hm;cases hm
    ·exact q2 e j hj hjl
   | true=>
    rw [HS,cf_,So h hg,ob_];have hm:mkd a (i:Int):=by unfold mkd;rw [Am,hx,hb]
    obtain ⟨m1,b1,e1,p1,q1⟩:=Nb (z:=(m,(i:Int),a)) h rfl hg FF 0 m a om_ uF ha hm;have e1:Dr sp (m,(i:Int),a) (mv.map (lab sp i)) FF (m,(0:Int),a)=some (m1,(mv.length:Int),b1):=e1;rw [e1,ob_,Aq om_];dsimp only;obtain ⟨m',b,e2,p2,q2⟩:=Gj h n (i + 1) m1 b1 om_ om_ (p1.len.trans ha);refine ⟨m',b,e2,p1.trans p2,λe j hj hjl=>?_⟩;obtain ⟨x1,x2⟩:=p2.no e;obtain ⟨x3,x4⟩:=p1.no x1;rcases KA hj with rfl | hj
    ·intro _ mv' y hm' hy hl;rw [Am,hg] at hm';obtain rfl:=Option.some.inj hm';have:=q1 y (by rw [GL];exact hy) hl;rw [x4] at this;exact this
    ·have:=q2 e j hj hjl;rw [x4] at this;exact this
  ·obtain rfl:i=sp.States.length:=by omega
   rw [Ao,df_ om_,cf_];exact ⟨m,a,rfl,Ps.refl,λ_ j hj hjl=>by omega⟩
theorem cld_all {a:List Bool} (ha:a.length=sp.States.length) (h:∀ j:Nat,j < sp.States.length->Cld sp a j):∀ i,Cld sp a i:=by
 intro i hm;have hm':=hm;unfold mkd idx at hm;split at hm
 ·rename_i h0;have h1:=(GG.1 hm).1;obtain ⟨n,rfl⟩:=K2 h0;exact h n (by simp at h1;omega) hm'
 ·cases hm
theorem Nc (h:Sq c sp):∀ (n k:Nat) (m:Bool) (a:List Bool),k<=sp.States.length->sp.States.length - k < n->a.length=sp.States.length ->
  (m=false->∀ i,Cld sp a i)->(m=true->unm a + k + 1<=sp.States.length\/∀ i,¬ mkd a i) ->
  ∃ (z:Bool×Int) (b:List Bool),Fe FF sp n (m,(k:Int),a)=some (z.1,z.2,b)/\b.length=a.length/\(∀ i,mkd a i->mkd b i)/\(∀ i,mkd b i->Sc sp (mkd a) i)/\∀ i,Cld sp b i
 | 0,_,_,_,_,h,_,_,_=>by omega
 | n + 1,k,m,a,hk,hn,ha,hf,ht=>by
  have hml:=h.ml;have hle:=h.le;have stop:(∀ i,Cld sp a i)->∃ (z:Bool×Int) (b:List Bool),some (m,(k:Int),a)=some (z.1,z.2,b)/\b.length=a.length/\(∀ i,mkd a i->mkd b i)/\(∀ i,mkd b i->Sc sp (mkd a) i)/\∀ i,Cld sp b i:=
   λhc=>⟨(m,(k:Int)),a,rfl,rfl,λ_ h=>h,λ_ h=>.base h,hc⟩
  rw [Fe];dsimp only;cases m with
  | false=>
   rw [KW,cf_];exact stop (hf rfl)
  | true=>
   by_cases hlt:k < sp.States.length
   ·rw [Ao,dt_ hlt,HJ,ct_];obtain ⟨m',b,e1,p1,q1⟩:=Gj h FF 0 false a om_ uF ha;have e1:Dt FF sp FF (false,(0:Int),a)=some (m',(sp.States.length:Int),b):=e1;rw [e1,ob_,Aq om_];dsimp only;obtain ⟨z,b2,e2,l2,u2,s2,c2⟩:=Nc h n (k + 1) m' b om_ om_ (p1.len.trans ha) (λe=>by
     have:=(p1.no e).2;rw [this];exact cld_all ha λj hj=>q1 e j (H8 _) hj) (λe=>by
     rcases p1.ye e with h1 | h1
     ·cases h1
     ·rcases ht rfl with h2 | h2
      ·exact .inl om_
      ·refine .inr λi hi=>?_;have:=p1.so i hi;clear hi
       induction this with
       | base h3=>exact h2 _ h3
       | step _ _ _ _ ih=>exact ih)
    exact ⟨z,b2,e2,l2.trans p1.len,λi hi=>u2 i (p1.up i hi),λi hi=>(s2 i hi).bind p1.so,c2⟩
   ·rw [Ao,df_ hlt,HW,cf_];refine stop λi hi=>?_;rcases ht rfl with h2 | h2
    ·omega
    ·exact (h2 i hi).elim
theorem Yh (h:Sq c sp) {a:List Bool} (ha:a.length=sp.States.length):∃ r b,AH FF sp a=some (r,b)/\Cs r (Sc sp (mkd a)):=by
 have hml:=h.ml;have hle:=h.le;have hu:(∀ i,¬ mkd a i)\/unm a + 1<=sp.States.length:=by
  by_cases hc:a.count false=a.length
  ·left;intro i hi;have hall:=List.count_eq_length.1 hc;have:=hall true (Lg hi);cases this
  ·right;have:=KO (a:=false) (l:=a);unfold unm;omega
 obtain ⟨z,b,e1,l1,u1,s1,c1⟩:=Nc h FF 0 true a om_ uF ha (λe=>by cases e) (λ_=>hu.elim .inr λh1=>.inl om_);obtain ⟨r,e2,hr⟩:=coll (L:=Hw (z.1,z.2,b)) (b:=b) om_ (λn z=>by rw [Hw]);have e1:Fe FF sp FF (true,(0:Int),a)=some (z.1,z.2,b):=e1;refine ⟨r,b,?_,hr.iff λx=>⟨s1 x,λhx=>?_⟩⟩
 ·unfold AH;rw [e1,ob_,e2];rfl
 ·induction hx with
  | base h1=>exact u1 _ h1
  | step _ h2 h3 h4 ih=>exact c1 _ ih _ _ h2 h3 h4
end
end Go.Pn
namespace Go.Pn
open Go
section
variable {c:Aa} {sp:Space}
theorem Sc.iff {S T:Int->Prop} (h:∀ i,S i↔T i) (i:Int):Sc sp S i↔Sc sp T i:=
 ⟨λk=>k.bind λj hj=>.base ((h j).1 hj),λk=>k.bind λj hj=>.base ((h j).2 hj)⟩
theorem Sc.rng (h:Sq c sp) {S:Int->Prop} (hS:∀ i,S i->0<=i/\i < sp.States.length) {i:Int} (hi:Sc sp S i):0<=i/\i < sp.States.length:=by
 induction hi with
 | base h1=>exact hS _ h1
 | step _ h2 h3 _ _=>exact (h.rows _ (Lg h2)).2 _ h3
def zF (sp:Space):List Int:=(m53 FF sp).getD []
theorem Jy (h:Sq c sp):m53 FF sp=some (zF sp)/\m66 FF (some ⟨sdv sp⟩) [(0:Int)]=some (zF sp)/\Cs (zF sp) (Sc sp (·=0)):=by
 have hpos:=h.pos;have hle:=h.le;have hm:∀ i,mkd ((List.replicate sp.States.length false).set (0:Int).toNat true) i↔i=0:=λi=>by
  rw [Sh om_ so_];exact ⟨λe=>e.elim id λe=>(Sj e).elim,.inl⟩
 obtain ⟨r,b,e1,hr⟩:=Yh (a:=(List.replicate sp.States.length false).set (0:Int).toNat true) h smp_;have e2:m53 FF sp=some r:=by
  unfold m53;rw [Eg om_,ob_];have:idx (List.replicate sp.States.length false) (0:Int)=some false:=by
   rw [← n0,Am,JY,if_pos hpos]
  rw [this,ob_,e1];rfl
 have hz:zF sp=r:=by unfold zF;rw [e2];rfl
 rw [hz];have hr':Cs r (Sc sp (·=0)):=hr.iff λi=>Sc.iff hm i;obtain ⟨r2,e3,hr2⟩:=Yp h (l:=[(0:Int)]) (λi hi=>by
  obtain rfl:i=0:=by simpa using hi
  omega) smp_
 have:r2=r:=(hr2.iff λi=>Sc.iff (λj=>by simp) i).eq hr';exact ⟨e2,by rw [e3,this],hr'⟩
def Bh (sp:Space) (front:List Int) (l:List Ab) (j:Int):Prop:=∃ i∈front,∃ mv,idx sp.Moves i=some mv/\j∈mv/\l≠[]/\lab sp i j=l
theorem Bh.rng (h:Sq c sp) {front:List Int} {l:List Ab} {j:Int} (hj:Bh sp front l j):0<=j/\j < sp.States.length:=by
 obtain ⟨i,_,mv,h1,h2,_⟩:=hj;exact (h.rows _ (Lg h1)).2 _ h2
theorem Gp (h:Sq c sp) {front:List Int} {l:List Ab} {z:Int×List Bool} {i:Int} {mv:List Int} (hq:idx front z.1=some i) (hi:idx sp.Moves i=some mv):∀ (n k:Nat) (a:List Bool),k<=mv.length->mv.length - k < n->a.length=sp.States.length ->
  ∃ b,Qw FF sp front l z (mv.map (lab sp i)) n ((k:Int),a)=some ((mv.length:Int),b)/\b.length=a.length/\∀ y,mkd b y↔mkd a y\/(y∈mv.drop k/\l≠[]/\lab sp i y=l)
 | 0,_,_,_,h,_=>by omega
 | n + 1,k,a,hk,hn,ha=>by
  obtain ⟨h22,hr⟩:=h.rows mv (Lg hi);have hml:=h.ml;have hle:=h.le;have hi0:0<=i/\i < sp.Moves.length:=by
   have hi':=hi;unfold idx at hi';split at hi'
   ·rename_i h0;have:=(GG.1 hi').1;omega
   ·cases hi'
  rw [Qw];dsimp only;rw [HQ];by_cases hlt:k < mv.length
  ·obtain ⟨r1,r2⟩:=hr mv[k] (GF _);obtain ⟨x,hx,hxm⟩:=Cm (xs:=a) r1 om_;have hlk:(mv.map (lab sp i))[k]?=some (lab sp i mv[k]):=by rw [GU,gE_ hlt];rfl
   obtain ⟨_,l6⟩:=Za h (i:=i) (to:=mv[k]) hi0.1 om_;rw [Ao,dt_ hlt,ct_,Aq om_,Am,hlk];have hd:mv.drop k=mv[k] :: mv.drop (k + 1):=GE hlt;by_cases hc:l≠[]/\lab sp i mv[k]=l
   ·obtain ⟨c1,c2⟩:=hc;have hl0:decide ((l.length:Int) > 0)=true:=by
     cases l with
     | nil=>exact (c1 rfl).elim
     | cons y ys=>simp
    rw [hl0,ct_,ob_,Mn om_,ob_,ob_,c2,Ax.2 rfl,show (Xb 0 == 0)=true from rfl,ct_,hq,ob_,hi,ob_,Am,gE_ hlt,ob_,hx,ob_,ob_];obtain ⟨b,e2,l2,q2⟩:=Gp h hq hi n (k + 1) (a.set mv[k].toNat true) om_ om_ (by simpa using ha);refine ⟨b,e2,by rw [l2];simp,λy=>?_⟩;rw [q2,Sh r1 om_,hd];constructor
    ·rintro ((rfl | h1) | ⟨h1,h2⟩)
     ·exact .inr ⟨List.mem_cons_self ..,c1,c2⟩
     ·exact .inl h1
     ·exact .inr ⟨List.mem_cons_of_mem _ h1,h2⟩
    ·rintro (h1 | ⟨h1,h2⟩)
     ·exact .inl (.inr h1)
     ·rcases GJ.1 h1 with rfl | h1
      ·exact .inl (.inl rfl)
      ·exact .inr ⟨h1,h2⟩
   ·have ht:(bif (decide ((l.length:Int) > 0)) then (some (lab sp i mv[k])).bind λx9=>(m68 FF x9 l).bind λx10=>some (x10 == 0) else some false)=some false:=by
     cases hl:l with
     | nil=>rfl
     | cons y ys=>
      rw [show decide ((((y :: ys).length:Nat):Int) > 0)=true by simp,ct_,ob_,Mn om_,ob_];congr 1;have:lab sp i mv[k]≠y :: ys:=λe=>hc ⟨by rw [hl];simp,by rw [e,hl]⟩;simp only [beq_eq_false_iff_ne,ne_eq,Xx,Ax];exact this
    rw [ht,ob_,cf_,ob_];obtain ⟨b,e2,l2,q2⟩:=Gp h hq hi n (k + 1) a om_ om_ ha;refine ⟨b,e2,l2,λy=>?_⟩;rw [q2,hd];constructor
    ·rintro (h1 | ⟨h1,h2⟩)
     ·exact .inl h1
     ·exact .inr ⟨List.mem_cons_of_mem _ h1,h2⟩
    ·rintro (h1 | ⟨h1,h2⟩)
     ·exact .inl h1
     ·rcases GJ.1 h1 with rfl | h1
      ·exact (hc h2).elim
      ·exact .inr ⟨h1,h2⟩
  ·obtain rfl:k=mv.length:=by omega
   rw [Ao,df_ om_,cf_];exact ⟨a,rfl,rfl,λy=>by rw [G6];simp⟩
theorem Np (h:Sq c sp) {front:List Int} {l:List Ab} (hf:∀ i∈front,0<=i/\i < sp.States.length) (hfl:front.length<=10000):∀ (n k:Nat) (a:List Bool),k<=front.length->front.length - k < n->a.length=sp.States.length ->
  ∃ b,Qx FF sp front l n ((k:Int),a)=some ((front.length:Int),b)/\b.length=a.length/\∀ y,mkd b y↔mkd a y\/Bh sp (front.drop k) l y
 | 0,_,_,_,h,_=>by omega
 | n + 1,k,a,hk,hn,ha=>by
  have hml:=h.ml;have hle:=h.le;rw [Qx];dsimp only;by_cases hlt:k < front.length
  ·obtain ⟨r1,r2⟩:=hf front[k] (GF _);have hg:sp.Moves[front[k].toNat]?=some (sp.Moves[front[k].toNat]'om_):=gE_ om_;generalize sp.Moves[front[k].toNat]'om_=mv at hg;have hfk:front[k]=((front[k].toNat:Nat):Int):=by omega
   have hi:idx sp.Moves front[k]=some mv:=by rw [hfk,Am];exact hg
   have h85:=So h hg;rw [← hfk] at h85;have hq:idx front (k:Int)=some front[k]:=by rw [Am,gE_ hlt]
   obtain ⟨h22,_⟩:=h.rows mv (Lg hi);obtain ⟨b1,e1,l1,q1⟩:=Gp (z:=((k:Int),a)) (l:=l) h hq hi FF 0 a om_ uF ha;have e1:Qw FF sp front l ((k:Int),a) (mv.map (lab sp front[k])) FF ((0:Int),a)=some ((mv.length:Int),b1):=e1;rw [Ao,dt_ hlt,ct_,hq,ob_,h85,ob_,e1,ob_,Aq om_];obtain ⟨b2,e2,l2,q2⟩:=Np h hf hfl n (k + 1) b1 om_ om_ (l1.trans ha);refine ⟨b2,e2,l2.trans l1,λy=>?_⟩;rw [q2,q1,GL,GE hlt];constructor
   ·rintro ((h1 | ⟨h1,h2⟩) | ⟨i,h1,h2⟩)
    ·exact .inl h1
    ·exact .inr ⟨_,GT ..,mv,hi,h1,h2⟩
    ·exact .inr ⟨i,GS _ h1,h2⟩
   ·rintro (h1 | ⟨i,h1,mv',h2,h3⟩)
    ·exact .inl (.inl h1)
    ·rcases GJ.1 h1 with rfl | h1
     ·rw [hi] at h2;obtain rfl:=Option.some.inj h2;exact .inl (.inr h3)
     ·exact .inr ⟨i,h1,mv',h2,h3⟩
  ·obtain rfl:k=front.length:=by omega
   rw [Ao,df_ om_,cf_];refine ⟨a,rfl,rfl,λy=>⟨.inl,λe=>e.elim id ?_⟩⟩;rw [G6];rintro ⟨i,h1,_⟩;simp at h1
def bF (sp:Space) (front:List Int) (l:List Ab):List Int:=(m55 FF sp front l).getD []
theorem Lj (h:Sq c sp) {front:List Int} {l:List Ab} (hf:∀ i∈front,0<=i/\i < sp.States.length) (hfl:front.length<=10000):m55 FF sp front l=some (bF sp front l)/\Cs (bF sp front l) (Sc sp (Bh sp front l)):=by
 have hle:=h.le;obtain ⟨b,e1,l1,q1⟩:=Np (l:=l) h hf hfl FF 0 (List.replicate sp.States.length false) om_ uF smp_;obtain ⟨r,b2,e2,hr⟩:=Yh (a:=b) h (by rw [l1];simp);have e1:Qx FF sp front l FF ((0:Int),List.replicate sp.States.length false)=some ((front.length:Int),b):=e1;have e3:m55 FF sp front l=some r:=by
  unfold m55;rw [Eg om_,ob_,e1,ob_,e2];rfl
 have hz:bF sp front l=r:=by unfold bF;rw [e3];rfl
 rw [hz];refine ⟨e3,hr.iff λi=>Sc.iff (λj=>?_) i⟩;rw [q1,GL];exact ⟨λe=>e.elim (λe=>(Sj e).elim) id,.inr⟩
end
end Go.Pn
namespace Go.Pn
open Go
def EqL (l:List Ab):Prop:=∀ a:List Ab,(∀ s∈a,Sb_ s)->a.length<=6->∃ r,m60 FF a l=some r/\(r=0↔a=l)
theorem EqL.of {l:List Ab} (h:∀ s∈l,Sb_ s):EqL l:=λa ha hl=>⟨_,Mo ha h om_,Ax⟩
section
variable {c:Aa} {sp:Space}
theorem C7 (h:Sq c sp) {i:Int} (h0:0<=i) (h1:i < sp.States.length):∃ mv,idx sp.Moves i=some mv/\sp.Moves[i.toNat]?=some mv/\idx (sdv sp) i=some (Mh sp i mv)/\mv.length<=22/\∀ k∈mv,0<=k/\k < sp.States.length:=by
 have hml:=h.ml;have hg:sp.Moves[i.toNat]?=some (sp.Moves[i.toNat]'om_):=gE_ om_;generalize sp.Moves[i.toNat]'om_=mv at hg;have hi:i=((i.toNat:Nat):Int):=by omega
 obtain ⟨h22,hr⟩:=h.rows mv (GP hg);refine ⟨mv,by rw [hi,Am];exact hg,hg,?_,h22,hr⟩;have:=Xe hg;rw [← hi] at this;rw [hi,Am,← hi];exact this
theorem Gk (h:Sq c sp) {l:List Ab} (hE:EqL l) {i:Int} {mv:List Int} (h0:0<=i/\i < sp.States.length) (hr:mv.length<=22/\∀ k∈mv,0<=k/\k < sp.States.length) {x5:Ak}:∀ (n k:Nat) (out:List Int),k<=mv.length->mv.length - k < n->out.length + (mv.length - k)<=1000000 ->
  ∃ o,Qp FF l x5 (Mh sp i mv) n ((k:Int),out)=some ((mv.length:Int),out ++ o)/\o.length<=mv.length - k/\∀ y,y∈o↔(y∈mv.drop k/\l≠[]/\lab sp i y=l)
 | 0,_,_,_,h,_=>by omega
 | n + 1,k,out,hk,hn,ho=>by
  have hrl:(Mh sp i mv).length=mv.length:=by simp [Mh]
  rw [Qp];dsimp only;rw [hrl];by_cases hlt:k < mv.length
  ·have hrk:(Mh sp i mv)[k]?=some ⟨lab sp i mv[k],mv[k]⟩:=by
    unfold Mh;rw [GU,gE_ hlt];rfl
   obtain ⟨l5,l6⟩:=Za h (i:=i) (to:=mv[k]) h0.1 h0.2;obtain ⟨r,e1,e2⟩:=hE _ l5 l6;have hd:mv.drop k=mv[k] :: mv.drop (k + 1):=GE hlt;rw [Ao,dt_ hlt,ct_,Aq om_,Am,hrk,ob_];dsimp only;rw [e1];by_cases hc:l≠[]/\lab sp i mv[k]=l
   ·obtain ⟨c1,c2⟩:=hc;have hl0:decide ((l.length:Int) > 0)=true:=by
     cases l with
     | nil=>exact (c1 rfl).elim
     | cons y ys=>simp
    rw [hl0,ct_,ob_,e2.2 c2,show ((0:Int) == 0)=true from rfl,ob_,ct_,Az so_,ob_,ob_];obtain ⟨o,e3,l3,q3⟩:=Gk h hE h0 hr (x5:=x5) n (k + 1) (out ++ [mv[k]]) om_ om_ (by
     simp;omega)
    refine ⟨mv[k] :: o,by rw [e3,G2];rfl,by simp;omega,λy=>?_⟩;rw [hd,GJ,GJ,q3];constructor
    ·rintro (rfl | ⟨h1,h2⟩)
     ·exact ⟨.inl rfl,c1,c2⟩
     ·exact ⟨.inr h1,h2⟩
    ·rintro ⟨rfl | h1,h2⟩
     ·exact .inl rfl
     ·exact .inr ⟨h1,h2⟩
   ·have ht:(bif (decide ((l.length:Int) > 0)) then (some r).bind λx11=>some (x11 == 0) else some false)=some false:=by
     cases hl:l with
     | nil=>rfl
     | cons y ys=>
      rw [show decide ((((y :: ys).length:Nat):Int) > 0)=true by simp,ct_,ob_];congr 1;have:r≠0:=λe=>hc ⟨by rw [hl];simp,e2.1 e⟩;simpa using this
    rw [ht,ob_,cf_,ob_];obtain ⟨o,e3,l3,q3⟩:=Gk h hE h0 hr (x5:=x5) n (k + 1) out om_ om_ om_;refine ⟨o,e3,by omega,λy=>?_⟩;rw [hd,q3,GJ];constructor
    ·rintro ⟨h1,h2⟩;exact ⟨.inr h1,h2⟩
    ·rintro ⟨rfl | h1,h2⟩
     ·exact (hc h2).elim
     ·exact ⟨h1,h2⟩
  ·obtain rfl:k=mv.length:=by omega
   rw [Ao,df_ om_,cf_];exact ⟨[],by simp,by simp,λy=>by rw [G6];simp⟩
theorem Ni (h:Sq c sp) {l:List Ab} (hE:EqL l) {front:List Int} (hf:∀ i∈front,0<=i/\i < sp.States.length) (hfl:front.length<=400):∀ (n k:Nat) (out:List Int),k<=front.length->front.length - k < n->out.length<=22 * k ->
  ∃ o,Qq FF (some ⟨sdv sp⟩) front l n ((k:Int),out)=some ((front.length:Int),out ++ o)/\o.length<=22 * (front.length - k)/\∀ y,y∈o↔Bh sp (front.drop k) l y
 | 0,_,_,_,h,_=>by omega
 | n + 1,k,out,hk,hn,ho=>by
  rw [Qq];dsimp only;by_cases hlt:k < front.length
  ·obtain ⟨r1,r2⟩:=hf front[k] (GF _);obtain ⟨mv,m1,m2,m3,m4,m5⟩:=C7 h r1 r2;obtain ⟨o1,e1,l1,q1⟩:=Gk h hE ⟨r1,r2⟩ ⟨m4,m5⟩ (x5:=⟨sdv sp⟩) FF 0 out om_ uF om_;have e1:Qp FF l ⟨sdv sp⟩ (Mh sp front[k] mv) FF ((0:Int),out)=some ((mv.length:Int),out ++ o1):=e1;obtain ⟨o2,e2,l2,q2⟩:=Ni h hE hf hfl n (k + 1) (out ++ o1) om_ om_ so_;rw [Ao,dt_ hlt,ct_,Am,gE_ hlt,ob_,ob_,m3,ob_,e1,ob_,Aq om_];refine ⟨o1 ++ o2,by rw [e2,G2],by simp;omega,λy=>?_⟩;rw [GN,q1,q2,GL,GE hlt];constructor
   ·rintro (h1 | ⟨i,h1,h2⟩)
    ·exact ⟨_,GT ..,mv,m1,h1⟩
    ·exact ⟨i,GS _ h1,h2⟩
   ·rintro ⟨i,h1,mv',h2,h3⟩;rcases GJ.1 h1 with rfl | h1
    ·rw [m1] at h2;obtain rfl:=Option.some.inj h2;exact .inl h3
    ·exact .inr ⟨i,h1,mv',h2,h3⟩
  ·obtain rfl:k=front.length:=by omega
   rw [Ao,df_ om_,cf_];refine ⟨[],by simp,by simp,λy=>?_⟩;rw [G6];constructor
   ·intro h1;simp at h1
   ·rintro ⟨i,h1,_⟩;simp at h1
theorem Yo (h:Sq c sp) {l:List Ab} (hE:EqL l) {front:List Int} (hf:∀ i∈front,0<=i/\i < sp.States.length) (hfl:front.length<=400):m67 FF (some ⟨sdv sp⟩) front l=some (bF sp front l):=by
 obtain ⟨o,e1,l1,q1⟩:=Ni h hE hf hfl FF 0 [] om_ uF smp_;have e1:Qq FF (some ⟨sdv sp⟩) front l FF ((0:Int),[])=some ((front.length:Int),o):=e1;rw [GL] at q1;obtain ⟨r,e2,hr⟩:=Yp h (l:=o) (λi hi=>((q1 i).1 hi).rng h) om_;have:r=bF sp front l:=(hr.iff λi=>Sc.iff q1 i).eq (Lj (l:=l) h hf om_).2;unfold m67;rw [e1,ob_,e2,this];rfl
end
end Go.Pn
namespace Go.Pn
open Go Go.Sort Go.Proofs
section
variable {c:Aa} {sp:Space}
def Nxt_ (sp:Space) (front:List Int) (x:List Ab):Prop:=∃ i∈front,∃ mv,idx sp.Moves i=some mv/\∃ j∈mv,x=lab sp i j/\x≠[]
theorem Nxt_.sb (h:Sq c sp) {front:List Int} (hf:∀ i∈front,0<=i/\i < sp.States.length) {x:List Ab} (hx:Nxt_ sp front x):(∀ s∈x,Sb_ s)/\x.length<=6:=by
 obtain ⟨i,hi,mv,_,j,_,rfl,_⟩:=hx;exact Za h (hf i hi).1 (hf i hi).2
theorem Gm {x5:Ak} {i:Int} {mv:List Int} (hm:mv.length<=1000):∀ (n k:Nat) (out:List (List Ab)),k<=mv.length->mv.length - k < n->out.length + (mv.length - k)<=1000000 ->
  ∃ o,Qu x5 (Mh sp i mv) n ((k:Int),out)=some ((mv.length:Int),out ++ o)/\o.length<=mv.length - k/\∀ y,y∈o↔∃ j∈mv.drop k,y=lab sp i j/\y≠[]
 | 0,_,_,_,h,_=>by omega
 | n + 1,k,out,hk,hn,ho=>by
  have hrl:(Mh sp i mv).length=mv.length:=by simp [Mh]
  rw [Qu];dsimp only;rw [hrl];by_cases hlt:k < mv.length
  ·have hrk:(Mh sp i mv)[k]?=some ⟨lab sp i mv[k],mv[k]⟩:=by
    unfold Mh;rw [GU,gE_ hlt];rfl
   have hd:mv.drop k=mv[k] :: mv.drop (k + 1):=GE hlt;rw [Ao,dt_ hlt,ct_,Aq om_,Am,hrk,ob_];dsimp only;by_cases hc:lab sp i mv[k]=[]
   ·obtain ⟨o,e3,l3,q3⟩:=Gm (x5:=x5) (i:=i) hm n (k + 1) out om_ om_ om_;rw [hc,show decide ((([]:List Ab).length:Int) > 0)=false from rfl,cf_,ob_];refine ⟨o,e3,by omega,λy=>?_⟩;rw [q3,hd];constructor
    ·rintro ⟨j,h1,h2⟩;exact ⟨j,GS _ h1,h2⟩
    ·rintro ⟨j,h1,h2,h3⟩;rcases GJ.1 h1 with rfl | h1
     ·exact (h3 (h2.trans hc)).elim
     ·exact ⟨j,h1,h2,h3⟩
   ·have hl0:decide (((lab sp i mv[k]).length:Int) > 0)=true:=by
     cases hq:lab sp i mv[k] with
     | nil=>exact (hc hq).elim
     | cons y ys=>simp
    obtain ⟨o,e3,l3,q3⟩:=Gm (x5:=x5) (i:=i) hm n (k + 1) (out ++ [lab sp i mv[k]]) om_ om_ so_;rw [hl0,ct_,Az so_,ob_,ob_];refine ⟨lab sp i mv[k] :: o,by rw [e3,G2];rfl,by simp;omega,λy=>?_⟩;rw [hd,GJ,q3];constructor
    ·rintro (rfl | ⟨j,h1,h2⟩)
     ·exact ⟨_,GT ..,rfl,hc⟩
     ·exact ⟨j,GS _ h1,h2⟩
    ·rintro ⟨j,h1,h2,h3⟩;rcases GJ.1 h1 with rfl | h1
     ·exact .inl h2
     ·exact .inr ⟨j,h1,h2,h3⟩
  ·obtain rfl:k=mv.length:=by omega
   rw [Ao,df_ om_,cf_];exact ⟨[],by simp,by simp,λy=>by rw [G6];simp⟩
theorem Gn (h:Sq c sp) {front:List Int} (hf:∀ i∈front,0<=i/\i < sp.States.length) (hfl:front.length<=400):∀ (n k:Nat) (out:List (List Ab)),k<=front.length->front.length - k < n->out.length<=22 * k ->
  ∃ o,Nl FF (some ⟨sdv sp⟩) front n ((k:Int),out)=some ((front.length:Int),out ++ o)/\o.length<=22 * (front.length - k)/\∀ y,y∈o↔Nxt_ sp (front.drop k) y
 | 0,_,_,_,h,_=>by omega
 | n + 1,k,out,hk,hn,ho=>by
  rw [Nl];dsimp only;by_cases hlt:k < front.length
  ·obtain ⟨r1,r2⟩:=hf front[k] (GF _);obtain ⟨mv,m1,m2,m3,m4,m5⟩:=C7 h r1 r2;obtain ⟨o1,e1,l1,q1⟩:=Gm (sp:=sp) (x5:=⟨sdv sp⟩) (i:=front[k]) (mv:=mv) om_ FF 0 out om_ uF om_;have e1:Qu ⟨sdv sp⟩ (Mh sp front[k] mv) FF ((0:Int),out)=some ((mv.length:Int),out ++ o1):=e1;obtain ⟨o2,e2,l2,q2⟩:=Gn h hf hfl n (k + 1) (out ++ o1) om_ om_ so_;rw [Ao,dt_ hlt,ct_,Am,gE_ hlt,ob_,ob_,m3,ob_,e1,ob_,Aq om_];refine ⟨o1 ++ o2,by rw [e2,G2],by simp;omega,λy=>?_⟩;rw [GN,q1,q2,GL,GE hlt];constructor
   ·rintro (⟨j,h1,h2⟩ | ⟨i,h1,h2⟩)
    ·exact ⟨_,GT ..,mv,m1,j,h1,h2⟩
    ·exact ⟨i,GS _ h1,h2⟩
   ·rintro ⟨i,h1,mv',h2,h3⟩;rcases GJ.1 h1 with rfl | h1
    ·rw [m1] at h2;obtain rfl:=Option.some.inj h2;exact .inl h3
    ·exact .inr ⟨i,h1,mv',h2,h3⟩
  ·obtain rfl:k=front.length:=by omega
   rw [Ao,df_ om_,cf_];refine ⟨[],by simp,by simp,λy=>?_⟩;rw [G6];constructor
   ·intro h1;simp at h1
   ·rintro ⟨i,h1,_⟩;simp at h1
def nF (sp:Space) (front:List Int):List (List Ab):=(m58 FF (some ⟨sdv sp⟩) front).getD []
theorem Gi (h:Sq c sp) {front:List Int} (hf:∀ i∈front,0<=i/\i < sp.States.length) (hfl:front.length<=400):m58 FF (some ⟨sdv sp⟩) front=some (nF sp front)/\(nF sp front).Pairwise lL/\∀ x,x∈nF sp front↔Nxt_ sp front x:=by
 obtain ⟨o,e1,l1,q1⟩:=Gn h hf hfl FF 0 [] om_ uF smp_;have e1:Nl FF (some ⟨sdv sp⟩) front FF ((0:Int),[])=some ((front.length:Int),o):=e1;rw [GL] at q1;have hs:∀ x∈o,(∀ s∈x,Sb_ s)/\x.length<=10000:=λx hx=>by
  obtain ⟨h1,h2⟩:=((q1 x).1 hx).sb h hf;exact ⟨h1,by omega⟩
 have e2:=EO hs om_;have e3:=EN (v:=Mf (ltOf lcs) o) (λx hx=>hs x ((Db o).mem_iff.1 hx)) (by rw [Dc];omega);have e4:m58 FF (some ⟨sdv sp⟩) front=some (nub o):=by
  unfold m58;rw [e1,ob_,e2,ob_,e3];rfl
 have hz:nF sp front=nub o:=by unfold nF;rw [e4];rfl
 rw [hz];exact ⟨e4,FK,λx=>BB.trans (q1 x)⟩
theorem Nq {z1:Int×List (List Ab)} {x4:Int} {x5:List (List Ab)} {z6:Int×List (List Ab)} {x:List Ab} (hx:idx x5 z6.1=some x) (hl:∀ y∈z6.2,y.length<=10000) (hll:z6.2.length<=1000000):∀ (n p:Nat),p<=z6.2.length->z6.2.length - p < n->(∀ j (h:j < z6.2.length),j < p->lL z6.2[j] x) ->
  ∃ q:Nat,Qy FF z1 x4 x5 z6 n (p:Int)=some (q:Int)/\q<=z6.2.length/\(∀ j (h:j < z6.2.length),j < q->lL z6.2[j] x)/\∀ h:q < z6.2.length,¬ lL z6.2[q] x
 | 0,_,_,h,_=>by omega
 | n + 1,p,hp,hn,hb=>by
  rw [Qy];by_cases hlt:p < z6.2.length
  ·rw [Ao,dt_ hlt,ct_,Am,gE_ hlt,ob_,hx,ob_,Mn (hl _ (GF _)),ob_,ob_];by_cases hc:lL z6.2[p] x
   ·have:decide (Xb (lcs z6.2[p] x) < 0)=true:=dt_ (A3.2 hc);rw [this,ct_,Aq om_];refine Nq hx hl hll n (p + 1) om_ om_ λj h1 h2=>?_;rcases LN (Nat.le_of_lt_succ h2) with h3 | rfl
    ·exact hb j h1 h3
    ·exact hc
   ·have:decide (Xb (lcs z6.2[p] x) < 0)=false:=df_ λe=>hc (A3.1 e);rw [this,cf_];exact ⟨p,rfl,hp,hb,λ_=>hc⟩
  ·rw [Ao,df_ hlt,cf_,ob_,cf_];exact ⟨p,rfl,hp,hb,λh=>(hlt h).elim⟩
theorem ins_pw {out:List (List Ab)} {x:List Ab} {q:Nat} (ho:out.Pairwise lL) (hq:q<=out.length) (hb:∀ j (h:j < out.length),j < q->lL out[j] x) (hn:∀ h:q < out.length,¬ lL out[q] x/\out[q]≠x):(out.take q ++ (x :: out.drop q)).Pairwise lL:=by
 have h1:∀ y∈out.drop q,lL x y:=λy hy=>by
  obtain ⟨j,hj⟩:=JX hy;rw [J8] at hj;obtain ⟨hl,rfl⟩:=GG.1 hj;obtain ⟨n1,n2⟩:=hn om_;have h2:lL x out[q]:=by
   rcases Gc.tot out[q] x with e | e | e
   ·exact (n2 e).elim
   ·exact (n1 e).elim
   ·exact e
  rcases J9 j with rfl | hj0
  ·exact h2
  ·exact Gc.tr _ _ _ h2 (JR.1 ho q (q + j) om_ hl om_)
 have h2:∀ y∈out.take q,lL y x:=λy hy=>by
  obtain ⟨j,hj⟩:=JX hy;rw [J1] at hj;split at hj
  ·obtain ⟨hl,rfl⟩:=GG.1 hj;exact hb j hl om_
  ·cases hj
 refine JW.2 ⟨ho.sublist (List.take_sublist ..),HL.2 ⟨h1,ho.sublist (List.drop_sublist ..)⟩,λa ha b hb'=>?_⟩;rcases GJ.1 hb' with rfl | hb'
 ·exact h2 a ha
 ·exact Gc.tr _ _ _ (h2 a ha) (h1 b hb')
end
end Go.Pn
namespace Go.Pn
open Go Go.Sort Go.Proofs
section
variable {c:Aa} {sp:Space}
theorem EW {α:Type} {xs:List α} {q:Nat} (h:q<=xs.length):lsl xs 0 (q:Int)=some (xs.take q):=by
 unfold lsl;rw [if_pos ⟨by omega,by omega,by omega⟩];simp
theorem EX {α:Type} {xs:List α} {q:Nat} (h:q<=xs.length):lsl xs (q:Int) (xs.length:Int)=some (xs.drop q):=by
 unfold lsl;rw [if_pos ⟨by omega,by omega,by omega⟩,G3,G3,HE smp_]
theorem Gq {z1:Int×List (List Ab)} {x4:Int} {i:Int} {mv:List Int} (hm:mv.length<=1000) (hL:∀ j∈mv,(lab sp i j).length<=6):∀ (n k:Nat) (out:List (List Ab)),k<=mv.length->mv.length - k < n->out.length + (mv.length - k)<=90000->out.Pairwise lL->(∀ y∈out,y.length<=6) ->
  ∃ o,Lt FF z1 x4 (mv.map (lab sp i)) n ((k:Int),out)=some ((mv.length:Int),o)/\o.length<=out.length + (mv.length - k)/\o.Pairwise lL/\(∀ y∈o,y.length<=6)/\∀ y,y∈o↔y∈out\/∃ j∈mv.drop k,y=lab sp i j/\y≠[]
 | 0,_,_,_,h,_,_,_=>by omega
 | n + 1,k,out,hk,hn,ho,hpw,hlen=>by
  rw [Lt];dsimp only;rw [HQ];by_cases hlt:k < mv.length
  ·have hlk:(mv.map (lab sp i))[k]?=some (lab sp i mv[k]):=by rw [GU,gE_ hlt];rfl
   have hd:mv.drop k=mv[k] :: mv.drop (k + 1):=GE hlt;rw [Ao,dt_ hlt,ct_,Aq om_,Am,hlk,ob_];by_cases hc:lab sp i mv[k]=[]
   ·obtain ⟨o,e3,l3,p3,b3,q3⟩:=Gq (z1:=z1) (x4:=x4) hm hL n (k + 1) out om_ om_ om_ hpw hlen;rw [hc,show (((([]:List Ab).length:Int)) == 0)=true from rfl,ct_];refine ⟨o,e3,by omega,p3,b3,λy=>?_⟩;rw [q3,hd];constructor
    ·rintro (h1 | ⟨j,h1,h2⟩)
     ·exact .inl h1
     ·exact .inr ⟨j,GS _ h1,h2⟩
    ·rintro (h1 | ⟨j,h1,h2,h3⟩)
     ·exact .inl h1
     ·rcases GJ.1 h1 with rfl | h1
      ·exact (h3 (h2.trans hc)).elim
      ·exact .inr ⟨j,h1,h2,h3⟩
   ·have hl0:(((lab sp i mv[k]).length:Int) == 0)=false:=by
     cases hq:lab sp i mv[k] with
     | nil=>exact (hc hq).elim
     | cons y ys=>simp;omega
    have h6:(lab sp i mv[k]).length<=6:=hL _ (GF _);generalize hx:lab sp i mv[k]=x at hl0 hlk hc h6;obtain ⟨q,e1,hq,hb,hnl⟩:=Nq (z1:=z1) (x4:=x4) (x5:=mv.map (lab sp i)) (z6:=((k:Int),out)) (x:=x) (by rw [Am];exact hlk) (λy hy=>by have:=hlen y hy;omega) (by show out.length<=_;omega) FF 0 om_ (by show out.length - 0 < _;unfold FF;omega) (λj _ h=>by omega);have e1:Qy FF z1 x4 (mv.map (lab sp i)) ((k:Int),out) FF (0:Int)=some (q:Int):=e1;have hq:q<=out.length:=hq;rw [hl0,cf_,e1,ob_];have goon:∀ (o1:List (List Ab)),o1.Pairwise lL->o1.length<=out.length + 1->(∀ y,y∈o1↔y∈out\/y=x)->∃ o,Lt FF z1 x4 (mv.map (lab sp i)) n (((k + 1:Nat):Int),o1)=some ((mv.length:Int),o)/\o.length<=out.length + (mv.length - k)/\o.Pairwise lL/\(∀ y∈o,y.length<=6)/\∀ y,y∈o↔y∈out\/∃ j∈mv.drop k,y=lab sp i j/\y≠[]:=by
     intro o1 p1 l1 q1;obtain ⟨o,e3,l3,p3,b3,q3⟩:=Gq (z1:=z1) (x4:=x4) hm hL n (k + 1) o1 om_ om_ om_ p1 (λy hy=>by
      rcases (q1 y).1 hy with h1 | rfl
      ·exact hlen y h1
      ·exact h6)
     refine ⟨o,e3,by omega,p3,b3,λy=>?_⟩;rw [q3,q1,hd];constructor
     ·rintro ((h1 | rfl) | ⟨j,h1,h2⟩)
      ·exact .inl h1
      ·exact .inr ⟨_,GT ..,hx.symm,hc⟩
      ·exact .inr ⟨j,GS _ h1,h2⟩
     ·rintro (h1 | ⟨j,h1,h2,h3⟩)
      ·exact .inl (.inl h1)
      ·rcases GJ.1 h1 with rfl | h1
       ·exact .inl (.inr (h2.trans hx))
       ·exact .inr ⟨j,h1,h2,h3⟩
    have hnew:(q=out.length\/∃ h:q < out.length,out[q]≠x)->(out.take q ++ (x :: out.drop q)).Pairwise lL/\∀ y,y∈out.take q ++ (x :: out.drop q)↔y∈out\/y=x:=by
     intro hcase;refine ⟨ins_pw hpw hq hb λh=>⟨hnl h,?_⟩,λy=>?_⟩
     ·rcases hcase with rfl | ⟨_,h1⟩
      ·omega
      ·exact h1
     ·have:y∈out↔y∈out.take q\/y∈out.drop q:=by rw [← GN,K6]
      rw [GN,GJ,this];constructor
      ·rintro (h1 | rfl | h1)
       ·exact .inl (.inl h1)
       ·exact .inr rfl
       ·exact .inl (.inr h1)
      ·rintro ((h1 | h1) | rfl)
       ·exact .inl h1
       ·exact .inr (.inr h1)
       ·exact .inr (.inl rfl)
    have put:(bif true then (lsl out 0 (q:Int)).bind λx20=>(some x).bind λx21=>(lsl out (q:Int) (out.length:Int)).bind λx23=>(app ([x21]:List (List Ab)) x23).bind λx24=>(appn x20 x24).bind λx26=>some x26 else some out)=some (out.take q ++ (x :: out.drop q)):=by
     rw [ct_,EW hq,ob_,ob_,EX hq,ob_,Az so_,ob_];show (app _ _).bind _=_;rw [Az so_];rfl
    by_cases hql:q=out.length
    ·rw [show ((q:Int) == (out.length:Int))=true by rw [hql];simp,ct_,ob_,put,ob_];obtain ⟨h1,h2⟩:=hnew (.inl hql);exact goon _ h1 so_ h2
    ·have hqlt:q < out.length:=by omega
     rw [show ((q:Int) == (out.length:Int))=false by simp;omega,cf_,Am,gE_ hqlt,ob_,ob_,Mn (by have:=hlen _ (GF hqlt);omega),ob_,ob_];by_cases he:out[q]=x
     ·rw [show (Xb (lcs out[q] x) != 0)=false by rw [he,Ax.2 rfl];rfl,cf_,ob_];exact goon out hpw om_ λy=>⟨.inl,λe=>e.elim id λe=>by rw [e,← he];exact GF hqlt⟩
     ·have:(Xb (lcs out[q] x) != 0)=true:=by
       rw [bne_iff_ne];intro e;rw [Xx,Ax] at e;exact he e
      rw [this,put,ob_];obtain ⟨h1,h2⟩:=hnew (.inr ⟨hqlt,he⟩);exact goon _ h1 so_ h2
  ·obtain rfl:k=mv.length:=by omega
   rw [Ao,df_ om_,cf_];exact ⟨out,rfl,by omega,hpw,hlen,λy=>by rw [G6];simp⟩
theorem Nr (h:Sq c sp) {front:List Int} (hf:∀ i∈front,0<=i/\i < sp.States.length) (hfl:front.length<=400):∀ (n k:Nat) (out:List (List Ab)),k<=front.length->front.length - k < n->out.length<=22 * k->out.Pairwise lL->(∀ y∈out,y.length<=6) ->
  ∃ o,Qz FF sp front n ((k:Int),out)=some ((front.length:Int),o)/\o.Pairwise lL/\∀ y,y∈o↔y∈out\/Nxt_ sp (front.drop k) y
 | 0,_,_,_,h,_,_,_=>by omega
 | n + 1,k,out,hk,hn,ho,hpw,hlen=>by
  rw [Qz];dsimp only;by_cases hlt:k < front.length
  ·obtain ⟨r1,r2⟩:=hf front[k] (GF _);obtain ⟨mv,m1,m2,m3,m4,m5⟩:=C7 h r1 r2;have h85:=So h m2;rw [show ((front[k].toNat:Nat):Int)=front[k] by omega] at h85;obtain ⟨o1,e1,l1,p1,b1,q1⟩:=Gq (sp:=sp) (z1:=((k:Int),out)) (x4:=front[k]) (i:=front[k]) (mv:=mv) om_ (λj hj=>(Za h r1 r2).2) FF 0 out om_ uF om_ hpw hlen;have e1:Lt FF ((k:Int),out) front[k] (mv.map (lab sp front[k])) FF ((0:Int),out)=some ((mv.length:Int),o1):=e1;obtain ⟨o2,e2,p2,q2⟩:=Nr h hf hfl n (k + 1) o1 om_ om_ om_ p1 b1;rw [Ao,dt_ hlt,ct_,Am,gE_ hlt,ob_,h85,ob_,e1,ob_,Aq om_];refine ⟨o2,e2,p2,λy=>?_⟩;rw [q2,q1,GL,GE hlt];constructor
   ·rintro ((h1 | ⟨j,h1,h2⟩) | ⟨i,h1,h2⟩)
    ·exact .inl h1
    ·exact .inr ⟨_,GT ..,mv,m1,j,h1,h2⟩
    ·exact .inr ⟨i,GS _ h1,h2⟩
   ·rintro (h1 | ⟨i,h1,mv',h2,h3⟩)
    ·exact .inl (.inl h1)
    ·rcases GJ.1 h1 with rfl | h1
     ·rw [m1] at h2;obtain rfl:=Option.some.inj h2;exact .inl (.inr h3)
     ·exact .inr ⟨i,h1,mv',h2,h3⟩
  ·obtain rfl:k=front.length:=by omega
   rw [Ao,df_ om_,cf_];refine ⟨out,rfl,hpw,λy=>⟨.inl,λe=>e.elim id ?_⟩⟩;rw [G6];rintro ⟨i,h1,_⟩;simp at h1
theorem Sv (h:Sq c sp) {front:List Int} (hf:∀ i∈front,0<=i/\i < sp.States.length) (hfl:front.length<=400):m54 FF sp front=some (nF sp front):=by
 obtain ⟨o,e1,p1,q1⟩:=Nr h hf hfl FF 0 [] om_ uF smp_ .nil smp_;have e1:Qz FF sp front FF ((0:Int),[])=some ((front.length:Int),o):=e1;obtain ⟨_,p2,q2⟩:=Gi h hf hfl;have:o=nF sp front:=pw_eq Gc.irr Gc.tr p1 p2 λx=>by
  rw [q1,q2,GL];simp
 unfold m54;rw [e1,this];rfl
end
end Go.Pn
namespace Go.Pn
section
variable {L S:Type} {lt:L->L->Prop} {nx:S->List L} {st:S->L->S} {bad:S->Bool} {s0:S}
end
section
variable {L A B:Type} {lt:L->L->Prop} {na:A->List L} {nb:B->List L} {sa:A->L->A} {sb:B->L->B} {ea:A->Bool} {eb:B->Bool}
def Sd_ (na:A->List L) (sa:A->L->A) (ea:A->Bool):Prop:=∀ s a,a∈na s↔ea (sa s a)=false
@[reducible] def Xt (sa:A->L->A) (sb:B->L->B):A×B->L->A×B:=λs a=>(sa s.1 a,sb s.2 a)
@[reducible] def bdU_ (ea:A->Bool) (eb:B->Bool):A×B->Bool:=λs=>ea s.1 || eb s.2
@[reducible] def nxA_ (na:A->List L):A×B->List L:=λs=>na s.1
@[reducible] def bdB_ (eb:B->Bool):A×B->Bool:=λs=>eb s.2
variable {nu:A×B->List L}
section
variable {s0:A×B} (h0:Ord_ lt) (hA:Sd_ na sa ea) (hB:Sd_ nb sb eb) (hu:∀ s a,a∈nu s↔a∈na s.1\/a∈nb s.2) (hs:bdU_ ea eb s0=false)
include hA hB hu hs
include h0
omit h0
end
end
section
variable {L S:Type} {lt:L->L->Prop} {nx:S->List L} {st:S->L->S} {bad:S->Bool} {s0:S} {l l':List S} {tr tr':List (List L)} {i i':Nat} {done done':List L} {nx':S->List L} {bad':S->Bool}
end
end Go.Pn
namespace Go.Pn
open Go Go.Sort Go.Proofs
structure Fr_ (sp:Space) (l:List Int):Prop where
 pw:l.Pairwise (· < ·)
 rg:∀ i∈l,0<=i/\i < sp.States.length
section
variable {c:Aa} {sp:Space}
theorem Fr_.len (h:Sq c sp) {l:List Int} (k:Fr_ sp l):l.length<=400:=by
 have h1:l.Nodup:=k.pw.imp λhab e=>by omega
 have:=Sg sp.States.length h1 k.rg;have:=h.le;omega
theorem Cs.fr (h:Sq c sp) {l:List Int} {S:Int->Prop} (hS:∀ i,S i->0<=i/\i < sp.States.length) (k:Cs l (Sc sp S)):Fr_ sp l:=⟨k.1,λi hi=>Sc.rng h hS ((k.2 i).1 hi)⟩
theorem zF_fr (h:Sq c sp):Fr_ sp (zF sp):=Cs.fr h (λi hi=>by have:=h.pos;subst hi;omega) (Jy h).2.2
theorem bF_fr (h:Sq c sp) {l:List Int} (k:Fr_ sp l) (a:List Ab):Fr_ sp (bF sp l a):=Cs.fr h (λ_ hi=>hi.rng h) (Lj (l:=a) h k.rg (by have:=k.len h;omega)).2
def FrT (sp:Space):Type:={l:List Int // Fr_ sp l}
def zT (h:Sq c sp):FrT sp:=⟨zF sp,zF_fr h⟩
def bT (h:Sq c sp) (s:FrT sp) (a:List Ab):FrT sp:=⟨bF sp s.1 a,bF_fr h s.2 a⟩
def nT (s:FrT sp):List (List Ab):=nF sp s.1
def eT (s:FrT sp):Bool:=s.1.isEmpty
theorem sd_T (h:Sq c sp):Sd_ (nT (sp:=sp)) (bT h) eT:=by
 intro s a;have h1:=(Gi h s.2.rg (s.2.len h)).2.2 a;have h2:=(Lj (l:=a) h s.2.rg (by have:=s.2.len h;omega)).2;have h3:Nxt_ sp s.1 a↔∃ j,Bh sp s.1 a j:=by
  constructor
  ·rintro ⟨i,hi,mv,hm,j,hj,rfl,hne⟩;exact ⟨j,i,hi,mv,hm,hj,hne,rfl⟩
  ·rintro ⟨j,i,hi,mv,hm,hj,hne,rfl⟩;exact ⟨i,hi,mv,hm,j,hj,rfl,hne⟩
 show a∈nF sp s.1↔(bF sp s.1 a).isEmpty=false;rw [h1,h3];constructor
 ·rintro ⟨j,hj⟩;have:j∈bF sp s.1 a:=(h2.2 j).2 (.base hj);cases hz:bF sp s.1 a with
  | nil=>rw [hz] at this;simp at this
  | cons y ys=>rfl
 ·intro he;cases hz:bF sp s.1 a with
  | nil=>rw [hz] at he;cases he
  | cons y ys=>
   have hy:Sc sp (Bh sp s.1 a) y:=(h2.2 y).1 (by rw [hz];exact GT ..);clear hz he
   induction hy with
   | base h4=>exact ⟨_,h4⟩
   | step _ _ _ _ ih=>exact ih
theorem D8 (h:Sq c sp) {s:FrT sp} {a:List Ab} (ha:a∈nT s):(∀ x∈a,Sb_ x)/\a.length<=6:=((Gi h s.2.rg (s.2.len h)).2.2 a |>.1 ha).sb h s.2.rg
end
section
variable {c d:Aa} {sa sb:Space}
def mT (s:FrT sa×FrT sb):Ae:=⟨s.1.1,s.2.1⟩
theorem mT_inj {s t:FrT sa×FrT sb} (h:mT s=mT t):s=t:=by
 obtain ⟨⟨x,hx⟩,⟨y,hy⟩⟩:=s;obtain ⟨⟨x',hx'⟩,⟨y',hy'⟩⟩:=t;have h:(⟨x,y⟩:Ae)=⟨x',y'⟩:=h;injection h with h1 h2;subst h1 h2;rfl
theorem ER (ha:Sq c sa) (hb:Sq d sb):m36 FF (some ⟨some ⟨sdv sa⟩,some ⟨sdv sb⟩⟩)=some (mT (zT ha,zT hb)):=by
 unfold m36;rw [ob_];dsimp only;rw [(Jy ha).2.1,ob_,ob_];dsimp only;rw [(Jy hb).2.1];rfl
theorem EQ (ha:Sq c sa) (hb:Sq d sb) (s:FrT sa×FrT sb) {a:List Ab} (hE:EqL a):m37 FF (some ⟨some ⟨sdv sa⟩,some ⟨sdv sb⟩⟩) (mT s) a=some (mT (Xt (bT ha) (bT hb) s a)):=by
 unfold m37;rw [ob_];dsimp only;show (m67 FF (some ⟨sdv sa⟩) s.1.1 a).bind _=_;rw [Yo ha hE s.1.2.rg (s.1.2.len ha),ob_,ob_];dsimp only;show (m67 FF (some ⟨sdv sb⟩) s.2.1 a).bind _=_;rw [Yo hb hE s.2.2.rg (s.2.2.len hb)];rfl
end
end Go.Pn
namespace Go.Pn
open Go Go.Sort Go.Proofs
def sm_ (x y:Ae):Bool:=(x.A == y.A) && (x.B == y.B)
def Ml_ (x:Ae):Prop:=x.A.length<=10000/\x.B.length<=10000
theorem Ys {x y:Ae} (h:Ml_ x):m42 FF x y=some (sm_ x y):=by
 have h1:=h.1;have h2:=h.2;unfold m42 sm_;rw [Mm om_ uF,ob_];cases x.A == y.A with
 | false=>rfl
 | true=>
  rw [ct_,Mm om_ uF];rfl
theorem EM {l:List Ae} {y:Ae} (hl:l.length<=10000) (h:Ml_ y):m64 FF l y=some (l.any (sm_ y)):=by
 have e1:=Ub (L:=Uv FF l y) (xs:=l) (p:=λ_ x=>m94 FF x y) (q:=λx=>sm_ y x) (r:=λz=>z) (λn z=>by rw [Uv]) om_ (λi x _=>by
  unfold m94;rw [Ys h];rfl) FF 0 om_ uF
 rw [n0,GL] at e1;unfold m64 m43 m70;rw [e1];rcases Ro (l:=l) (q:=λx=>sm_ y x) with ⟨j,hj,ha⟩ | ⟨hj,ha⟩
 ·rw [hj,ha,ob_];dsimp only;rw [ob_,ob_,dt_ om_]
 ·rw [hj,ha,ob_];rfl
theorem EL {l:List Ae} {y:Ae} (hl:l.length<=10000) (h:∀ x∈l,Ml_ x):∃ r,m65 FF l y=some r/\decide (r>=(0:Int))=l.any (λx=>sm_ x y):=by
 have e1:=Ub (L:=Uy FF l y) (xs:=l) (p:=λ_ x=>some (sm_ x y)) (q:=λx=>sm_ x y) (r:=λz=>z) (λn z=>by
  rw [Uy];cases decide (z < (l.length:Int)) with
  | false=>rfl
  | true=>
   rw [ct_,ct_];cases hx:idx l z with
   | none=>rfl
   | some x=>
    obtain ⟨h1,h2⟩:=h x (Lg hx);rw [ob_,ob_,ob_,Hz om_ uF,ob_];unfold sm_;cases x.A == y.A with
    | false=>rfl
    | true=>
     rw [ct_,ob_,Hz om_ uF,ob_,HJ];rfl) om_ (λi x _=>rfl) FF 0 om_ uF
 rw [n0,GL] at e1;unfold m65;rw [e1];rcases Ro (l:=l) (q:=λx=>sm_ x y) with ⟨j,hj,ha⟩ | ⟨hj,ha⟩
 ·rw [hj,ha];exact ⟨((0 + j:Nat):Int),rfl,dt_ om_⟩
 ·rw [hj,ha];exact ⟨-1,rfl,rfl⟩
section
variable {c d:Aa} {sa sb:Space}
theorem EB (ha:Sq c sa) (hb:Sq d sb) (s:FrT sa×FrT sb):Ml_ (mT s):=by
 have h1:=s.1.2.len ha;have h2:=s.2.2.len hb;exact ⟨by show s.1.1.length<=_;omega,by show s.2.1.length<=_;omega⟩
end
end Go.Pn
namespace Go.Pn
open Go Go.Sort Go.Proofs
section
variable {c d:Aa} {sa sb:Space}
def nxU (v:Bool) (s:FrT sa×FrT sb):List (List Ab):=if v=true then nub (nT s.1 ++ nT s.2) else nT s.1
theorem Zq:∀ l:List (List Ab),(Da l).length<=l.length
 | []=>G0 _
 | [_]=>G0 _
 | a :: b :: l=>by
  have:=Zq (b :: l);rw [Li];split
  ·simp at this ⊢;omega
  ·simp at this ⊢;omega
theorem nub_len (l:List (List Ab)):(nub l).length<=l.length:=by
 unfold nub;have:=Zq (Mf (ltOf lcs) l)
 rwa [Dc] at this
theorem Uo (h:Sq c sa) (s:FrT sa):(nT s).length<=2700:=by
 have hle:=h.le;have h1:s.1.length<=120:=by
  have hn:s.1.Nodup:=s.2.pw.imp λhab e=>by omega
  have:=Sg sa.States.length hn s.2.rg;omega
 obtain ⟨o,e1,l1,q1⟩:=Gn h s.2.rg (s.2.len h) FF 0 [] om_ (by have:=s.2.len h;unfold FF;omega) smp_;have e1:Nl FF (some ⟨sdv sa⟩) s.1 FF ((0:Int),[])=some ((s.1.length:Int),o):=e1;rw [GL] at q1;have hs:∀ x∈o,(∀ s∈x,Sb_ s)/\x.length<=10000:=λx hx=>by
  obtain ⟨h1,h2⟩:=((q1 x).1 hx).sb h s.2.rg;exact ⟨h1,by omega⟩
 have hz:nT s=nub o:=by
  obtain ⟨_,p2,q2⟩:=Gi h s.2.rg (s.2.len h);refine pw_eq Gc.irr Gc.tr p2 FK λx=>?_;show x∈nF sa s.1↔_;rw [q2,BB,q1]
 rw [hz];have:=nub_len o;omega
end
end Go.Pn
namespace Go.Pn
open Go Go.Sort Go.Proofs
section
variable {L A B:Type} {lt:L->L->Prop} {nb:B->List L} {sa:A->L->A} {sb:B->L->B} {ea:A->Bool}
end
section
variable {L S:Type} {lt:L->L->Prop} {nx:S->List L} {st:S->L->S} {bad:S->Bool} {s0:S} {l:List S} {tr:List (List L)} {i:Nat} {done:List L}
end
section
variable {c d:Aa} {sa sb:Space}
structure Fin_ (ha:Sq c sa) (hb:Sq d sb):Prop where
 u:∀ v,∀ l:List (FrT sa×FrT sb),l.Nodup->(∀ s∈l,∃ t,Tr (nxU v) (Xt (bT ha) (bT hb)) (bdU_ eT eT) (zT ha,zT hb) t s)->l.length<=4000
 a:∀ l:List (FrT sa×FrT sb),l.Nodup->(∀ s∈l,∃ t,Tr (nxA_ nT) (Xt (bT ha) (bT hb)) (bdB_ eT) (zT ha,zT hb) t s)->l.length<=4000
 b:∀ l:List (FrT sb×FrT sa),l.Nodup->(∀ s∈l,∃ t,Tr (nxA_ nT) (Xt (bT hb) (bT ha)) (bdB_ eT) (zT hb,zT ha) t s)->l.length<=4000
end
end Go.Pn
namespace Go.Pn
open Go Go.Sort Go.Proofs
theorem Un {α:Type}:∀ {l P:List α},l.Nodup->(∀ x∈l,x∈P)->l.length<=P.length
 | [],_,_,_=>H8 _
 | x :: l,P,hn,h=>by
  obtain ⟨h1,h2⟩:=List.nodup_cons.1 hn;obtain ⟨p,q,rfl⟩:=List.append_of_mem (h x (GT ..));have:=Un (P:=p ++ q) h2 λy hy=>by
   rcases GN.1 (h y (GS _ hy)) with h3 | h3
   ·exact GX _ h3
   ·rcases GJ.1 h3 with rfl | h3
    ·exact (h1 hy).elim
    ·exact GW _ h3
  simp at this ⊢;omega
section
variable {c d:Aa} {sa sb:Space}
def FE (h:Sq c sa) (L:List (FrT sa)):Prop:=L.length<=61/\zT h∈L/\∀ s∈L,∀ a∈nT s,bT h s a∈L
def emT (sp:Space):FrT sp:=⟨[],.nil,by simp⟩
theorem eT_em {s:FrT sa} (h:eT s=true):s=emT sa:=by
 obtain ⟨l,hl⟩:=s;have h:l.isEmpty=true:=h;cases l with
 | nil=>rfl
 | cons y ys=>cases h
theorem Wy {h:Sq c sa} {L:List (FrT sa)} (hc:FE h L) {s:FrT sa} {a:List Ab} (hs:s∈L ++ [emT sa]) (he:eT s=false):bT h s a∈L ++ [emT sa]:=by
 rcases GN.1 hs with hs | hs
 ·cases hb:eT (bT h s a) with
  | true=>rw [eT_em hb];exact GW _ smp_
  | false=>exact GX _ (hc.2.2 s hs a ((sd_T h s a).2 hb))
 ·obtain rfl:s=emT sa:=by simpa using hs
  cases he
theorem To {h:Sq c sa} {k:Sq d sb} {La:List (FrT sa)} {Lb:List (FrT sb)} (ha:FE h La) (hb:FE k Lb) {l:List (FrT sa×FrT sb)} (hn:l.Nodup) (hl:∀ s∈l,s.1∈La ++ [emT sa]/\s.2∈Lb ++ [emT sb]):l.length<=4000:=by
 have h1:=ha.1;have h2:=hb.1;have:=Un (P:=(La ++ [emT sa]).flatMap λx=>(Lb ++ [emT sb]).map λy=>(x,y)) hn λs hs=>by
  obtain ⟨h3,h4⟩:=hl s hs;exact List.mem_flatMap.2 ⟨s.1,h3,JB.2 ⟨s.2,h4,rfl⟩⟩
 have e:((La ++ [emT sa]).flatMap λx=>(Lb ++ [emT sb]).map λy=>(x,y)).length=(La.length + 1) * (Lb.length + 1):=by
  rw [List.length_flatMap];have h6:∀ (X:List (FrT sa)) (n:Nat),(X.map λ_=>n).sum=X.length * n:=by
   intro X n
   induction X with
   | nil=>simp
   | cons y ys ih=>rw [GR,List.sum_cons,ih,JE,H9];omega
  simp only [HQ,GB,JE,KQ];rw [h6];simp
 have h5:(La.length + 1) * (Lb.length + 1)<=62 * 62:=J6 om_ om_;omega
theorem Zk {ha:Sq c sa} {hb:Sq d sb} {La:List (FrT sa)} {Lb:List (FrT sb)} (ka:FE ha La) (kb:FE hb Lb):Fin_ ha hb:=by
 have step:∀ {sp1 sp2:Space} {c1 c2:Aa} {h1:Sq c1 sp1} {h2:Sq c2 sp2} {L1:List (FrT sp1)} {L2:List (FrT sp2)} (_:FE h1 L1) (_:FE h2 L2) {nx:FrT sp1×FrT sp2->List (List Ab)} {bad:FrT sp1×FrT sp2->Bool}
   (_:∀ s a,a∈nx s->bad s=false->(eT s.1=false\/a∈nT s.1)/\eT s.2=false) (t:List (List Ab)) (s x:FrT sp1×FrT sp2),s.1∈L1 ++ [emT sp1]/\s.2∈L2 ++ [emT sp2]->Tr nx (Xt (bT h1) (bT h2)) bad s t x->x.1∈L1 ++ [emT sp1]/\x.2∈L2 ++ [emT sp2]:=by
  intro sp1 sp2 c1 c2 h1 h2 L1 L2 k1 k2 nx bad hh t
  induction t with
  | nil=>intro s x hs ht;have ht:s=x:=ht;subst ht;exact hs
  | cons a t ih=>
   rintro s x hs ⟨t1,t2,t3⟩;obtain ⟨e1,e2⟩:=hh s a t1 t2;have e1:eT s.1=false:=by
    rcases e1 with e1 | e1
    ·exact e1
    ·cases hq:eT s.1 with
     | false=>rfl
     | true=>
      rw [eT_em hq] at e1;have:=((Gi h1 (emT sp1).2.rg ((emT sp1).2.len h1)).2.2 a).1 e1;obtain ⟨i,hi,_⟩:=this;exact absurd hi (by show ¬ i∈([]:List Int);simp)
   exact ih _ x ⟨Wy k1 hs.1 e1,Wy k2 hs.2 e2⟩ t3
 have hz:(zT ha,zT hb).1∈La ++ [emT sa]/\(zT ha,zT hb).2∈Lb ++ [emT sb]:=⟨List.mem_append_left _ ka.2.1,GX _ kb.2.1⟩;refine ⟨λv l hn hl=>To ka kb hn λs hs=>?_,λl hn hl=>To ka kb hn λs hs=>?_,λl hn hl=>To kb ka hn λs hs=>?_⟩
 ·obtain ⟨t,ht⟩:=hl s hs;refine step ka kb (λs a _ hbd=>?_) t _ _ hz ht;have hbd:(eT s.1 || eT s.2)=false:=hbd;exact ⟨.inl (JO.1 hbd).1,(JO.1 hbd).2⟩
 ·obtain ⟨t,ht⟩:=hl s hs;exact step ka kb (λs a h1 hbd=>⟨.inr h1,hbd⟩) t _ _ hz ht
 ·obtain ⟨t,ht⟩:=hl s hs;exact step kb ka (λs a h1 hbd=>⟨.inr h1,hbd⟩) t _ _ ⟨hz.2,hz.1⟩ ht
end
end Go.Pn
namespace Go.Pn
open Go Go.Sort Go.Proofs
section
variable {c:Aa} {sp:Space}
def fT (l:List (FrT sp)):List (List Int):=l.map λs=>s.1
theorem FU {l:List (FrT sp)} {s:FrT sp}:(fT l).any (λx=>x == s.1)=true↔s∈l:=by
 rw [G5];constructor
 ·rintro ⟨x,hx,h⟩;obtain ⟨t,ht,rfl⟩:=JB.1 hx;have:t=s:=Subtype.ext (eq_of_beq h);rw [← this];exact ht
 ·intro h;exact ⟨s.1,JB.2 ⟨s,h,rfl⟩,by simp⟩
theorem Gu {x1:List Int} {z3:Int×List (List Int)} {z7:Int×List (List Int)} {x11:List Int} (hl:∀ x∈z7.2,x.length<=10000) (hll:z7.2.length<=50000):∀ (n j:Nat) (o:Bool),j<=z7.2.length->z7.2.length - j < n ->
  Ve FF x1 z3 z7 x11 n (o,(j:Int))=some ((o || (z7.2.drop j).any (λx=>x == x11)),(z7.2.length:Int))
 | 0,_,_,_,h=>by omega
 | n + 1,j,o,hj,hn=>by
  rw [Ve];dsimp only;by_cases hlt:j < z7.2.length
  ·have hd:z7.2.drop j=z7.2[j] :: z7.2.drop (j + 1):=GE hlt;have h1:=hl _ (GF hlt);rw [Ao,dt_ hlt,ct_,Aq om_,hd,LE];cases o with
   | true=>
    rw [ct_,ob_,Gu hl hll n (j + 1) true om_ om_];simp
   | false=>
    rw [cf_,Am,gE_ hlt,ob_,Hz om_ uF,ob_,ob_,Gu hl hll n (j + 1) _ om_ om_];simp
  ·obtain rfl:j=z7.2.length:=by omega
   rw [Ao,df_ om_,cf_,G6];simp
theorem Gv (h:Sq c sp) {x1:List Int} {i:Nat} {s:FrT sp} {z3:Int×List (List Int)} (hz:z3.1=(i:Int)):∀ (n k:Nat) (l:List (FrT sp)),k<=(nT s).length->(nT s).length - k < n->l.length + ((nT s).length - k)<=40000->l[i]?=some s ->
  ∃ l',Vg FF sp x1 z3 (nT s) n ((k:Int),fT l)=some (((nT s).length:Int),fT l')/\l <+: l'/\∀ a∈(nT s).drop k,bT h s a∈l'
 | 0,_,_,_,h,_,_=>by omega
 | n + 1,k,l,hk,hn,hb,hs=>by
  rw [Vg];dsimp only;have hnt:=Uo h s;by_cases hlt:k < (nT s).length
  ·have hd:(nT s).drop k=(nT s)[k] :: (nT s).drop (k + 1):=GE hlt;have hls:idx (fT l) (i:Int)=some s.1:=by unfold fT;rw [Am,GU,hs];rfl
   have hfl:(fT l).length=l.length:=by simp [fT]
   have e5:m55 FF sp s.1 (nT s)[k]=some (bT h s (nT s)[k]).1:=(Lj (l:=(nT s)[k]) h s.2.rg (by have:=s.2.len h;omega)).1;have e3:=Gu (x1:=x1) (z3:=z3) (z7:=((k:Int),fT l)) (x11:=(bT h s (nT s)[k]).1) (λx hx=>by
    obtain ⟨t,_,rfl⟩:=JB.1 hx;have:=t.2.len h;omega) (by show (fT l).length<=_;omega) FF 0 false om_ (by show (fT l).length - 0 < _;unfold FF;omega)
   rw [n0,GL,JD] at e3;generalize hy:bT h s (nT s)[k]=y at e5 e3;rw [Ao,dt_ hlt,ct_,hz,hls,ob_,Am,gE_ hlt,ob_,e5,ob_,e3,ob_,Aq om_];dsimp only;by_cases hm:y∈l
   ·rw [FU.2 hm,HS,cf_,ob_];obtain ⟨l',e1,p1,q1⟩:=Gv h (s:=s) (x1:=x1) hz n (k + 1) l om_ om_ om_ hs;refine ⟨l',e1,p1,λa ha=>?_⟩;rw [hd] at ha;rcases GJ.1 ha with rfl | ha
    ·rw [hy];exact p1.subset hm
    ·exact q1 a ha
   ·have hany:(fT l).any (λx=>x == y.1)=false:=by
     cases hq:(fT l).any (λx=>x == y.1) with
     | false=>rfl
     | true=>exact (hm (FU.1 hq)).elim
    have hil:=(GG.1 hs).1;have hmap:fT l ++ [y.1]=fT (l ++ [y]):=by simp [fT]
    rw [hany,H0,ct_,Az so_,ob_,ob_,hmap];obtain ⟨l',e1,p1,q1⟩:=Gv h (s:=s) (x1:=x1) hz n (k + 1) (l ++ [y]) om_ om_ (by rw [GB,List.length_singleton];omega) (by rw [GO hil];exact hs);refine ⟨l',e1,(List.prefix_append l [y]).trans p1,λa ha=>?_⟩;rw [hd] at ha;rcases GJ.1 ha with rfl | ha
    ·rw [hy];exact p1.subset smp_
    ·exact q1 a ha
  ·obtain rfl:k=(nT s).length:=by omega
   rw [Ao,df_ om_,cf_];exact ⟨l,rfl,List.prefix_refl _,λa ha=>by rw [G6] at ha;simp at ha⟩
end
end Go.Pn
namespace Go.Pn
open Go Go.Sort Go.Proofs
section
variable {c:Aa} {sp:Space}
theorem Nw (h:Sq c sp) {x1:List Int}:∀ (n i:Nat) (l:List (FrT sp)),i<=l.length->l.length<=60->61 - i < n->zT h∈l->(∀ (j:Nat) (s:FrT sp),j < i->l[j]?=some s->∀ a∈nT s,bT h s a∈l) ->
  (∃ z,Lv FF sp x1 n ((i:Int),fT l)=some (.brk z)/\∃ L,FE h L)\/Lv FF sp x1 n ((i:Int),fT l)=some (.ret false)
 | 0,_,_,_,_,h,_,_=>by omega
 | n + 1,i,l,hi,hl,hn,hz,hc=>by
  have hfl:(fT l).length=l.length:=by simp [fT]
  rw [Lv];dsimp only;rw [hfl];by_cases hlt:i < l.length
  ·have hs:l[i]?=some l[i]:=gE_ hlt;generalize l[i]=s at hs;have hnt:=Uo h s;have hls:idx (fT l) (i:Int)=some s.1:=by unfold fT;rw [Am,GU,hs];rfl
   have e54:m54 FF sp s.1=some (nT s):=Sv h s.2.rg (s.2.len h);obtain ⟨l',e1,p1,q1⟩:=Gv h (s:=s) (x1:=x1) (z3:=((i:Int),fT l)) rfl FF 0 l om_ uF om_ hs;rw [n0] at e1;rw [Ao,dt_ hlt,ct_,hls,ob_,e54,ob_,e1,ob_,Aq om_];dsimp only;have hfl':(fT l').length=l'.length:=by simp [fT]
   rw [hfl'];by_cases h60:60 < l'.length
   ·right;rw [show decide ((l'.length:Int) > 60)=true by simp;omega,ct_]
   ·rw [show decide ((l'.length:Int) > 60)=false by simp;omega,cf_];have hpl:l.length<=l'.length:=p1.length_le;refine Nw h n (i + 1) l' om_ om_ om_ (p1.subset hz) λj t hj ht a ha=>?_;obtain ⟨r,rfl⟩:=p1;rw [GO om_] at ht;rcases LN (Nat.le_of_lt_succ hj) with hj | rfl
    ·exact GX _ (hc j t hj ht a ha)
    ·obtain rfl:s=t:=Option.some.inj (hs.symm.trans ht);exact q1 a (by rw [GL];exact ha)
  ·left;rw [Ao,df_ hlt,cf_];refine ⟨_,rfl,l,by omega,hz,λs hs a ha=>?_⟩;obtain ⟨j,hj⟩:=JX hs;exact hc j s (by have:=(GG.1 hj).1;omega) hj a ha
theorem Yu (h:Sq c sp):∃ b,m31 FF sp=some b/\(b=true->∃ L,FE h L):=by
 have hr:=Nw h (x1:=zF sp) FF 0 [zT h] smp_ smp_ uF smp_ (λj s hj=>by omega);rw [n0] at hr;unfold m31;rw [(Jy h).1,ob_];rcases hr with ⟨z,e1,hL⟩ | e1
 ·have e1:Lv FF sp (zF sp) FF ((0:Int),[zF sp])=_:=e1;rw [e1];exact ⟨true,rfl,λ_=>hL⟩
 ·have e1:Lv FF sp (zF sp) FF ((0:Int),[zF sp])=_:=e1;rw [e1];exact ⟨false,rfl,λe=>by cases e⟩
end
end Go.Pn
namespace Go.Pn
open Go Go.Sort Go.Proofs
theorem nbb {e:Int} (h:e≠0):(e != 0)=true:=by simpa using h
theorem m51_tot {c:Aa} {held:List Bool} (hb:m50 FF c held=some true) {most:Nat} (h1:1<=most) (h2:most<=16384):∃ r,m51 FF c held (most:Int)=some r:=by
 obtain ⟨b,hb',h⟩:=Sw c held;rw [hb] at hb';obtain rfl:=Option.some.inj hb';obtain ⟨hw,hs,hl,hne⟩:=h rfl;unfold m51;rcases Tv hw hs held with ⟨e,he,h3,h4,h5⟩ | ⟨hc,hll,h3,h4,h5⟩
 ·rw [h4,ob_];dsimp only;rw [nbb he,ct_];exact ⟨_,rfl⟩
 ·rw [h4,ob_];try dsimp only
  by_cases h0:(Fx c held).2=0
  ·obtain ⟨hf,hq⟩:=h5 h0;have hA:Al c [(Fx c held).1]:=λt ht=>by
    obtain rfl:t=_:=by simpa using ht
    exact ⟨hf,hq⟩
   have hx:=Du hc.rt (most:=most) h2 FF 0 [(Fx c held).1] [] hA so_ smp_ uF rfl;rw [n0] at hx;rw [h0,zf_,cf_];cases he:Rs c most FF 0 [(Fx c held).1] [] with
   | inl e=>
    rw [he] at hx;rw [hx];exact ⟨_,rfl⟩
   | inr sp=>
    rw [he] at hx;obtain ⟨z,hx⟩:=hx;rw [hx];exact ⟨_,rfl⟩
  ·rw [nbb h0,ct_];exact ⟨_,rfl⟩
theorem Yv (c:Aa) (held:List Bool):∃ b,m29 FF c held=some b/\(b=true->m50 FF c held=some true):=by
 obtain ⟨b,hb,_⟩:=Sw c held;unfold m29;cases b with
 | false=>
  rw [hb,ob_];exact ⟨false,rfl,λe=>by cases e⟩
 | true=>
  obtain ⟨r,hr⟩:=m51_tot hb (most:=50) om_ om_;refine ⟨r.2 != 12,?_,λ_=>hb⟩;rw [hb,ob_,nt_,cf_,show (50:Int)=((50:Nat):Int) from rfl,hr];rfl
theorem Zn {c:Aa} {held:List Bool} (hb:m50 FF c held=some true):(∃ e,e≠0/\m75 FF c held=some (zsp,e)/\m52 FF c held=some (zsp,e))\/(∃ sp,Sq c sp/\(∃ s0,Sp_ c s0 sp)/\m75 FF c held=some (sp,0)/\m52 FF c held=some (sp,0)):=by
 rcases E5 hb with ⟨e,he,h1,h2⟩ | ⟨sp,hc,hhl,h1,h2,h3,h4,h5,h6⟩ | ⟨hc,hhl,h0,e,h3,h1,h2⟩
 ·exact .inl ⟨e,he,h1,h2⟩
 ·have hS:=expF_sp hc.rt.bd h5 h6 h3;exact .inr ⟨sp,hS.sq hc.rt.bd,⟨_,hS⟩,h1,h2⟩
 ·by_cases he:e=0
  ·subst he;exact absurd h3 (exp_ne trivial)
  ·exact .inl ⟨e,he,h1,h2⟩
structure Wd (x:Ad) (sa sb:Space):Prop where
 ha:Sq x.A sa
 hb:Sq x.B sb
 pa:∃ s0,Sp_ x.A s0 sa
 pb:∃ s0,Sp_ x.B s0 sb
 ea:m75 FF x.A x.Held=some (sa,0)
 eb:m75 FF x.B x.Held=some (sb,0)
 ra:m52 FF x.A x.Held=some (sa,0)
 rb:m52 FF x.B x.Held=some (sb,0)
 ac:x.A.Actuators=x.B.Actuators
def sds (sa sb:Space):Option Aj:=some ⟨some ⟨sdv sa⟩,some ⟨sdv sb⟩⟩
theorem Wd.m30 {x:Ad} {sa sb:Space} (h:Wd x sa sb):m30 FF x=some (sa,sb,0):=by
 unfold Pn.m30;rw [h.ra,ob_];dsimp only;rw [zf_,cf_,h.rb,ob_];dsimp only;rw [zf_,cf_,show (x.A.Actuators != x.B.Actuators)=false by rw [h.ac];simp,cf_]
theorem Wd.m33 {x:Ad} {sa sb:Space} (h:Wd x sa sb):m33 FF x=some (sds sa sb,0):=by
 unfold Pn.m33;rw [Hy h.ha h.ea,ob_];dsimp only;rw [zf_,cf_,Hy h.hb h.eb,ob_];dsimp only;rw [zf_,cf_,show (x.A.Actuators != x.B.Actuators)=false by rw [h.ac];simp,cf_];rfl
def We (x:Ad) (e:Int):Prop:=e≠0/\m30 FF x=some (zsp,zsp,e)/\m33 FF x=some (none,e)
theorem wd_spec (x:Ad) (k1:m50 FF x.A x.Held=some true) (k2:m50 FF x.B x.Held=some true):(∃ e,We x e)\/∃ sa sb,Wd x sa sb:=by
 rcases Zn k1 with ⟨e,he,h1,h2⟩ | ⟨sa,ha,pa,h1,h2⟩
 ·left;refine ⟨e,he,?_,?_⟩
  ·unfold m30;rw [h2,ob_];dsimp only;rw [nbb he,ct_]
  ·unfold m33;rw [BH h1 he,ob_];dsimp only;rw [nbb he,ct_]
 ·rcases Zn k2 with ⟨e,he,h3,h4⟩ | ⟨sb,hb,pb,h3,h4⟩
  ·left;refine ⟨e,he,?_,?_⟩
   ·unfold m30;rw [h2,ob_];dsimp only;rw [zf_,cf_,h4,ob_];dsimp only;rw [nbb he,ct_]
   ·unfold m33;rw [Hy ha h1,ob_];dsimp only;rw [zf_,cf_,BH h3 he,ob_];dsimp only;rw [nbb he,ct_]
  ·by_cases hac:x.A.Actuators=x.B.Actuators
   ·exact .inr ⟨sa,sb,ha,hb,pa,pb,h1,h3,h2,h4,hac⟩
   ·left;refine ⟨8,by decide,?_,?_⟩
    ·unfold m30;rw [h2,ob_];dsimp only;rw [zf_,cf_,h4,ob_];dsimp only;rw [zf_,cf_,show (x.A.Actuators != x.B.Actuators)=true by simpa using hac,ct_]
    ·unfold m33;rw [Hy ha h1,ob_];dsimp only;rw [zf_,cf_,Hy hb h3,ob_];dsimp only;rw [zf_,cf_,show (x.A.Actuators != x.B.Actuators)=true by simpa using hac,ct_]
theorem BF (x:Ad):∃ b,m9_1 FF x=some b/\(b=true->(∃ e,We x e)\/∃ sa sb,∃ h:Wd x sa sb,Fin_ h.ha h.hb/\Fin_ h.hb h.ha):=by
 obtain ⟨b1,e1,k1⟩:=Yv x.A x.Held;obtain ⟨b2,e2,k2⟩:=Yv x.B x.Held;unfold m9_1;rw [e1,ob_];cases b1 with
 | false=>exact ⟨false,rfl,λe=>by cases e⟩
 | true=>
  rw [nt_,cf_,e2,ob_,ob_];cases b2 with
  | false=>exact ⟨false,rfl,λe=>by cases e⟩
  | true=>
   rw [nt_,cf_];rcases wd_spec x (k1 rfl) (k2 rfl) with ⟨e,he⟩ | ⟨sa,sb,h⟩
   ·refine ⟨true,?_,λ_=>.inl ⟨e,he⟩⟩;rw [he.2.1,ob_];dsimp only;rw [nbb he.1,ct_];rfl
   ·obtain ⟨c1,f1,g1⟩:=Yu h.ha;obtain ⟨c2,f2,g2⟩:=Yu h.hb;rw [h.m30,ob_];dsimp only;rw [zf_,cf_,f1,ob_];cases c1 with
    | false=>exact ⟨false,rfl,λe=>by cases e⟩
    | true=>
     rw [ct_,f2];cases c2 with
     | false=>exact ⟨false,rfl,λe=>by cases e⟩
     | true=>
      refine ⟨true,rfl,λ_=>.inr ⟨sa,sb,h,?_⟩⟩;obtain ⟨La,ka⟩:=g1 rfl;obtain ⟨Lb,kb⟩:=g2 rfl;exact ⟨Zk ka kb,Zk kb ka⟩
end Go.Pn
namespace Go.Pn
open Go Go.Sort Go.Proofs
theorem ET {l:List Ae} (hl:l.length<=90000):m24 FF l=some l:=by
 unfold m24;obtain ⟨v,hv,hh⟩:=Qe (L:=Rh l) (mk:=λi (v:List Ae)=>((i:Int),v)) (N:=l.length) (I:=λi v=>v=l.take i) (λn i v hi hI=>by
  subst hI;refine ⟨_,rfl,?_⟩;rw [Rh];dsimp only;rw [Ao,dt_ hi,ct_,Am,gE_ hi,ob_,Az so_,ob_,Aq om_,H6 hi]) (λn v _=>by
  rw [Rh];dsimp only;rw [Ao,df_ om_,cf_]) FF 0 [] om_ uF smp_
 subst hv;try dsimp only at hh
 rw [n0] at hh;rw [hh,HE (G0 _)];rfl
theorem DG (x y:Ab):E7 x y=(x == y):=by
 rw [HU,beq_iff_eq];obtain ⟨a,b⟩:=x;obtain ⟨c,d⟩:=y;simp [E7]
theorem Oe {a b:List (List Ab)} (hl:a.length=b.length) (ha:a.length<=90000) (hx:∀ x∈a,x.length<=90000):∀ (n i:Nat),i<=a.length->a.length - i < n ->
  Vo FF a b n (i:Int)=if a.drop i=b.drop i then some (.brk (a.length:Int)) else some (.ret false)
 | 0,i,_,h=>by omega
 | n + 1,i,hi,hn=>by
  rw [Vo];by_cases hlt:i < a.length
  ·have hlt2:i < b.length:=by omega
   have da:=GE hlt;have db:=GE hlt2;have hxl:=hx _ (GF hlt);rw [Ao,dt_ hlt,ct_,Am,gE_ hlt,ob_,Am,gE_ hlt2,ob_,da,db];have ia:idx a (i:Int)=some a[i]:=by rw [Am,gE_ hlt]
   have ib:idx b (i:Int)=some b[i]:=by rw [Am,gE_ hlt2]
   generalize a[i]=x at *;generalize b[i]=y at *;by_cases hxy:x.length=y.length
   ·rw [show ((x.length:Int) != (y.length:Int))=false by rw [hxy];simp,cf_];have e1:=eqls (L:=Vn a b (i:Int)) (xs:=x) (ys:=y) (λn z=>by
     rw [Vn,ia,ob_];cases decide (z < (x.length:Int)) with
     | false=>rfl
     | true=>
      rw [ct_,ct_,ob_,ib];cases idx x z with
      | none=>rfl
      | some u=>
       rw [ob_,ob_,ob_];cases idx y z with
       | none=>rfl
       | some v=>
        rw [ob_,ob_,DG];rfl) om_ hxy FF 0 om_ uF
    rw [n0,GL,GL] at e1;rw [e1];by_cases he:x=y
    ·rw [if_pos (by simpa using he),ob_];dsimp only;rw [Aq om_,Oe hl ha hx n (i + 1) om_ om_,he];simp
    ·rw [if_neg (by simpa using he),if_neg λe=>he (List.cons.inj e).1];rfl
   ·rw [show ((x.length:Int) != (y.length:Int))=true by simp;omega,ct_,if_neg λe=>hxy (by rw [(List.cons.inj e).1])]
  ·obtain rfl:i=a.length:=by omega
   rw [Ao,df_ om_,cf_,G6,if_pos (by rw [hl,G6])]
theorem EU {a b:List (List Ab)} (ha:a.length<=90000) (hx:∀ x∈a,x.length<=90000):m22 FF a b=some (decide (a=b)):=by
 unfold m22;by_cases hl:a.length=b.length
 ·rw [show ((a.length:Int) != (b.length:Int))=false by rw [hl];simp,cf_];have:=Oe hl ha hx FF 0 om_ uF;rw [n0,GL,GL] at this;rw [this];by_cases he:a=b
  ·rw [if_pos he,dt_ he];rfl
  ·rw [if_neg he,df_ he];rfl
 ·rw [show ((a.length:Int) != (b.length:Int))=true by simp;omega,ct_,df_ λe=>hl (by rw [e])]
end Go.Pn
namespace Go.Pn
open Go Go.Sort Go.Proofs
theorem awkF:m10 100000=some true:=by kernel_rfl
theorem Mq:m10 FF=some true:=awkF
end Go.Pn

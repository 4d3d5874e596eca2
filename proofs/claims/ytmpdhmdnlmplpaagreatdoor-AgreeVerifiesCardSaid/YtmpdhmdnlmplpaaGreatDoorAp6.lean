import Derived.Test.YtmpdhmdnlmplpaaGreatDoorAp5
set_option synthInstance.checkSynthOrder false
set_option synthInstance.maxSize 10000
set_option synthInstance.maxHeartbeats 400000
set_option maxRecDepth 100000
set_option maxHeartbeats 4000000
set_option linter.unusedVariables false
set_option linter.unusedSimpArgs false
set_option linter.defProp false
namespace Go.Pn
open Go
theorem Wm {β:Type} {L:Nat->Int->Option (Lo Int β)} {N:Nat} {Q:Nat->Bool} {r:Int->β}
  (h:∀ (n i:Nat),i < N->L (n + 1) (i:Int)=bif Q i then some (.ret (r (i:Int))) else L n ((i + 1:Nat):Int)) (h':∀ (n:Nat),L (n + 1) (N:Int)=some (.brk (N:Int))) :
  ∀ (n i:Nat),i<=N->N - i < n->(∃ k,i<=k/\k < N/\Q k=true/\L n (i:Int)=some (.ret (r (k:Int))))\/(L n (i:Int)=some (.brk (N:Int))/\∀ k,i<=k->k < N->Q k=false)
 | 0,i,_,h=>by omega
 | n + 1,i,h1,h2=>by
  by_cases hi:i < N
  ·rw [h n i hi];cases hq:Q i with
   | true=>exact .inl ⟨i,DW _,hi,hq,rfl⟩
   | false=>
    rw [cf_];rcases Wm h h' n (i + 1) om_ om_ with ⟨k,h3,h4,h5,h6⟩ | ⟨h3,h4⟩
    ·exact .inl ⟨k,by omega,h4,h5,h6⟩
    ·refine .inr ⟨h3,λk hk hk2=>?_⟩;rcases HT hk with rfl | h5
     ·exact hq
     ·exact h4 k h5 hk2
  ·obtain rfl:i=N:=by omega
   exact .inr ⟨h' n,λk hk hk2=>by omega⟩
def Qs (b:UInt8):Bool:=decide (97<=b.toNat) && decide (b.toNat<=122)
def B8 (b:UInt8):Bool:=decide (65<=b.toNat) && decide (b.toNat<=90)
def CF (b:UInt8):Bool:=decide (48<=b.toNat) && decide (b.toNat<=57)
def Cp (b:UInt8):Bool:=Qs b || B8 b || CF b || (b.toNat == 95)
def wd (s:ByteArray):Bool:=match s.data.toList with
 | []=>false
 | b :: l=>Qs b && (b :: l).all Cp
theorem Ax (s:ByteArray):s.size=s.data.toList.length:=rfl
theorem Uw {s:ByteArray} {i:Nat} (h:i < s.data.toList.length):Tw s (i:Int)=some s.data.toList[i]:=by
 unfold Tw;rw [if_pos om_,EL];have h1:i < s.size:=by rw [Ax];exact h
 rw [getElem?_pos s i h1];congr 1
theorem C1 {s:ByteArray} {i:Nat} (h:i < s.data.toList.length):(s.data.toList[i].toNat < 128->Utf8.decode s i=(s.data.toList[i].toNat,1))/\(128<=s.data.toList[i].toNat->128<=(Utf8.decode s i).1):=by
 have hg:s.get! (i + 0)=s.data.toList[i]:=by
  have h1:i < s.data.size:=by simpa using h
  show s.data[i + 0]! = _;rw [FX,getElem!_pos s.data i h1];simp
 constructor
 ·intro hb;unfold Utf8.decode;simp only [hg];rw [if_pos om_]
 ·intro hb;unfold Utf8.decode;simp only [hg];rw [if_neg om_];split
  ·split
   ·rename_i hx;exact hx
   ·decide
  ·split
   ·split
    ·rename_i hx;simp only [DJ,decide_eq_true_eq] at hx;exact D9 (by decide) hx.1
    ·decide
   ·split
    ·split
     ·rename_i hx;simp only [DJ,decide_eq_true_eq] at hx;exact D9 (by decide) hx.1
     ·decide
    ·decide
theorem u8n {n:Nat} (hn:n < 256):(UInt8.ofNat n).toNat=n:=by
 rw [UInt8.toNat_ofNat'];omega
theorem Yr (f:Nat) (b:UInt8):m201 f b=some (Cp b):=by
 unfold m201 Cp Qs B8 CF;simp only [u8n (show 97 < 256 by omega),u8n (show 122 < 256 by omega),u8n (show 65 < 256 by omega),u8n (show 90 < 256 by omega),u8n (show 48 < 256 by omega),u8n (show 57 < 256 by omega),u8n (show 95 < 256 by omega)];congr 1;rw [EK];simp;omega
theorem Pc {b:UInt8} (h:Cp b=true):b.toNat<=122:=by
 unfold Cp Qs B8 CF at h;simp at h;omega
theorem Ys {f:Nat} {s:ByteArray} {i:Nat} (h:i < s.data.toList.length):m200 f (srn s (i:Int))=some (!Cp s.data.toList[i]):=by
 obtain ⟨h1,h2⟩:=C1 h;unfold m200 srn;rw [EL];simp only [Ik.toI];by_cases hb:s.data.toList[i].toNat < 128
 ·rw [h1 hb];dsimp only;by_cases hc:((s.data.toList[i].toNat:Nat):Int) > 122
  ·rw [dt_ hc,ct_];have:Cp s.data.toList[i]=false:=by
    cases hp:Cp s.data.toList[i] with
    | false=>rfl
    | true=>have:=Pc hp;omega
   rw [this];rfl
  ·rw [df_ hc,cf_];have:(Ik.ofI ((s.data.toList[i].toNat:Nat):Int):UInt8)=s.data.toList[i]:=by
    show wr8 _=_;unfold wr8;refine UInt8.toNat_inj.1 ?_;rw [UInt8.toNat_ofNat'];omega
   rw [this,Yr];rfl
 ·have h3:=h2 om_;rw [dt_ so_,ct_];have:Cp s.data.toList[i]=false:=by
   cases hp:Cp s.data.toList[i] with
   | false=>rfl
   | true=>have:=Pc hp;omega
  rw [this];rfl
theorem Oo {α:Type} {l:List α} {p:α->Bool}:l.any p=true↔∃ i,∃ h:i < l.length,p l[i]=true:=by
 rw [D7];constructor
 ·rintro ⟨x,hx,h⟩;obtain ⟨i,hi,rfl⟩:=List.getElem_of_mem hx;exact ⟨i,hi,h⟩
 ·rintro ⟨i,hi,h⟩;exact ⟨_,DK hi,h⟩
theorem Yt {f:Nat} {s:ByteArray} (hs:s.size < f) (hs2:s.size < 1000000):m199 f s=some (s.data.toList.any λb=>!Cp b):=by
 rw [Ax] at hs hs2;unfold m199 m232 m248;have hl:=Wm (L:=Jk f s true) (N:=s.data.toList.length) (Q:=λi=>if h:i < s.data.toList.length then !Cp s.data.toList[i] else false) (r:=λz=>z) (λn i hi=>by
  rw [Jk,Ax,Aj,dt_ hi,ct_,Ys hi,ob_,dif_pos hi];cases hp:Cp s.data.toList[i] with
  | true=>
   rw [show ((!true) == true)=false by rfl,cf_];have:snx s (i:Int)=((i + 1:Nat):Int):=by
    unfold snx;rw [if_pos (by rw [Ax];omega),EL,(C1 hi).1 (by have:=Pc hp;omega)];rfl
   rw [this];rfl
  | false=>rfl) (λn=>by
  rw [Jk,Ax,Aj,df_ om_,cf_];unfold snx;rw [if_neg (by rw [Ax];omega)]) f 0 om_ om_
 rw [n0] at hl;rcases hl with ⟨k,_,hk,hq,h⟩ | ⟨h,hn⟩
 ·rw [h];rw [dif_pos hk] at hq;rw [Oo.2 ⟨k,hk,hq⟩];simp only [ob_];rw [dt_ om_]
 ·rw [h];have:(s.data.toList.any λb=>!Cp b)=false:=by
   rw [HV];intro ha;obtain ⟨i,hi,h2⟩:=Oo.1 ha;have:=hn i om_ hi;rw [dif_pos hi,h2] at this;cases this
  rw [this];rfl
theorem Ym {f:Nat} {s:ByteArray} (hs:s.size < f) (hs2:s.size < 1000000):m215 f s=some (wd s):=by
 rw [Ax] at hs hs2;unfold m215;have hl:=Wm (L:=Jm s) (N:=s.data.toList.length) (Q:=λi=>if h:i < s.data.toList.length then (i == 0 && !Qs s.data.toList[i]) || !Cp s.data.toList[i] else false) (r:=λ_=>false) (λn i hi=>by
  rw [Jm,Ax,Aj,dt_ hi,ct_];simp only [Uw hi,ob_,cs_,u8n (show 97 < 256 by omega),u8n (show 122 < 256 by omega),u8n (show 65 < 256 by omega),u8n (show 90 < 256 by omega),u8n (show 48 < 256 by omega),u8n (show 57 < 256 by omega),u8n (show 95 < 256 by omega)];rw [dif_pos hi,An om_];congr 1;rw [EK];unfold Cp Qs B8 CF;simp;generalize s.data.toList[i].toNat=b;omega) (λn=>by
  rw [Jm,Ax,Aj,df_ om_,cf_]) f 0 om_ om_
 rw [n0] at hl;have hemp:(s.toList == (⟨#[]⟩:ByteArray).toList)=(s.data.toList == []):=by
  rw [ByteArray.toList_eq,ByteArray.toList_eq]
 rcases hl with ⟨k,_,hk,hq,h⟩ | ⟨h,hn⟩
 ·rw [h,ob_];rw [dif_pos hk] at hq;dsimp only;congr 1
  symm
  unfold wd;cases hd:s.data.toList with
  | nil=>rfl
  | cons b l=>
   have hk':k < (b :: l).length:=by rw [← hd];exact hk
   have hg:s.data.toList[k]=(b :: l)[k]:=by simp [hd]
   rw [hg] at hq;dsimp only;rw [GC];rcases Bool.or_eq_true_iff.1 hq with h1 | h1
   ·left;obtain ⟨h2,h3⟩:=Bool.and_eq_true_iff.1 h1;obtain rfl:k=0:=by simpa using h2
    simpa using h3
   ·right;exact List.all_eq_false.2 ⟨_,DK hk',by simpa using h1⟩
 ·rw [h,ob_,hemp];dsimp only;congr 1;unfold wd;cases hd:s.data.toList with
  | nil=>rfl
  | cons b l=>
   have hb:∀ (k:Nat) (hk:k < (b :: l).length),((k == 0 && !Qs (b :: l)[k]) || !Cp (b :: l)[k])=false:=by
    intro k hk;have hk':k < s.data.toList.length:=by rw [hd];exact hk
    have:=hn k om_ hk';rw [dif_pos hk'] at this;have hg:s.data.toList[k]=(b :: l)[k]:=by simp [hd]
    rw [hg] at this;exact this
   have h1:=hb 0 smp_;simp at h1;dsimp only;rw [h1.1,FC];have:(b :: l).all Cp=true:=by
    rw [DR];intro x hx;obtain ⟨i,hi,rfl⟩:=List.getElem_of_mem hx;have:=hb i hi;rw [FW] at this;simpa using this.2
   rw [this];rfl
def fx (i:Nat):ByteArray:=⟨#[UInt8.ofNat (97 + i / 2),UInt8.ofNat (48 + i % 2)]⟩
def cA (c:Aa):Nat:=c.Actuators.toNat
def cS (c:Aa):Nat:=2 * cA c + c.Inputs.length
def cL (c:Aa):Nat:=cS c + c.Signals.length
def nmF (c:Aa) (i:Nat):ByteArray:=if i < 2 * cA c then fx i else if i < cS c then c.Inputs.getD (i - 2 * cA c) ⟨#[]⟩ else ((c.Signals[i - cS c]?).map (·.Name)).getD ⟨#[]⟩
structure Bd_ (c:Aa):Prop where
 a1:1<=c.Actuators
 a6:c.Actuators<=6
 i:c.Inputs.length<=16
 s:c.Signals.length<=16
theorem Bd_.a {c:Aa} (h:Bd_ c):c.Actuators=(cA c:Int):=by
 have:=h.a1;unfold cA;omega
theorem Bd_.a' {c:Aa} (h:Bd_ c):1<=cA c/\cA c<=6:=by
 have:=h.a1;have:=h.a6;unfold cA;omega
theorem Bd_.wa {c:Aa} (h:Bd_ c):wr ((2:Int) * c.Actuators)=((2 * cA c:Nat):Int):=by
 have:=h.a;have:=h.a';rw [Aq om_ om_];omega
theorem Ed {f:Nat} {c:Aa} (h:Bd_ c):m216 f c=some (cS c:Int):=by
 have:=h.a';have:=h.i;unfold m216;rw [h.wa,Aq om_ om_];unfold cS;congr 1
theorem Hh {f:Nat} {c:Aa} (h:Bd_ c):m196 f c=some (cS c:Int):=Ed (f:=f) h
theorem Ec {f:Nat} {c:Aa} (h:Bd_ c):m218 f c=some (cL c:Int):=by
 have:=h.a';have:=h.i;have:=h.s;unfold m218;have e:wr (((2 * cA c:Nat):Int) + (c.Inputs.length:Int))=((2 * cA c:Nat):Int) + (c.Inputs.length:Int):=Aq om_ om_;rw [h.wa,e,Aq om_ om_];unfold cL cS;congr 1
theorem Me {f:Nat} {c:Aa} (h:Bd_ c):m165 f c=some (cL c:Int):=by
 have:=h.a';have:=h.i;have:=h.s;unfold m165;rw [Hh h,ob_,Aq (by unfold cS;omega) (by unfold cS;omega)];unfold cL;congr 1
theorem Wp:((List.range 12).all λi=>decide (((ssl (⟨#[97,98,99,100,101,102]⟩:ByteArray) (wr ((i:Int).tdiv (2:Int))) (wr ((wr ((i:Int).tdiv (2:Int))) + 1))).bind λx1=>(ssl (⟨#[48,49]⟩:ByteArray) ((i:Int).tmod (2:Int)) (wr (((i:Int).tmod (2:Int)) + 1))).bind λx2=>(cat x1 x2).bind λx3=>some x3)=some (fx i)))=true:=by kernel_rfl
theorem ref_fx:∀ i:Nat,i < 12->((ssl (⟨#[97,98,99,100,101,102]⟩:ByteArray) (wr ((i:Int).tdiv (2:Int))) (wr ((wr ((i:Int).tdiv (2:Int))) + 1))).bind λx1=>(ssl (⟨#[48,49]⟩:ByteArray) ((i:Int).tmod (2:Int)) (wr (((i:Int).tmod (2:Int)) + 1))).bind λx2=>(cat x1 x2).bind λx3=>some x3)=some (fx i):=λi h=>of_decide_eq_true (DR.1 Wp i (DZ.2 h))
theorem Wq:((List.range 12).all λi=>decide (((cat (Db (Ik.toI (Ik.ofI (Ik.toI (wr ((97:Int) + (wr ((i:Int).tdiv (2:Int)))))):Kd .i32))) (Db (Ik.toI (Ik.ofI (Ik.toI (wr ((48:Int) + ((i:Int).tmod (2:Int))))):Kd .i32)))).bind λx2=>some x2)=some (fx i)))=true:=by kernel_rfl
theorem pro_fx:∀ i:Nat,i < 12->((cat (Db (Ik.toI (Ik.ofI (Ik.toI (wr ((97:Int) + (wr ((i:Int).tdiv (2:Int)))))):Kd .i32))) (Db (Ik.toI (Ik.ofI (Ik.toI (wr ((48:Int) + ((i:Int).tmod (2:Int))))):Kd .i32)))).bind λx2=>some x2)=some (fx i):=λi h=>of_decide_eq_true (DR.1 Wq i (DZ.2 h))
theorem Sw {f:Nat} {c:Aa} (h:Bd_ c) {i:Nat} (hi:i < cL c):m214 f c (i:Int)=some (nmF c i):=by
 have h1:=h.a';have h2:=h.i;have h3:=h.s;have hS:cS c=2 * cA c + c.Inputs.length:=rfl;have hL:cL c=cS c + c.Signals.length:=rfl;unfold m214 nmF;rw [h.wa,Aj];by_cases h4:i < 2 * cA c
 ·rw [dt_ h4,ct_,if_pos h4];exact ref_fx i om_
 ·rw [df_ h4,cf_,if_neg h4,Ed h,ob_,Aj];by_cases h5:i < cS c
  ·rw [dt_ h5,ct_,if_pos h5,Aq om_ om_,show (i:Int) - ((2 * cA c:Nat):Int)=((i - 2 * cA c:Nat):Int) by omega,Ai,gE_ om_];simp [gE_ (show i - 2 * cA c < c.Inputs.length by omega)]
  ·rw [df_ h5,cf_,if_neg h5,ob_,Aq om_ om_,show (i:Int) - (cS c:Int)=((i - cS c:Nat):Int) by omega,Ai,gE_ om_];rfl
theorem Zg {f:Nat} {c:Aa} (h:Bd_ c) {i:Nat} (hi:i < cL c):m161 f c (i:Int)=some (nmF c i):=by
 have h1:=h.a';have h2:=h.i;have h3:=h.s;have hS:cS c=2 * cA c + c.Inputs.length:=rfl;have hL:cL c=cS c + c.Signals.length:=rfl;unfold m161 nmF;rw [Hh h,ob_,h.wa,Aj];by_cases h4:i < 2 * cA c
 ·rw [dt_ h4,ct_,if_pos h4];exact pro_fx i om_
 ·rw [df_ h4,cf_,if_neg h4,Aj];by_cases h5:i < cS c
  ·rw [dt_ h5,ct_,if_pos h5,Aq om_ om_,show (i:Int) - ((2 * cA c:Nat):Int)=((i - 2 * cA c:Nat):Int) by omega,Ai,gE_ om_];simp [gE_ (show i - 2 * cA c < c.Inputs.length by omega)]
  ·rw [df_ h5,cf_,if_neg h5,Aq om_ om_,show (i:Int) - (cS c:Int)=((i - cS c:Nat):Int) by omega,Ai,gE_ om_];rfl
def nme (c:Aa) (i:Nat):Int:=if wd (nmF c i) then (if (nmF c i).size > 24 then 17 else if (List.range i).any (λj=>(nmF c j).data.toList == (nmF c i).data.toList) then 7 else 0) else 3
theorem Tb {f:Nat} {c:Aa} (h:Bd_ c) {i:Nat} (hi:i < cL c) (hn:(nmF c i).size<=200) (hf:600<=f):m180 f c (i:Int)=some (nme c i):=by
 have h1:=h.a';have h2:=h.i;have h3:=h.s;have hS:cS c=2 * cA c + c.Inputs.length:=rfl;have hL:cL c=cS c + c.Signals.length:=rfl;unfold m180 nme;rw [Sw h hi,ob_,Ym om_ om_,ob_];cases hw:wd (nmF c i) with
 | false=>rfl
 | true=>
  rw [nt_,cf_,if_pos rfl];by_cases h24:(nmF c i).size > 24
  ·rw [dt_ om_,ct_,if_pos h24]
  ·rw [df_ om_,cf_,if_neg h24];have hl:=Wm (L:=Jp f c (i:Int) (nmF c i)) (N:=i) (Q:=λj=>(nmF c j).data.toList == (nmF c i).data.toList) (r:=λ_=>7) (λn j hj=>by
    rw [Jp,Aj,dt_ hj,ct_,Sw h om_,ob_,ByteArray.toList_eq,ByteArray.toList_eq,An om_]) (λn=>by
    rw [Jp,Aj,df_ om_,cf_]) f 0 om_ om_
   rw [n0] at hl;rcases hl with ⟨k,_,hk,hq,h⟩ | ⟨h,hn⟩
   ·rw [h,if_pos (D7.2 ⟨k,DZ.2 hk,hq⟩)];rfl
   ·rw [h,if_neg ?_]
    ·rfl
    ·intro ha;obtain ⟨k,hk,h4⟩:=D7.1 ha;have:=hn k om_ (DZ.1 hk);rw [this] at h4;cases h4
def Wk (c:Aa) (i:Nat) (m:List (ByteArray×Int)):Prop:=∀ s:ByteArray,(mat Qo m s).isSome=(List.range i).any λj=>(nmF c j).data.toList == s.data.toList
theorem Bx {a b:ByteArray}:Qo a b=true↔a=b:=by
 unfold Qo;obtain ⟨⟨x⟩⟩:=a;obtain ⟨⟨y⟩⟩:=b;simp
theorem BH {m:List (ByteArray×Int)} {k j:ByteArray} {y:Int}:mat Qo (Dx Qo m k y) j=if j=k then some y else mat Qo m j:=by
 induction m with
 | nil=>
  show mat Qo [(k,y)] j=_;rw [Be];by_cases h:j=k
  ·rw [if_pos (Bx.2 h),if_pos h]
  ·rw [if_neg (λe=>h (Bx.1 e)),if_neg h]
 | cons p m ih=>
  obtain ⟨k',z⟩:=p;rw [Le,Be];by_cases h:k=k'
  ·subst h;rw [if_pos (Bx.2 rfl),Be];by_cases h2:j=k
   ·rw [if_pos (Bx.2 h2),if_pos h2]
   ·rw [if_neg (λe=>h2 (Bx.1 e)),if_neg h2,if_neg (λe=>h2 (Bx.1 e))]
  ·rw [if_neg (λe=>h (Bx.1 e)),Be,ih];by_cases h2:j=k'
   ·subst h2;rw [if_pos (Bx.2 rfl),if_neg (λe=>h e.symm),if_pos (Bx.2 rfl)]
   ·rw [if_neg (λe=>h2 (Bx.1 e)),if_neg (λe=>h2 (Bx.1 e))]
theorem Wk.zero (c:Aa):Wk c 0 []:=λs=>rfl
theorem Wk.put {c:Aa} {i:Nat} {m:List (ByteArray×Int)} (h:Wk c i m) (y:Int):Wk c (i + 1) (Dx Qo m (nmF c i) y):=by
 intro s;rw [BH,List.range_succ,List.any_append];by_cases e:s=nmF c i
 ·rw [if_pos e,e];simp
 ·rw [if_neg e,h s];have:((nmF c i).data.toList == s.data.toList)=false:=by
   cases hb:((nmF c i).data.toList == s.data.toList) with
   | false=>rfl
   | true=>exact absurd (Bx.1 hb).symm e
  rw [G4,List.any_nil,F9,this,F9]
theorem Te {f:Nat} {c:Aa} (h:Bd_ c) {i:Nat} (hn:(nmF c i).size<=200) (hf:600<=f) {m:List (ByteArray×Int)} (hm:Wk c i m) (a b c' d e) :
  ∃ m',m162 f (nmF c i) a b c' d e m=some (nme c i,m')/\(nme c i=0->Wk c (i + 1) m'):=by
 unfold m162 nme;have hemp:((nmF c i).toList == (⟨#[]⟩:ByteArray).toList)=((nmF c i).data.toList == []):=by
  rw [ByteArray.toList_eq,ByteArray.toList_eq]
 rw [hemp,Yt om_ om_];have hwd:∀ (k:Bool->Option (Int×List (ByteArray×Int))),((bif ((nmF c i).data.toList == []) then some true else (Tw (nmF c i) (0:Int)).bind λx1=>some (decide ((x1.toNat:Int) < (UInt8.ofNat 97).toNat))).bind λr2=>(bif r2 then some true else (Tw (nmF c i) (0:Int)).bind λx3=>some (decide ((x3.toNat:Int) > (UInt8.ofNat 122).toNat))).bind λr4=>(bif r4 then some true else (some ((nmF c i).data.toList.any λb=>!Cp b)).bind λx5=>some x5).bind k)=k (!wd (nmF c i)):=by
  intro k;cases hd:(nmF c i).data.toList with
  | nil=>unfold wd;rw [hd];rfl
  | cons b l=>
   have h0:Tw (nmF c i) (0:Int)=some b:=by
    have:=Uw (s:=nmF c i) (i:=0) (by rw [hd];simp);rw [n0] at this;rw [this];simp [hd]
   unfold wd;rw [h0,hd];simp only [ob_,cs_,u8n (show 97 < 256 by omega),u8n (show 122 < 256 by omega)];congr 1;rw [EK];unfold Qs;simp only [List.all_eq_not_any_not];cases (b :: l).any (λb=>!Cp b) <;> simp <;> omega
 rw [hwd];cases hw:wd (nmF c i) with
 | false=>exact ⟨m,rfl,λh=>by simp at h⟩
 | true=>
  rw [nt_,cf_,if_pos rfl];by_cases h24:(nmF c i).size > 24
  ·rw [dt_ om_,ct_,if_pos h24];exact ⟨m,rfl,λh=>by simp at h⟩
  ·rw [df_ om_,cf_,if_neg h24,hm (nmF c i)];cases hx:(List.range i).any (λj=>(nmF c j).data.toList == (nmF c i).data.toList) with
   | true=>exact ⟨m,rfl,λh=>by simp at h⟩
   | false=>exact ⟨_,rfl,λ_=>hm.put _⟩
end Go.Pn
namespace Go.Pn
open Go
def A4 (E:Nat->Int):Nat->Nat->Int
 | 0,_=>0
 | k + 1,i=>if E i=0 then A4 E k (i + 1) else E i
theorem Tr {E:Nat->Int}:∀ {k i:Nat},A4 E k i=0->∀ j,i<=j->j < i + k->E j=0
 | 0,_,_,j,h1,h2=>by omega
 | k + 1,i,h,j,h1,h2=>by
  unfold A4 at h;split at h
  ·rcases HT h1 with rfl | h3
   ·assumption
   ·exact Tr h j h3 om_
  ·contradiction
theorem fnzI {S σ β:Type} {L:Nat->S->Option (Lo S β)} {mk:Nat->σ->S} {N:Nat} {E:Nat->Int} {r:Int->β} {I:Nat->σ->Prop}
  (h:∀ (n i:Nat) s,i < N->I i s->(E i=0->∃ s',I (i + 1) s'/\L (n + 1) (mk i s)=L n (mk (i + 1) s'))/\(E i≠0->L (n + 1) (mk i s)=some (.ret (r (E i)))))
  (h':∀ (n:Nat) s,I N s->L (n + 1) (mk N s)=some (.brk (mk N s))) :
  ∀ (k n i:Nat) s,i + k=N->k < n->I i s->(A4 E k i=0/\∃ s',I N s'/\L n (mk i s)=some (.brk (mk N s')))\/(A4 E k i≠0/\L n (mk i s)=some (.ret (r (A4 E k i))))
 | 0,0,i,s,_,h2,_=>by omega
 | 0,n + 1,i,s,h1,h2,hI=>by
  obtain rfl:i=N:=by omega
  exact .inl ⟨rfl,s,hI,h' n s hI⟩
 | k + 1,0,i,s,_,h2,_=>by omega
 | k + 1,n + 1,i,s,h1,h2,hI=>by
  obtain ⟨a,b⟩:=h n i s om_ hI;unfold A4;by_cases e:E i=0
  ·obtain ⟨s',hs,hl⟩:=a e;rw [if_pos e,hl];exact fnzI h h' k n (i + 1) s' om_ om_ hs
  ·rw [if_neg e];exact .inr ⟨e,b e⟩
def zrx (x:Expr):Bool:=((x.Op == 0) && (x.Index == 0)) && (((x.Args).length:Int) == 0)
theorem Ss {f:Nat} {x:Expr}:m220 f x=some (zrx x):=rfl
theorem Sy {f:Nat} {x:Expr}:m197 f x=some (zrx x):=rfl
structure Fw (c:Aa):Prop where
 i:∀ s∈c.Inputs,s.size<=200
 n:∀ x∈c.Signals,x.Name.size<=200
 on:∀ x∈c.Signals,Lt_ x.On/\m102 FF x.On=some true
 off:∀ x∈c.Signals,Lt_ x.Off/\m102 FF x.Off=some true
theorem Fw.nm {c:Aa} (h:Fw c) (i:Nat):(nmF c i).size<=200:=by
 unfold nmF;split
 ·show 2<=200;omega
 ·split
  ·rw [DQ];cases hx:c.Inputs[i - 2 * cA c]? with
   | none=>show 0<=200;omega
   | some s=>exact h.i s (DP hx)
  ·cases hx:c.Signals[i - cS c]? with
   | none=>show 0<=200;omega
   | some x=>exact h.n x (DP hx)
def gate (c:Aa) (k:Nat):Bool:=match c.Signals[k]? with | some y=>y.Kind == 0 | none=>false
def late (c:Aa) (i:Nat) (x:Ad):Bool:=(List.range c.Signals.length).any λk=>decide (i<=k) && (gate c k && occ 16 ((cS c + k:Nat):Int) x.On)
def sge (c:Aa) (i:Nat) (x:Ad):Int:=
 if nme c (cS c + i)≠0 then nme c (cS c + i) else if x.Kind < 0\/3<=x.Kind then 1 else if chE 16 (cL c) x.On≠0 then chE 16 (cL c) x.On else
 if x.Kind=1 then (if chE 16 (cL c) x.Off≠0 then chE 16 (cL c) x.Off else if x.Delay≠0 then 3 else 0)
 else if x.Kind=0 then (if late c i x=true then 9 else if (!zrx x.Off || x.Init || x.Delay != 0)=true then 3 else 0)
 else (if x.Delay < 1\/x.Delay > 1000000 then 2 else if (!zrx x.Off || x.Init)=true then 3 else 0)
theorem Yl {c:Aa} (h:Bd_ c) {i:Nat} {x:Ad} (hx:c.Signals[i]?=some x) (hd:dp 16 x.On):m219 FF c (i:Int)=some (late c i x):=by
 have h1:=h.a';have h2:=h.i;have h3:=h.s;have hS:cS c=2 * cA c + c.Inputs.length:=rfl;have hi:=(DG.1 hx).1;unfold m219;have hl:=Wm (L:=Jl FF c (i:Int)) (N:=c.Signals.length) (Q:=λk=>gate c k && occ 16 ((cS c + k:Nat):Int) x.On) (r:=λ_=>true) (λn k hk=>by
  rw [Jl,Aj,dt_ hk,ct_,Ai,gE_ hk,ob_,An om_];unfold gate;rw [gE_ hk];dsimp only;cases hg:(c.Signals[k].Kind == 0) with
  | false=>rfl
  | true=>
   rw [ct_,Ai,hx,ob_,Ed h,ob_,Aq om_ om_,show (cS c:Int) + (k:Int)=((cS c + k:Nat):Int) by omega,Sj 16 FF _ _ hd uF];simp only [ob_,FC]) (λn=>by
  rw [Jl,Aj,df_ om_,cf_]) FF i om_ uF
 unfold late;rcases hl with ⟨k,hk1,hk,hq,h⟩ | ⟨h,hn⟩
 ·rw [h,D7.2 ⟨k,DZ.2 hk,by rw [hq,dt_ hk1];rfl⟩];rfl
 ·rw [h];have:((List.range c.Signals.length).any λk=>decide (i<=k) && (gate c k && occ 16 ((cS c + k:Nat):Int) x.On))=false:=by
   rw [EQ];intro k hk;have hk:=DZ.1 hk;by_cases hik:i<=k
   ·rw [hn k hik hk];simp
   ·rw [df_ hik];simp
  rw [this];rfl
theorem Yx {c:Aa} (h:Bd_ c) (hw:Fw c) {i:Nat} {x:Ad} (hx:c.Signals[i]?=some x):m181 FF c (i:Int)=some (sge c i x):=by
 have h1:=h.a';have h2:=h.i;have h3:=h.s;have hS:cS c=2 * cA c + c.Inputs.length:=rfl;have hL:cL c=cS c + c.Signals.length:=rfl;have hi:=(DG.1 hx).1;have hxm:=DP hx;obtain ⟨on1,on2⟩:=hw.on x hxm;obtain ⟨of1,of2⟩:=hw.off x hxm;have hF:600<=FF:=by unfold FF;omega
 unfold m181 sge;rw [Ai,hx,ob_,Ed h,ob_,Aq om_ om_,show (cS c:Int) + (i:Int)=((cS c + i:Nat):Int) by omega,Tb h om_ (hw.nm _) hF,ob_];by_cases e1:nme c (cS c + i)=0
 ·rw [e1,if_neg smp_,zf_,cf_];by_cases e2:x.Kind < 0\/3<=x.Kind
  ·rw [if_pos e2,show (decide (x.Kind < 0) || decide (x.Kind>=(3:Int)))=true by simpa using e2,ct_]
  ·rw [if_neg e2,show (decide (x.Kind < 0) || decide (x.Kind>=(3:Int)))=false by simp;omega,cf_,Ec h,ob_,Sv on1 on2 om_ om_ hF,ob_];by_cases e3:chE 16 (cL c) x.On=0
   ·rw [e3,if_neg smp_,zf_,cf_];have hk:x.Kind=0\/x.Kind=1\/x.Kind=2:=by omega
    rcases hk with k | k | k <;> rw [k]
    ·simp only [show ((0:Int) == 1)=false by rfl,show ((0:Int) == 0)=true by rfl,show ((0:Int) == 2)=false by rfl,cf_,ct_,FQ,GE,FC];rw [Yl h hx on1.dp,ob_,ob_,Ss,ob_,ob_];simp only [show ¬ ((0:Int)=1) by omega,if_false,if_true];cases late c i x with
     | true=>rfl
     | false=>
      simp only [cf_];cases zrx x.Off <;> cases x.Init <;> cases (x.Delay != 0) <;> rfl
    ·simp only [show ((1:Int) == 1)=true by rfl,show ((1:Int) == 0)=false by rfl,show ((1:Int) == 2)=false by rfl,cf_,ct_,FQ,GE,FC,FY,EW,if_true];rw [ob_,Sv of1 of2 om_ om_ hF,ob_];by_cases e4:chE 16 (cL c) x.Off=0
     ·rw [e4,zf_,cf_,if_neg smp_,ob_,cf_,ob_,EW];by_cases e5:x.Delay=0
      ·rw [if_neg (by simpa using e5),e5];rfl
      ·rw [if_pos e5,show (x.Delay != 0)=true by simpa using e5];rfl
     ·rw [if_pos e4,show (chE 16 (cL c) x.Off != 0)=true by simpa using e4,ct_]
    ·simp only [show ((2:Int) == 1)=false by rfl,show ((2:Int) == 0)=false by rfl,show ((2:Int) == 2)=true by rfl,cf_,ct_,FQ,GE,FC,FY,F9,if_true,show ¬ ((2:Int)=1) by omega,show ¬ ((2:Int)=0) by omega,if_false,ob_];rw [Ss,ob_];by_cases e5:x.Delay < 1\/x.Delay > 1000000
     ·rw [if_pos e5,show (decide (x.Delay < 1) || decide (x.Delay > 1000000))=true by simpa using e5,ct_]
     ·rw [if_neg e5,show (decide (x.Delay < 1) || decide (x.Delay > 1000000))=false by simp;omega,cf_,ob_];cases zrx x.Off <;> cases x.Init <;> rfl
   ·rw [if_pos e3,show (chE 16 (cL c) x.On != 0)=true by simpa using e3,ct_]
 ·rw [if_pos e1,show (nme c (cS c + i) != 0)=true by simpa using e1,ct_]
def pr (c:Aa) (i:Nat) (k:Int):Bool:=decide (k - (cS c:Int)>=(i:Int)) && gate c (k - (cS c:Int)).toNat
theorem Yu {f:Nat} {c:Aa} (h:Bd_ c) {i:Nat} {k:Int} (hk0:0<=k) (hk:k < cL c) (m:List (ByteArray×Int)) (b:Bool) :
  m195 f k (i:Int) c.Actuators c.Inputs c.Signals c.Plus c.Minus m b=some (b || pr c i k):=by
 have h1:=h.a';have h2:=h.i;have h3:=h.s;have hS:cS c=2 * cA c + c.Inputs.length:=rfl;have hL:cL c=cS c + c.Signals.length:=rfl;unfold m195 pr;have e:(⟨c.Actuators,c.Inputs,c.Signals,c.Plus,c.Minus⟩:Aa)=c:=rfl;rw [e,Hh h,ob_,Aq om_ om_];cases b with
 | true=>rfl
 | false=>
  rw [cf_,EW];by_cases hg:k - (cS c:Int)>=(i:Int)
  ·obtain ⟨j,hj⟩:=Int.eq_ofNat_of_zero_le (show 0<=k - (cS c:Int) by omega);rw [dt_ hg,ct_,hj,Ai,gE_ om_,ob_,ob_,ob_];unfold gate;rw [show ((j:Int)).toNat=j by simp,gE_ om_];rfl
  ·rw [df_ hg];rfl
theorem Sr {c:Aa} (h:Bd_ c) {i:Nat} (m:List (ByteArray×Int)):∀ (d f:Nat) (x:Expr) (b:Bool),okE d (cL c) x->d + 300<=f ->
  m228 f x c.Actuators c.Inputs c.Signals c.Plus c.Minus m b (i:Int)=some (b || C7 d (pr c i) x)
 | 0,_,_,_,h,_=>h.elim
 | d + 1,f,x,b,ho,hf=>by
  obtain ⟨f,rfl⟩:∃ f',f=f' + 1:=⟨f - 1,by omega⟩;obtain ⟨hn,hl,ha⟩:=ho;obtain ⟨o1,o2,o3,o4,o5,i1,i2⟩:=Hb hn;unfold m228 C7;have loop:∀ (n j:Nat) (b:Bool),j<=x.Args.length->x.Args.length - j < n ->
    Lx (m228 f) x c.Actuators c.Inputs c.Signals c.Plus c.Minus m (i:Int) n ((j:Int),b)=some ((x.Args.length:Int),b || (x.Args.drop j).any (C7 d (pr c i))):=by
   intro n
   induction n with
   | zero=>intro j _ _ h;omega
   | succ n ihn=>
    intro j b hj hnn;unfold Lx;dsimp only;by_cases h3:j < x.Args.length
    ·rw [Aj,dt_ h3,ct_,Ai,gE_ h3,ob_,Sr h m d f _ b (ha _ (DK h3)) om_,ob_,An om_,ihn (j + 1) _ om_ om_,DH h3,G4,Bool.or_assoc]
    ·rw [Aj,df_ h3,cf_,DN om_];have:j=x.Args.length:=by omega
     subst this;simp
  by_cases h1:x.Op=1
  ·rw [if_pos h1,show (x.Op == 1)=true by simpa using h1,ct_,Yu h i1 (i2 h1),ob_,ob_];have h3:=loop f 0 (b || pr c i x.Index) om_ om_;rw [n0,DM] at h3;rw [h3,o3 om_];simp
  ·rw [if_neg h1,show (x.Op == 1)=false by simpa using h1,cf_,ob_];have h3:=loop f 0 b om_ om_;rw [n0,DM] at h3;rw [h3];rfl
theorem late_eq {c:Aa} {i:Nat} {x:Ad} (ho:okE 16 (cL c) x.On):C7 16 (pr c i) x.On=late c i x:=by
 have hL:cL c=cS c + c.Signals.length:=rfl;rw [EK,Ql];unfold late;rw [D7];constructor
 ·rintro ⟨k,hp,hk⟩;have hl:=CP ho hk;unfold pr at hp;rw [DJ] at hp;obtain ⟨hp1,hp2⟩:=hp;have hp1:k - (cS c:Int)>=(i:Int):=by simpa using hp1
  refine ⟨(k - (cS c:Int)).toNat,DZ.2 om_,?_⟩;rw [dt_ om_,hp2,show ((cS c + (k - (cS c:Int)).toNat:Nat):Int)=k by omega,hk];rfl
 ·rintro ⟨j,hj,hq⟩;rw [DJ,DJ] at hq;obtain ⟨h1,h2,h3⟩:=hq;have h1:i<=j:=by simpa using h1
  refine ⟨_,?_,h3⟩;unfold pr;rw [show ((cS c + j:Nat):Int) - (cS c:Int)=(j:Int) by omega,show ((j:Int)).toNat=j by simp,h2,dt_ om_];rfl
theorem Ze {c:Aa} (h:Bd_ c) (hw:Fw c) {i:Nat} {x:Ad} (hx:c.Signals[i]?=some x) {m:List (ByteArray×Int)} (hm:Wk c (cS c + i) m) :
  ∃ m',m163 FF (i:Int) c.Actuators c.Inputs c.Signals c.Plus c.Minus m=some (sge c i x,m')/\(sge c i x=0->Wk c (cS c + (i + 1)) m'):=by
 have h1:=h.a';have h2:=h.i;have h3:=h.s;have hS:cS c=2 * cA c + c.Inputs.length:=rfl;have hL:cL c=cS c + c.Signals.length:=rfl;have hi:=(DG.1 hx).1;have hxm:=DP hx;obtain ⟨on1,on2⟩:=hw.on x hxm;obtain ⟨of1,of2⟩:=hw.off x hxm;have hF:600<=FF:=by unfold FF;omega
 have hnm:nmF c (cS c + i)=x.Name:=by
  unfold nmF;rw [if_neg om_,if_neg om_,show cS c + i - cS c=i by omega,hx];rfl
 have e:(⟨c.Actuators,c.Inputs,c.Signals,c.Plus,c.Minus⟩:Aa)=c:=rfl;unfold m163 sge;obtain ⟨m',hm',hk'⟩:=Te h (hw.nm (cS c + i)) hF hm c.Actuators c.Inputs c.Signals c.Plus c.Minus;rw [hnm] at hm';rw [Ai,hx,ob_,hm',ob_];dsimp only;refine ⟨m',?_,λh0=>?_⟩
 ·by_cases e1:nme c (cS c + i)=0
  ·rw [e1,if_neg smp_,zf_,cf_];by_cases e2:x.Kind < 0\/3<=x.Kind
   ·rw [if_pos e2,show (decide (x.Kind < 0) || decide (x.Kind>=(3:Int)))=true by simpa using e2,ct_]
   ·rw [if_neg e2,show (decide (x.Kind < 0) || decide (x.Kind>=(3:Int)))=false by simp;omega,cf_,e,Me h,ob_,Mc on1 om_ om_ hF,ob_];by_cases e3:chE 16 (cL c) x.On=0
    ·rw [e3,if_neg smp_,zf_,cf_];have hok:=okE.of on1.dp e3;have hk:x.Kind=0\/x.Kind=1\/x.Kind=2:=by omega
     rcases hk with k | k | k <;> rw [k]
     ·rw [show idx (List.range 3) (0:Int)=some 0 by rfl,ob_,show ((0:Nat) == 0)=true by rfl,ct_,if_neg om_,if_pos rfl];unfold m158 m194;rw [Ai,hx,ob_,Sr h m' 16 FF x.On false hok uF,ob_,ob_,EW,late_eq hok,Sy];cases late c i x with
      | true=>rfl
      | false=>cases zrx x.Off <;> cases x.Init <;> cases (x.Delay != 0) <;> rfl
     ·rw [show idx (List.range 3) (1:Int)=some 1 by rfl,ob_,show ((1:Nat) == 0)=false by rfl,cf_,show ((1:Nat) == 1)=true by rfl,ct_,if_pos rfl];unfold m159;rw [e,Me h,Ai,hx,ob_,ob_,Mc of1 om_ om_ hF,ob_];by_cases e4:chE 16 (cL c) x.Off=0
      ·rw [e4,zf_,cf_,if_neg smp_,ob_];by_cases e5:x.Delay=0
       ·rw [if_neg (by simpa using e5),e5];rfl
       ·rw [if_pos e5,show (x.Delay != 0)=true by simpa using e5];rfl
      ·rw [if_pos e4,show (chE 16 (cL c) x.Off != 0)=true by simpa using e4,ct_];rfl
     ·rw [show idx (List.range 3) (2:Int)=some 2 by rfl,ob_,show ((2:Nat) == 0)=false by rfl,cf_,show ((2:Nat) == 1)=false by rfl,cf_,show ((2:Nat) == 2)=true by rfl,ct_,if_neg om_,if_neg om_];unfold m160;rw [Ai,hx,ob_,Sy];by_cases e5:x.Delay < 1\/x.Delay > 1000000
      ·rw [if_pos e5,show (decide (x.Delay < 1) || decide (x.Delay > 1000000))=true by simpa using e5];rfl
      ·rw [if_neg e5,show (decide (x.Delay < 1) || decide (x.Delay > 1000000))=false by simp;omega];cases zrx x.Off <;> cases x.Init <;> rfl
    ·rw [if_pos e3,show (chE 16 (cL c) x.On != 0)=true by simpa using e3,ct_]
  ·rw [if_pos e1,show (nme c (cS c + i) != 0)=true by simpa using e1,ct_]
 ·refine hk' ?_;by_cases e1:nme c (cS c + i)=0
  ·exact e1
  ·rw [if_pos e1] at h0;exact h0
theorem Zd {f:Nat} {c:Aa} (h:Bd_ c) {k:Int}:m164 f k c=some (bad (cL c) k):=by
 unfold m164 bad;rw [Me h];cases decide (k < 0) <;> rfl
theorem Uj {c:Aa} (h:Bd_ c) {xs:List Int} (hl:xs.length < 1000):Tn FF xs c=some (xs.any (bad (cL c))):=by
 unfold Tn Vx;have h5:=Wz (L:=Hk FF xs c) (xs:=xs) (p:=λ_ y=>m164 FF y c) (q:=bad (cL c)) (r:=λz=>z) (λ_ _=>rfl) om_ (λi y hy=>Zd h) FF 0 om_ uF;rw [n0,DM] at h5;rw [h5];cases h6:xs.findIdx? (bad (cL c)) with
 | none=>
  rw [EG] at h6;have:xs.any (bad (cL c))=false:=EQ.2 λy hy=>by simpa using h6 y hy
  rw [this];rfl
 | some j=>
  obtain ⟨hj,hj2,_⟩:=D6.1 h6;have:xs.any (bad (cL c))=true:=D7.2 ⟨_,DK hj,by simpa using hj2⟩;rw [this];simp
theorem Mn {p q:List Int} (hp:p.length<=400000000) (hq:q.length<=400000000):m109 FF [p,q]=some (p ++ q):=by
 unfold m109;have h1:Ek [p,q] FF ((0:Int),(0:Int))=some (((p.length + q.length:Nat):Int),2):=by
  show Ek [p,q] (99997 + 1 + 1 + 1) _=_;unfold Ek;rw [show decide ((0:Int) < (([p,q]:List (List Int)).length:Int))=true by rfl,ct_,show idx [p,q] 0=some p by rfl,ob_];dsimp only;rw [Aq om_ om_,Aq om_ om_,df_ om_,cf_];unfold Ek;rw [show decide ((0:Int) + 1 < (([p,q]:List (List Int)).length:Int))=true by rfl,ct_,show idx [p,q] (0 + 1)=some q by rfl,ob_];dsimp only;rw [Aq om_ om_,Aq om_ om_,df_ om_,cf_];unfold Ek;rw [show decide ((0:Int) + 1 + 1 < (([p,q]:List (List Int)).length:Int))=false by rfl,cf_];congr 1;refine Prod.ext ?_ rfl;dsimp only;omega
 have h2:Ej [p,q] FF ((0:Int),[])=some ((2:Int),p ++ q):=by
  show Ej [p,q] (99997 + 1 + 1 + 1) _=_;unfold Ej app;rw [show decide ((0:Int) < (([p,q]:List (List Int)).length:Int))=true by rfl,ct_,show idx [p,q] 0=some p by rfl,ob_,if_pos so_,ob_];dsimp only;rw [Aq om_ om_];unfold Ej app;rw [show decide ((0:Int) + 1 < (([p,q]:List (List Int)).length:Int))=true by rfl,ct_,show idx [p,q] (0 + 1)=some q by rfl,ob_,if_pos so_,ob_];dsimp only;rw [Aq om_ om_];unfold Ej;rw [show decide ((0:Int) + 1 + 1 < (([p,q]:List (List Int)).length:Int))=false by rfl,cf_];rfl
 rw [h1,ob_];unfold m138;rw [if_pos (by dsimp only;omega),ob_,h2];rfl
theorem Kk {c:Aa} (h:Bd_ c) {xs:List Int} (hl:xs.length < 1000):Jo FF c xs FF (0:Int)=if xs.any (bad (cL c)) then some (.ret 6) else some (.brk (xs.length:Int)):=by
 have h5:=Wz (L:=Jo FF c xs) (xs:=xs) (p:=λ_ y=>some (bad (cL c) y)) (q:=bad (cL c)) (r:=λ_=>6) (λn z=>by
  rw [Jo];congr 1;cases hx:idx xs z with
  | none=>rfl
  | some y=>
   rw [ob_,ob_,ob_,Ec h,ob_];unfold bad;cases decide (y < 0) <;> rfl) om_ (λi y hy=>rfl) FF 0 om_ (by unfold FF; omega)
 rw [n0,DM] at h5;rw [h5];cases h6:xs.findIdx? (bad (cL c)) with
 | none=>
  rw [EG] at h6;have:xs.any (bad (cL c))=false:=EQ.2 λy hy=>by simpa using h6 y hy
  rw [this];rfl
 | some j=>
  obtain ⟨hj,hj2,_⟩:=D6.1 h6;have:xs.any (bad (cL c))=true:=D7.2 ⟨_,DK hj,by simpa using hj2⟩;rw [this];rfl
def plE (c:Aa):Int:=if (c.Plus.length:Int)≠c.Actuators\/(c.Minus.length:Int)≠c.Actuators then 8 else if (c.Plus ++ c.Minus).any (bad (cL c)) then 6 else 0
theorem Yw {c:Aa} (h:Bd_ c):m182 FF c=some (plE c):=by
 have h6:=h.a6;unfold m182 plE;by_cases h1:(c.Plus.length:Int)≠c.Actuators\/(c.Minus.length:Int)≠c.Actuators
 ·rw [if_pos h1,show (((c.Plus.length:Int) != c.Actuators) || ((c.Minus.length:Int) != c.Actuators))=true by simpa using h1,ct_]
 ·rw [if_neg h1,show (((c.Plus.length:Int) != c.Actuators) || ((c.Minus.length:Int) != c.Actuators))=false by simp;omega,cf_];have:Eg FF c FF (0:Int)=if (c.Plus ++ c.Minus).any (bad (cL c)) then some (.ret 6) else some (.brk 2):=by
   show Eg FF c (99997 + 1 + 1 + 1) _=_;unfold Eg;rw [show decide ((0:Int) < (([c.Plus,c.Minus]:List (List Int)).length:Int))=true by rfl,ct_,show idx [c.Plus,c.Minus] 0=some c.Plus by rfl,ob_,Kk h om_,List.any_append];cases c.Plus.any (bad (cL c)) with
   | true=>rfl
   | false=>
    rw [if_neg smp_,ob_];dsimp only;rw [Aq om_ om_];unfold Eg;rw [show decide ((0:Int) + 1 < (([c.Plus,c.Minus]:List (List Int)).length:Int))=true by rfl,ct_,show idx [c.Plus,c.Minus] (0 + 1)=some c.Minus by rfl,ob_,Kk h om_,EW];cases c.Minus.any (bad (cL c)) with
    | true=>rfl
    | false=>
     rw [if_neg smp_,ob_];dsimp only;rw [Aq om_ om_];unfold Eg;rw [show decide ((0:Int) + 1 + 1 < (([c.Plus,c.Minus]:List (List Int)).length:Int))=false by rfl,cf_];rfl
  rw [this];cases (c.Plus ++ c.Minus).any (bad (cL c)) <;> rfl
structure Rt (c:Aa):Prop where
 bd:Bd_ c
 sig:∀ x∈c.Signals,0<=x.Kind/\x.Kind < 3/\okE 16 (cL c) x.On/\(x.Kind=1->okE 16 (cL c) x.Off)
 plus:c.Plus.length=cA c
 minus:c.Minus.length=cA c
 lines:∀ l∈c.Plus ++ c.Minus,0<=l/\l < cL c
 ini:∀ x∈c.Signals,x.Kind=2->x.Init=false
theorem A9 {c:Aa} (hw:Fw c) {i:Nat} {x:Ad} (hx:c.Signals[i]?=some x) (h:sge c i x=0):(0<=x.Kind/\x.Kind < 3/\okE 16 (cL c) x.On/\(x.Kind=1->okE 16 (cL c) x.Off))/\(x.Kind=2->x.Init=false):=by
 have hxm:=DP hx;unfold sge at h;split at h
 ·contradiction
 ·split at h
  ·omega
  ·split at h
   ·contradiction
   ·rename_i h2 h3;refine ⟨⟨by omega,by omega,okE.of (hw.on x hxm).1.dp om_,λhk=>?_⟩,λhk=>?_⟩
    ·rw [if_pos hk] at h;split at h
     ·contradiction
     ·rename_i h4;exact okE.of (hw.off x hxm).1.dp om_
    ·rw [if_neg om_,if_neg om_] at h;split at h
     ·contradiction
     ·split at h
      ·contradiction
      ·rename_i h5;cases hi:x.Init with
       | false=>rfl
       | true=>rw [hi] at h5;simp at h5
def sgE (c:Aa) (i:Nat):Int:=match c.Signals[i]? with | some x=>sge c i x | none=>0
theorem Kr {c:Aa} (h:Bd_ c):∀ (n i:Nat) (m:List (ByteArray×Int)),i<=2 * cA c->2 * cA c - i < n->Wk c i m->∃ z m',Mk FF c n ((i:Int),m)=some (z,m')/\Wk c (2 * cA c) m'
 | 0,i,_,_,h,_=>by omega
 | n + 1,i,m,h1,h2,hm=>by
  have ha:=h.a';have hL:cL c=2 * cA c + c.Inputs.length + c.Signals.length:=rfl;unfold Mk;dsimp only;rw [h.wa,Aj];by_cases hi:i < 2 * cA c
  ·rw [dt_ hi,ct_,Zg h om_,ob_,An om_];exact Kr h n (i + 1) _ om_ om_ (hm.put _)
  ·rw [df_ hi,cf_];obtain rfl:i=2 * cA c:=by omega
   exact ⟨_,m,rfl,hm⟩
theorem CH {c:Aa} (hw:Fw c) (hs:c.Signals.length<=16\/64 < c.Signals.length):∃ e,m89 FF c=some e/\m132 FF c=some e/\(e=0->Rt c):=by
 unfold m89 m119 m132;by_cases hA:c.Actuators < 1\/c.Actuators > 6
 ·have:(decide (c.Actuators < 1) || decide (c.Actuators > 6))=true:=by simpa using hA
  rw [this];exact ⟨2,rfl,rfl,by simp⟩
 have:(decide (c.Actuators < 1) || decide (c.Actuators > 6))=false:=by simp;omega
 rw [this,cf_,cf_];by_cases hI:c.Inputs.length > 16\/c.Signals.length > 64
 ·have:(decide ((c.Inputs.length:Int) > 16) || decide ((c.Signals.length:Int) > 64))=true:=by simp;omega
  rw [this];exact ⟨5,rfl,rfl,by simp⟩
 have:(decide ((c.Inputs.length:Int) > 16) || decide ((c.Signals.length:Int) > 64))=false:=by simp;omega
 rw [this,cf_,cf_];have h:Bd_ c:=⟨by omega,by omega,by omega,by omega⟩;have ha:=h.a';have h2:=h.i;have h3:=h.s;have hS:cS c=2 * cA c + c.Inputs.length:=rfl;have hL:cL c=cS c + c.Signals.length:=rfl;have hF:600<=FF:=by unfold FF;omega
 obtain ⟨z,m1,e1,k1⟩:=Kr h FF 0 [] om_ uF (Wk.zero c);rw [n0] at e1;rw [e1,ob_];dsimp only;have A1:=fnzI (L:=Jv FF c) (mk:=λi m=>((i:Int),m)) (N:=c.Inputs.length) (E:=λi=>nme c (2 * cA c + i)) (r:=λe=>Sum.inl e) (I:=λi m=>Wk c (2 * cA c + i) m) (λn i m hi hm=>by
  have hnm:nmF c (2 * cA c + i)=c.Inputs[i]:=by
   unfold nmF;rw [if_neg om_,if_pos om_,show 2 * cA c + i - 2 * cA c=i by omega];simp [gE_ hi]
  obtain ⟨m',hm',hk'⟩:=Te h (hw.nm (2 * cA c + i)) hF hm c.Actuators c.Inputs c.Signals c.Plus c.Minus;rw [hnm] at hm';rw [Jv];dsimp only;rw [Aj,dt_ hi,ct_,Ai,gE_ hi,ob_,hm',ob_];dsimp only;refine ⟨λh0=>⟨m',hk' h0,?_⟩,λh0=>?_⟩
  ·rw [h0,zf_,cf_,An om_]
  ·rw [show (nme c (2 * cA c + i) != 0)=true by simpa using h0,ct_]) (λn m _=>by
  rw [Jv];dsimp only;rw [Aj,df_ om_,cf_]) c.Inputs.length FF 0 m1 om_ uF k1
 have B1:=fnzI (L:=Jr FF c) (mk:=λi (_:Unit)=>(i:Int)) (N:=c.Inputs.length) (E:=λi=>nme c (2 * cA c + i)) (r:=λe=>e) (I:=λ_ _=>True) (λn i _ hi _=>by
  rw [Jr,Aj,dt_ hi,ct_,h.wa,Aq om_ om_,show ((2 * cA c:Nat):Int) + (i:Int)=((2 * cA c + i:Nat):Int) by omega,Tb h om_ (hw.nm _) hF,ob_];refine ⟨λh0=>⟨(),trivial,?_⟩,λh0=>?_⟩
  ·rw [h0,zf_,cf_,An om_]
  ·rw [show (nme c (2 * cA c + i) != 0)=true by simpa using h0,ct_]) (λn _ _=>by
  rw [Jr,Aj,df_ om_,cf_]) c.Inputs.length FF 0 () om_ uF trivial
 try dsimp only at A1 B1
 rw [n0] at A1 B1;generalize A4 (λi=>nme c (2 * cA c + i)) c.Inputs.length 0=E1 at A1 B1;rcases A1 with ⟨z1,m2,k2,A1⟩ | ⟨z1,A1⟩
 case inr=>
  rcases B1 with ⟨z2,_⟩ | ⟨_,B1⟩
  ·exact absurd z2 z1
  rw [A1,B1];exact ⟨E1,rfl,rfl,λh=>absurd h z1⟩
 rcases B1 with ⟨_,_,_,B1⟩ | ⟨z2,_⟩
 case inr=>exact absurd z1 z2
 rw [A1,B1,ob_,ob_];dsimp only;have hget:∀ i,i < c.Signals.length->∃ x,c.Signals[i]?=some x/\sgE c i=sge c i x:=λi hi=>⟨c.Signals[i],gE_ hi,by unfold sgE;rw [gE_ hi]⟩;have A2:=fnzI (L:=Ju FF c) (mk:=λi m=>((i:Int),m)) (N:=c.Signals.length) (E:=sgE c) (r:=λe=>Sum.inl e) (I:=λi m=>Wk c (cS c + i) m) (λn i m hi hm=>by
  obtain ⟨x,hx,hsg⟩:=hget i hi;obtain ⟨m',hm',hk'⟩:=Ze h hw hx hm;rw [Ju,hsg];dsimp only;rw [Aj,dt_ hi,ct_,hm',ob_];dsimp only;refine ⟨λh0=>⟨m',hk' h0,?_⟩,λh0=>?_⟩
  ·rw [h0,zf_,cf_,An om_]
  ·rw [show (sge c i x != 0)=true by simpa using h0,ct_]) (λn m _=>by
  rw [Ju];dsimp only;rw [Aj,df_ om_,cf_]) c.Signals.length FF 0 m2 om_ uF k2
 have B2:=fnzI (L:=Jq FF c) (mk:=λi (_:Unit)=>(i:Int)) (N:=c.Signals.length) (E:=sgE c) (r:=λe=>e) (I:=λ_ _=>True) (λn i _ hi _=>by
  obtain ⟨x,hx,hsg⟩:=hget i hi;rw [Jq,Aj,dt_ hi,ct_,Yx h hw hx,ob_,hsg];refine ⟨λh0=>⟨(),trivial,?_⟩,λh0=>?_⟩
  ·rw [h0,zf_,cf_,An om_]
  ·rw [show (sge c i x != 0)=true by simpa using h0,ct_]) (λn _ _=>by
  rw [Jq,Aj,df_ om_,cf_]) c.Signals.length FF 0 () om_ uF trivial
 try dsimp only at A2 B2
 rw [n0] at A2 B2;have hz:A4 (sgE c) c.Signals.length 0=0->∀ j,j < c.Signals.length->sgE c j=0:=λh j hj=>Tr h j om_ om_;generalize A4 (sgE c) c.Signals.length 0=E2 at A2 B2 hz;rcases A2 with ⟨z1,m3,k3,A2⟩ | ⟨z1,A2⟩
 case inr=>
  rcases B2 with ⟨z2,_⟩ | ⟨_,B2⟩
  ·exact absurd z2 z1
  rw [A2,B2];exact ⟨E2,rfl,rfl,λh=>absurd h z1⟩
 rcases B2 with ⟨_,_,_,B2⟩ | ⟨z2,_⟩
 case inr=>exact absurd z1 z2
 rw [A2,B2,ob_,ob_];dsimp only;rw [Yw h];refine ⟨plE c,?_,rfl,λh0=>?_⟩
 ·unfold plE;by_cases h1:(c.Plus.length:Int)≠c.Actuators\/(c.Minus.length:Int)≠c.Actuators
  ·rw [if_pos h1,show (((c.Plus.length:Int) != c.Actuators) || ((c.Minus.length:Int) != c.Actuators))=true by simpa using h1,ct_];rfl
  ·rw [if_neg h1,show (((c.Plus.length:Int) != c.Actuators) || ((c.Minus.length:Int) != c.Actuators))=false by simp;omega,cf_];have h6:=h.a6;rw [Mn om_ om_,ob_,Uj h so_,ob_];cases (c.Plus ++ c.Minus).any (bad (cL c)) <;> rfl
 ·unfold plE at h0;split at h0
  ·contradiction
  ·split at h0
   ·contradiction
   ·rename_i h1 h2;have h6:=h.a;have hsz:∀ x∈c.Signals,(0<=x.Kind/\x.Kind < 3/\okE 16 (cL c) x.On/\(x.Kind=1->okE 16 (cL c) x.Off))/\(x.Kind=2->x.Init=false):=λx hx=>by
     obtain ⟨i,hi⟩:=HM hx;have h5:=hz z1 i (DG.1 hi).1;have:sge c i x=0:=by
      unfold sgE at h5;rw [hi] at h5;exact h5
     exact A9 hw hi this
    refine ⟨h,λx hx=>(hsz x hx).1,by omega,by omega,λl hl=>?_,λx hx=>(hsz x hx).2⟩
    ·have h5:(c.Plus ++ c.Minus).any (bad (cL c))=false:=by simpa using h2
     have:=EQ.1 h5 l hl;unfold bad at this;simp at this;omega
theorem BU (c:Aa):∃ b,m63 FF c=some b/\(b=true->Fw c/\(c.Signals.length<=16\/64 < c.Signals.length)):=by
 unfold m63;by_cases h1:c.Inputs.length > 32\/(c.Signals.length > 16/\c.Signals.length<=64)\/c.Signals.length > 128\/c.Plus.length > 40\/c.Minus.length > 40
 ·have:(((((decide ((c.Inputs.length:Int) > 32)) || ((decide ((c.Signals.length:Int) > 16)) && (decide ((c.Signals.length:Int)<=(64:Int))))) || (decide ((c.Signals.length:Int) > 128))) || (decide ((c.Plus.length:Int) > 40))) || (decide ((c.Minus.length:Int) > 40)))=true:=by
   simp;omega
  rw [this];exact ⟨false,rfl,by simp⟩
 ·have:(((((decide ((c.Inputs.length:Int) > 32)) || ((decide ((c.Signals.length:Int) > 16)) && (decide ((c.Signals.length:Int)<=(64:Int))))) || (decide ((c.Signals.length:Int) > 128))) || (decide ((c.Plus.length:Int) > 40))) || (decide ((c.Minus.length:Int) > 40)))=false:=by
   simp;omega
  rw [this,cf_];have h2:=Wz (L:=Vp c) (xs:=c.Inputs) (p:=λ_ x=>some (decide ((x.size:Int) > 200))) (q:=λx=>decide ((x.size:Int) > 200)) (r:=λ_=>false) (λ_ _=>rfl) om_ (λ_ _ _=>rfl) FF 0 om_ uF;rw [n0,DM] at h2;cases hc:c.Inputs.findIdx? (λx=>decide ((x.size:Int) > 200)) with
  | some j=>rw [hc] at h2;rw [h2];exact ⟨false,rfl,by simp⟩
  | none=>
   rw [hc] at h2;rw [h2,ob_];dsimp only;rw [EG] at hc;have hF:600<=FF:=by unfold FF;omega
   let q:Ad->Bool:=λx=>decide ((x.Name.size:Int) > 200) || !((m102 FF x.On).getD false) || !((m102 FF x.Off).getD false)
   have h3:=Wz (L:=Rr FF c) (xs:=c.Signals) (p:=λ_ x=>some (q x)) (q:=q) (r:=λ_=>false) (λn z=>by
    rw [Rr];congr 1;cases hx:idx c.Signals z with
    | none=>rfl
    | some x=>
     rw [ob_,ob_,ob_];obtain ⟨b1,e1,_⟩:=Hl hF x.On;obtain ⟨b2,e2,_⟩:=Hl hF x.Off;show _=bif q x then _ else _;simp only [q];rw [e1,e2];cases decide ((x.Name.size:Int) > 200) <;> cases b1 <;> cases b2 <;> rfl) om_ (λ_ _ _=>rfl) FF 0 om_ (by unfold FF; omega)
   rw [n0,DM] at h3;cases hd:c.Signals.findIdx? q with
   | some j=>rw [hd] at h3;rw [h3];exact ⟨false,rfl,by simp⟩
   | none=>
    rw [hd] at h3;rw [h3];rw [EG] at hd;refine ⟨true,rfl,λ_=>⟨⟨λs hs=>?_,λx hx=>?_,λx hx=>?_,λx hx=>?_⟩,by omega⟩⟩
    ·have:=hc s hs;simp at this;omega
    ·have:=hd x hx;simp only [q,FW,decide_eq_false_iff_not] at this;omega
    ·have:=hd x hx;simp only [q,FW,decide_eq_false_iff_not] at this;obtain ⟨b,e,hb⟩:=Hl hF x.On;have h5:=this.1.2;rw [e] at h5;have h5:b=true:=by simpa using h5
     exact ⟨hb h5,by rw [e,h5]⟩
    ·have:=hd x hx;simp only [q,FW,decide_eq_false_iff_not] at this;obtain ⟨b,e,hb⟩:=Hl hF x.Off;have h5:=this.2;rw [e] at h5;have h5:b=true:=by simpa using h5
     exact ⟨hb h5,by rw [e,h5]⟩
end Go.Pn
namespace Go.Pn
open Go
theorem Ok {S σ:Type} {L:Nat->S->Option S} {mk:Nat->σ->S} {N:Nat} {I:Nat->σ->Prop}
  (h:∀ (n i:Nat) s,i < N->I i s->∃ s',I (i + 1) s'/\L (n + 1) (mk i s)=L n (mk (i + 1) s')) (h':∀ (n:Nat) s,I N s->L (n + 1) (mk N s)=some (mk N s)) :
  ∀ (n i:Nat) s,i<=N->N - i < n->I i s->∃ s',I N s'/\L n (mk i s)=some (mk N s')
 | 0,i,_,_,h,_=>by omega
 | n + 1,i,s,h1,h2,hI=>by
  by_cases hi:i < N
  ·obtain ⟨s',h3,h4⟩:=h n i s hi hI;rw [h4];exact Ok h h' n (i + 1) s' om_ om_ h3
  ·obtain rfl:i=N:=by omega
   exact ⟨s,hI,h' n s hI⟩
def upd {α:Type} (f:Nat->α) (l:List α) (i:Nat):List α:=(List.range i).map f ++ l.drop i
theorem By {α:Type} {f:Nat->α} {l:List α}:upd f l 0=l:=by simp [upd]
theorem Da {α:Type} {f:Nat->α} {l:List α}:upd f l l.length=(List.range l.length).map f:=by simp [upd]
theorem Jd {α:Type} {f:Nat->α} {l:List α} {i:Nat} (h:i<=l.length):(upd f l i).length=l.length:=by simp [upd];omega
theorem Bz {α:Type} {f:Nat->α} {l:List α} {i j:Nat} (h:i<=j):(upd f l i)[j]?=l[j]?:=by
 unfold upd;rw [D1 so_,F7];congr 1;simp;omega
theorem Cz {α:Type} {f:Nat->α} {l:List α} {i:Nat} {y:α} (h:i < l.length) (hy:y=f i):(upd f l i).set i y=upd f l (i + 1):=by
 subst hy;refine EV λj=>?_;by_cases e:j=i
 ·subst e;rw [EJ (by rw [Jd om_];exact h)];unfold upd;rw [DL smp_];simp
 ·rw [FA om_];by_cases h2:j < i
  ·unfold upd;rw [DL so_,DL so_];simp [h2,show j < i + 1 by omega]
  ·rw [Bz om_,Bz om_]
structure Rc (c:Aa):Prop where
 rt:Rt c
 fw:Fw c
 ck:m89 FF c=some 0
 ck':m132 FF c=some 0
structure Fit (c:Aa) (s:Ac):Prop where
 e:s.Ends.length=cA c
 v:s.Valves.length=cA c
 i:s.Inputs.length=c.Inputs.length
 x:s.Values.length=c.Signals.length
 t:s.Timers.length=c.Signals.length
 ee:∀ a∈s.Ends,0<=a/\a < 4
 tt:∀ a∈s.Timers,0<=a/\a < 3
 k:∀ (i:Nat) x t v,c.Signals[i]?=some x->s.Timers[i]?=some t->s.Values[i]?=some v->(x.Kind≠2->t=0)/\(x.Kind=2->v=(t == 2))
def AL (s:Ac):List Bool:=s.Ends.flatMap λe=>[e == 0,e == 2]
def pre (s:Ac):List Bool:=AL s ++ s.Inputs
def vals (s:Ac):List Bool:=pre s ++ s.Values
theorem Na {l:List Int}:(l.flatMap λe=>[e == 0,e == 2]).length=2 * l.length:=by
 induction l with
 | nil=>rfl
 | cons a l ih=>rw [GM,DB,ih];simp;omega
theorem CY:∀ {l:List Int} {j:Nat},(l.flatMap λe=>[e == 0,e == 2])[j]?=(l[j / 2]?).map λe=>if j % 2=0 then e == 0 else e == 2
 | [],j=>by simp
 | a :: l,0=>by simp
 | a :: l,1=>by simp
 | a :: l,j + 2=>by
  rw [GM];show (List.flatMap (λe=>[e == 0,e == 2]) l)[j]?=_;rw [CY,show (j + 2) / 2=j / 2 + 1 by omega,show (j + 2) % 2=j % 2 by omega];rfl
theorem Fit.pl {c:Aa} {s:Ac} (h:Fit c s):(pre s).length=cS c:=by
 unfold pre AL;rw [DB,Na,h.e,h.i];rfl
theorem Fit.vl {c:Aa} {s:Ac} (h:Fit c s):(vals s).length=cL c:=by
 unfold vals;rw [DB,h.pl,h.x];rfl
theorem Xg {l:List Int} {i:Nat} (h:i < l.length):(l.take (i + 1)).flatMap (λe=>[e == 0,e == 2])=(l.take i).flatMap (λe=>[e == 0,e == 2]) ++ [l[i] == 0,l[i] == 2]:=by
 rw [FU,gE_ h,List.flatMap_append];simp
theorem Ly {c:Aa} {s:Ac} (hb:Bd_ c) (h1:s.Ends.length=cA c) (h2:s.Inputs.length<=1000) (h3:s.Values.length<=1000):m225 FF c s=some (vals s):=by
 have ha:=hb.a';unfold m225;obtain ⟨acc,he,hl⟩:=Ok (L:=Cj c s) (mk:=λi acc=>((i:Int),acc)) (N:=cA c) (I:=λi acc=>acc=(s.Ends.take i).flatMap λe=>[e == 0,e == 2]) (λn i acc hi hI=>by
  subst hI;refine ⟨_,rfl,?_⟩;rw [Cj];dsimp only;have hlen:((s.Ends.take i).flatMap λe=>[e == 0,e == 2]).length<=1000:=by rw [Na,FJ];omega
  unfold app;rw [hb.a,Aj,dt_ hi,ct_,Ai,gE_ om_,ob_,ob_,if_pos (by simp only [FN,HC];omega),ob_,An om_,Xg om_]) (λn acc _=>by
  rw [Cj];dsimp only;rw [hb.a,Aj,df_ om_,cf_]) FF 0 [] om_ uF rfl
 subst he;try dsimp only at hl
 rw [n0] at hl;rw [hl,ob_];dsimp only;rw [EN om_];have h4:(s.Ends.flatMap λe=>[e == 0,e == 2]).length<=1000:=by rw [Na];omega
 unfold app;rw [if_pos om_,ob_,if_pos (by rw [DB];omega),ob_];rfl
theorem Yh:∀ {c:Aa} {s:Ac} {n z},Ca c s n z=Cj c s n z:=by
 intro c s n
 induction n with
 | zero=>intro z;rfl
 | succ n ih=>intro z;rw [Ca,Cj];simp only [ih]
theorem Lz {c:Aa} {s:Ac} (hb:Bd_ c) (h1:s.Ends.length=cA c) (h2:s.Inputs.length<=1000) (h3:s.Values.length<=1000):Oh FF c s=some (vals s):=by
 rw [← Ly hb h1 h2 h3];unfold Oh m225;simp only [Yh]
theorem Kj {s:Ac} (h1:s.Ends.length<=1000):Dj s FF ((0:Int),[])=some ((s.Ends.length:Int),AL s):=by
 obtain ⟨acc,he,hl⟩:=Ok (L:=Dj s) (mk:=λi acc=>((i:Int),acc)) (N:=s.Ends.length) (I:=λi acc=>acc=(s.Ends.take i).flatMap λe=>[e == 0,e == 2]) (λn i acc hi hI=>by
  subst hI;refine ⟨_,rfl,?_⟩;rw [Dj];dsimp only;have hlen:((s.Ends.take i).flatMap λe=>[e == 0,e == 2]).length<=10000:=by rw [Na,FJ];omega
  unfold app;rw [Aj,dt_ hi,ct_,Ai,gE_ om_,ob_,if_pos (by simp only [FN,HC];omega),ob_,An om_,Xg om_]) (λn acc _=>by
  rw [Dj];dsimp only;rw [Aj,df_ om_,cf_]) FF 0 [] om_ uF rfl
 subst he;try dsimp only at hl
 rw [n0] at hl;rw [hl,EN om_];rfl
theorem Yq {s:Ac} (h1:s.Ends.length<=1000) (h2:s.Inputs.length<=1000) (h3:s.Values.length<=1000):m203 FF s=some (vals s):=by
 unfold m203;rw [Kj h1,ob_];dsimp only;have h4:(AL s).length<=10000:=by unfold AL;rw [Na];omega
 unfold app;rw [if_pos om_,ob_,if_pos (by rw [DB];omega),ob_];rfl
theorem Xz {p q r:List Bool} (hp:p.length<=1000000) (hq:q.length<=1000000) (hr:r.length<=1000000):m266 FF [p,q,r]=some (p ++ q ++ r):=by
 unfold m266;have h1:Dh [p,q,r] FF ((0:Int),(0:Int))=some (((p.length + q.length + r.length:Nat):Int),3):=by
  show Dh [p,q,r] (99996 + 1 + 1 + 1 + 1) _=_;unfold Dh;rw [show decide ((0:Int) < (([p,q,r]:List (List Bool)).length:Int))=true by rfl,ct_,show idx [p,q,r] 0=some p by rfl,ob_];dsimp only;rw [Aq om_ om_,Aq om_ om_,df_ om_,cf_];unfold Dh;rw [show decide ((0:Int) + 1 < (([p,q,r]:List (List Bool)).length:Int))=true by rfl,ct_,show idx [p,q,r] (0 + 1)=some q by rfl,ob_];dsimp only;rw [Aq om_ om_,Aq om_ om_,df_ om_,cf_];unfold Dh;rw [show decide ((0:Int) + 1 + 1 < (([p,q,r]:List (List Bool)).length:Int))=true by rfl,ct_,show idx [p,q,r] (0 + 1 + 1)=some r by rfl,ob_];dsimp only;rw [Aq om_ om_,Aq om_ om_,df_ om_,cf_];unfold Dh;rw [show decide ((0:Int) + 1 + 1 + 1 < (([p,q,r]:List (List Bool)).length:Int))=false by rfl,cf_];congr 1;refine Prod.ext ?_ rfl;dsimp only;omega
 have h2:Dg [p,q,r] FF ((0:Int),[])=some ((3:Int),p ++ q ++ r):=by
  show Dg [p,q,r] (99996 + 1 + 1 + 1 + 1) _=_;unfold Dg app;rw [show decide ((0:Int) < (([p,q,r]:List (List Bool)).length:Int))=true by rfl,ct_,show idx [p,q,r] 0=some p by rfl,ob_,if_pos so_,ob_];dsimp only;rw [Aq om_ om_];unfold Dg app;rw [show decide ((0:Int) + 1 < (([p,q,r]:List (List Bool)).length:Int))=true by rfl,ct_,show idx [p,q,r] (0 + 1)=some q by rfl,ob_,if_pos so_,ob_];dsimp only;rw [Aq om_ om_];unfold Dg app;rw [show decide ((0:Int) + 1 + 1 < (([p,q,r]:List (List Bool)).length:Int))=true by rfl,ct_,show idx [p,q,r] (0 + 1 + 1)=some r by rfl,ob_,if_pos so_,ob_];dsimp only;rw [Aq om_ om_];unfold Dg;rw [show decide ((0:Int) + 1 + 1 + 1 < (([p,q,r]:List (List Bool)).length:Int))=false by rfl,cf_];rfl
 rw [h1,ob_];unfold m273;rw [if_pos (by dsimp only;omega),ob_,h2];rfl
theorem Wt:∀ {s:Ac} {n z},Lu s.Ends n z=Dj s n z:=by
 intro s n
 induction n with
 | zero=>intro z;rfl
 | succ n ih=>intro z;rw [Lu,Dj];simp only [ih]
theorem Sf {s:Ac} (h1:s.Ends.length<=1000) (h2:s.Inputs.length<=1000) (h3:s.Values.length<=1000) (a b c d e f):m259 FF a b c d e f s.Ends s.Valves s.Inputs s.Values s.Timers=some (vals s):=by
 unfold m259;rw [Wt,Kj h1,ob_];dsimp only;have h4:(AL s).length<=10000:=by unfold AL;rw [Na];omega
 rw [Xz om_ om_ om_,ob_];rfl
theorem Kv {xs:List Int} (h:xs.length<=1000):m33 FF xs=some xs:=by
 unfold m33 app;rw [if_pos so_];rfl
theorem Cr {xs:List Bool} (h:xs.length<=1000):m202 FF xs=some xs:=by
 unfold m202 app;rw [if_pos so_];rfl
def tup (s:Ac):(List Int)×(List Bool)×(List Bool)×(List Bool)×(List Int):=(s.Ends,s.Valves,s.Inputs,s.Values,s.Timers)
theorem Cu {s:Ac} (h:Smst s 1000):m135 FF s=some (tup s):=by
 obtain ⟨h1,h2,h3,h4,h5⟩:=h;unfold m135 app;rw [if_pos so_,ob_,if_pos so_,ob_,if_pos so_,ob_,if_pos so_,ob_,if_pos so_,ob_];rfl
theorem Lv {s:Ac} (h:Smst s 1000):m250 FF s=some (tup s):=by
 obtain ⟨h1,h2,h3,h4,h5⟩:=h;unfold m250;rw [Kv h1,ob_,Cr h2,ob_,Cr h3,ob_,Cr h4,ob_,Kv h5,ob_];rfl
theorem Tc {s:Ac} (h:Smst s 1000):m172 FF s=some (tup s):=Lv h
theorem Fit.sm {c:Aa} {s:Ac} (hb:Bd_ c) (h:Fit c s):Smst s 1000:=by
 have h1:=hb.a';have h2:=hb.i;have h3:=hb.s;obtain ⟨a1,a2,a3,a4,a5⟩:=h;constructor <;> omega
def Mz (c:Aa) (p:List Bool) (i:Nat) (v:List Bool):List Bool:=match c.Signals[i]? with
 | some x=>if x.Kind=0 then v.set i (ev 16 (p ++ v) x.On) else v
 | none=>v
def Dw (c:Aa) (s:Ac):Nat->List Bool
 | 0=>s.Values
 | i + 1=>Mz c (pre s) i (Dw c s i)
def Ar (c:Aa) (s:Ac):Ac:=⟨s.Ends,s.Valves,s.Inputs,Dw c s c.Signals.length,s.Timers⟩
theorem Dq {c:Aa} {s:Ac}:∀ {i:Nat},(Dw c s i).length=s.Values.length
 | 0=>rfl
 | i + 1=>by
  unfold Dw Mz;split
  ·split
   ·rw [FG,Dq]
   ·exact Dq
  ·exact Dq
theorem Xi {p v:List Bool} {i:Nat} {b:Bool}:(p ++ v).set (p.length + i) b=p ++ v.set i b:=by
 rw [List.set_append];rw [if_neg om_];congr 2;omega
theorem Sz {c:Aa} {s:Ac} (hc:Rt c) (h:Fit c s):m185 FF c s=some (Ar c s):=by
 have hb:=hc.bd;have h1:=hb.a';have h2:=hb.i;have h3:=hb.s;unfold m185;rw [Cu (h.sm hb),ob_];obtain ⟨v,he,hl⟩:=Ok (L:=Ee FF c (tup s)) (mk:=λi v=>((i:Int),v)) (N:=c.Signals.length) (I:=λi v=>v=Dw c s i) (λn i v hi hI=>by
  subst hI;refine ⟨_,rfl,?_⟩;have hx:c.Signals[i]?=some c.Signals[i]:=gE_ hi;have hvl:=Dq (c:=c) (s:=s) (i:=i);rw [Ee];dsimp only;rw [Aj,dt_ hi,ct_,Ai,hx,ob_,An om_];show _=Ee FF c (tup s) n (((i + 1:Nat):Int),Mz c (pre s) i (Dw c s i));unfold Mz;rw [hx];dsimp only;by_cases hk:c.Signals[i].Kind=0
  ·rw [if_pos hk,show (c.Signals[i].Kind == 0)=true by simpa using hk,ct_,ob_];obtain ⟨_,_,ho,_⟩:=hc.sig _ (DK hi);have hv:vals ⟨(tup s).1,(tup s).2.1,(tup s).2.2.1,Dw c s i,(tup s).2.2.2.2⟩=pre s ++ Dw c s i:=rfl;rw [Ly hb (by show s.Ends.length=_;exact h.e) (by show s.Inputs.length<=_;rw [h.i];omega) (by show (Dw c s i).length<=_;rw [hvl,h.x];omega),hv,ob_,Hg 16 FF _ _ (by rw [DB,h.pl,hvl,h.x];exact ho) uF,ob_,Ai,gE_ (by rw [hvl,h.x];exact hi),ob_,ob_];simp
  ·rw [if_neg hk,show (c.Signals[i].Kind == 0)=false by simpa using hk,cf_,ob_]) (λn v _=>by
  rw [Ee];dsimp only;rw [Aj,df_ om_,cf_]) FF 0 s.Values om_ uF rfl
 subst he;try dsimp only at hl
 rw [n0] at hl;show ((Ee FF c (tup s) FF ((0:Int),s.Values)).bind _)=_;rw [hl];rfl
theorem Yb {c:Aa} {s:Ac} (hc:Rt c) (h:Fit c s):m258 FF c.Actuators (cS c:Int) c.Inputs c.Signals c.Plus c.Minus s.Ends s.Valves s.Inputs s.Values s.Timers=some (Dw c s c.Signals.length):=by
 have hb:=hc.bd;have h1:=hb.a';have h2:=hb.i;have h3:=hb.s;obtain ⟨s1,s2,s3,s4,s5⟩:=h.sm hb;unfold m258;rw [Sf s1 s3 s4,ob_];obtain ⟨v,he,hl⟩:=Ok (L:=Ge FF (cS c:Int) c.Signals) (mk:=λi (v:List Bool×List Bool)=>((i:Int),v.1,v.2)) (N:=c.Signals.length) (I:=λi v=>v=(Dw c s i,pre s ++ Dw c s i)) (λn i v hi hI=>by
  subst hI;refine ⟨_,rfl,?_⟩;have hx:c.Signals[i]?=some c.Signals[i]:=gE_ hi;have hvl:=Dq (c:=c) (s:=s) (i:=i);have hS:cS c=2 * cA c + c.Inputs.length:=rfl;rw [Ge];dsimp only;rw [Aj,dt_ hi,ct_,Ai,hx,ob_,An om_,Aq om_ om_];show _=Ge FF (cS c:Int) c.Signals n (((i + 1:Nat):Int),Mz c (pre s) i (Dw c s i),pre s ++ Mz c (pre s) i (Dw c s i));unfold Mz;rw [hx];dsimp only;by_cases hk:c.Signals[i].Kind=0
  ·rw [if_pos hk,show (c.Signals[i].Kind == 0)=true by simpa using hk,ct_];obtain ⟨_,_,ho,_⟩:=hc.sig _ (DK hi);rw [Hf 16 FF _ _ (by rw [DB,h.pl,hvl,h.x];exact ho) uF,ob_,Ai,gE_ (by rw [hvl,h.x];exact hi),ob_,show (cS c:Int) + (i:Int)=((cS c + i:Nat):Int) by omega,Ai,gE_ (by rw [DB,h.pl,hvl,h.x];omega),ob_,ob_];dsimp only;rw [show ((cS c + i:Nat):Int).toNat=(pre s).length + i by rw [h.pl];omega,Xi];simp
  ·rw [if_neg hk,show (c.Signals[i].Kind == 0)=false by simpa using hk,cf_,ob_]) (λn v _=>by
  rw [Ge];dsimp only;rw [Aj,df_ om_,cf_]) FF 0 (s.Values,vals s) om_ uF rfl
 subst he;try dsimp only at hl
 rw [n0] at hl;rw [hl];rfl
theorem okE.che:∀ {d:Nat} {n:Int} {x:Expr},okE d n x->chE d n x=0
 | 0,_,_,h=>h.elim
 | d + 1,n,x,h=>by
  unfold chE;rw [if_pos h.1];have:∀ l:List Expr,(∀ y∈l,okE d n y)->fnz (l.map (chE d n))=0:=by
   intro l
   induction l with
   | nil=>intro _;rfl
   | cons y l ih=>
    intro hl;rw [DO];unfold fnz;rw [if_pos (hl y smp_).che];exact ih λz hz=>hl z (by simp [hz])
  exact this _ h.2.2
theorem Yp {n:Nat} {ls:List Bool} {x:Expr} (hx:Lt_ x) (ho:okE 16 n x) (hl:ls.length=n) (hn:n<=256):m204 FF x ls=some (ev 16 ls x,0):=by
 subst hl;unfold m204;rw [Mc hx om_ om_ uF,ho.che,ob_,zf_,cf_,So 16 FF _ _ ho uF];rfl
theorem Zb {c:Aa} {s:Ac} (hc:Rt c) (hw:Fw c) (h:Fit c s):m166 FF c s=some (tup (Ar c s)):=by
 have hb:=hc.bd;have h1:=hb.a';have h2:=hb.i;have h3:=hb.s;obtain ⟨s1,s2,s3,s4,s5⟩:=h.sm hb;unfold m166;rw [Kv s1,ob_,Cr s2,ob_,Cr s3,ob_,Cr s4,ob_,Kv s5,ob_,Yq s1 s3 s4,ob_];have hS:cS c=2 * cA c + c.Inputs.length:=rfl;have hL:cL c=cS c + c.Signals.length:=rfl;obtain ⟨v,he,hl⟩:=Ok (L:=Gr FF c) (mk:=λi (v:List Bool×List Bool)=>((i:Int),v.1,v.2)) (N:=c.Signals.length) (I:=λi v=>v=(Dw c s i,pre s ++ Dw c s i)) (λn i v hi hI=>by
  subst hI;refine ⟨_,rfl,?_⟩;have hx:c.Signals[i]?=some c.Signals[i]:=gE_ hi;have hvl:=Dq (c:=c) (s:=s) (i:=i);rw [Gr];dsimp only;rw [Aj,dt_ hi,ct_,Ai,hx,ob_,Hh hb,An om_];show _=Gr FF c n (((i + 1:Nat):Int),Mz c (pre s) i (Dw c s i),pre s ++ Mz c (pre s) i (Dw c s i));unfold Mz;rw [hx];dsimp only;by_cases hk:c.Signals[i].Kind=0
  ·rw [if_pos hk,show (c.Signals[i].Kind == 0)=true by simpa using hk,ct_];obtain ⟨_,_,ho,_⟩:=hc.sig _ (DK hi);rw [Yp (hw.on _ (DK hi)).1 ho (by rw [DB,h.pl,hvl,h.x];rfl) om_,ob_,ob_,Ai,gE_ (by rw [hvl,h.x];exact hi),ob_,Aq om_ om_,show (cS c:Int) + (i:Int)=((cS c + i:Nat):Int) by omega,Ai,gE_ (by rw [DB,h.pl,hvl,h.x];omega),ob_,ob_];dsimp only;rw [show ((cS c + i:Nat):Int).toNat=(pre s).length + i by rw [h.pl];omega,Xi];simp
  ·rw [if_neg hk,show (c.Signals[i].Kind == 0)=false by simpa using hk,cf_,ob_]) (λn v _=>by
  rw [Gr];dsimp only;rw [Aj,df_ om_,cf_]) FF 0 (s.Values,vals s) om_ uF rfl
 subst he;try dsimp only at hl
 rw [n0] at hl;rw [show vals (⟨s.Ends,s.Valves,s.Inputs,s.Values,s.Timers⟩:Ac)=vals s from rfl,hl];rfl
def ofb (ls:List Bool) (x:Ad):Bool:=(x.Kind == 1) && ev 16 ls x.Off
def chg (ls:List Bool) (x:Ad) (v:Bool) (t:Int):Bool×Int:=
 if x.Kind=1 then (if ev 16 ls x.On=ofb ls x then (v,t) else (ev 16 ls x.On,t))
 else if x.Kind=2 then (if ev 16 ls x.On=false then (false,0) else if t=0 then (v,1) else (v,t)) else (v,t)
def Ew (c:Aa) (g:Ac) (i:Nat):Bool×Int:=match c.Signals[i]? with
 | some x=>chg (vals g) x (g.Values.getD i false) (g.Timers.getD i 0)
 | none=>(false,0)
def nxtS (c:Aa) (g:Ac):Ac:=⟨g.Ends,g.Valves,g.Inputs,(List.range g.Values.length).map λi=>(Ew c g i).1,(List.range g.Timers.length).map λi=>(Ew c g i).2⟩
def Jg (c:Aa) (s:Ac):Ac:=nxtS c (Ar c s)
theorem En {c:Aa} {s:Ac} (h:Fit c s):Fit c (Ar c s):=by
 refine ⟨h.e,h.v,h.i,Dq.trans h.x,h.t,h.ee,h.tt,?_⟩;intro i x t v hx ht hv;refine ⟨λhk=>?_,λhk=>?_⟩
 ·have hi:i < s.Values.length:=by rw [h.x];exact (DG.1 hx).1
  exact (h.k i x t _ hx ht (gE_ hi)).1 hk
 ·-- the value of a timer is not a gate's
  have key:∀ n,(Dw c s n)[i]?=s.Values[i]?:=by
   intro n
   induction n with
   | zero=>rfl
   | succ n ih=>
    unfold Dw Mz;cases hy:c.Signals[n]? with
    | none=>exact ih
    | some y=>
     dsimp only;split
     ·rename_i h0;have:n≠i:=λe=>by subst e;rw [hx] at hy;cases hy;omega
      rw [FA this];exact ih
     ·exact ih
  have hv':(Dw c s c.Signals.length)[i]?=some v:=hv;rw [key] at hv';exact (h.k i x t v hx ht hv').2 hk
theorem C2 {ls:List Bool} {x:Ad} {v:Bool} {t:Int} (h0:0<=t/\t < 3) (h:(x.Kind≠2->t=0)/\(x.Kind=2->v=(t == 2))) :
  (0<=(chg ls x v t).2/\(chg ls x v t).2 < 3)/\(x.Kind≠2->(chg ls x v t).2=0)/\(x.Kind=2->(chg ls x v t).1=((chg ls x v t).2 == 2)):=by
 unfold chg;by_cases h1:x.Kind=1
 ·rw [if_pos h1];split
  ·exact ⟨h0,h⟩
  ·exact ⟨h0,h.1,λh2=>by omega⟩
 ·rw [if_neg h1];by_cases h2:x.Kind=2
  ·rw [if_pos h2];split
   ·exact ⟨by simp,λh3=>absurd h2 h3,λ_=>rfl⟩
   ·split
    ·rename_i ht;refine ⟨by simp,λh3=>absurd h2 h3,λ_=>?_⟩;have:=h.2 h2;rw [ht] at this;exact this
    ·exact ⟨h0,h⟩
  ·rw [if_neg h2];exact ⟨h0,h⟩
theorem BG {c:Aa} {g:Ac} (h:Fit c g):Fit c (nxtS c g):=by
 have hget:∀ (i:Nat) x,c.Signals[i]?=some x->∃ v t,g.Values[i]?=some v/\g.Timers[i]?=some t/\Ew c g i=chg (vals g) x v t:=by
  intro i x hx;have hi:=(DG.1 hx).1;have h1:i < g.Values.length:=by rw [h.x];exact hi
  have h2:i < g.Timers.length:=by rw [h.t];exact hi
  refine ⟨g.Values[i],g.Timers[i],gE_ h1,gE_ h2,?_⟩;unfold Ew;rw [hx];simp [gE_ h1,gE_ h2]
 refine ⟨h.e,h.v,h.i,by simp [nxtS,h.x],by simp [nxtS,h.t],h.ee,?_,?_⟩
 ·intro a ha;obtain ⟨i,hi,rfl⟩:=E3.1 ha;have hi:i < c.Signals.length:=by have:=DZ.1 hi;rw [h.t] at this;exact this
  obtain ⟨v,t,h1,h2,h3⟩:=hget i _ (gE_ hi);rw [h3];exact (C2 (h.tt t (DP h2)) (h.k i _ t v (gE_ hi) h2 h1)).1
 ·intro i x t v hx ht hv;obtain ⟨v0,t0,h1,h2,h3⟩:=hget i x hx;have hi:=(DG.1 hx).1;have ht':((List.range g.Timers.length).map λi=>(Ew c g i).2)[i]?=some t:=ht;have hv':((List.range g.Values.length).map λi=>(Ew c g i).1)[i]?=some v:=hv;rw [DX,ER (by rw [h.t];exact hi)] at ht';rw [DX,ER (by rw [h.x];exact hi)] at hv';have ht':=Option.some.inj ht';have hv':=Option.some.inj hv';dsimp only at ht' hv';rw [h3] at ht' hv';subst ht';subst hv';exact (C2 (h.tt t0 (DP h2)) (h.k i x t0 v0 hx h2 h1)).2
theorem Pg {c:Aa} {s:Ac} (h:Fit c s):Fit c (Jg c s):=BG (En h)
theorem Se {c:Aa} {x:Ad} {ls:List Bool} (hl:ls.length=cL c) (ho:okE 16 (cL c) x.On) (hf:x.Kind=1->okE 16 (cL c) x.Off):m263 FF x ls=some (ev 16 ls x.On,ofb ls x):=by
 unfold m263 ofb;rw [Hg 16 FF _ _ (by rw [hl];exact ho) uF,ob_];by_cases hk:x.Kind=1
 ·rw [show (x.Kind == 1)=true by simpa using hk,ct_,Hg 16 FF _ _ (by rw [hl];exact hf hk) uF];rfl
 ·rw [show (x.Kind == 1)=false by simpa using hk];rfl
theorem Ya {c:Aa} {g:Ac} (hc:Rt c) (h:Fit c g) {i:Nat} {x:Ad} (hx:c.Signals[i]?=some x):∃ s' b,m262 FF c g (i:Int)=some (s',b)/\s'.Values[i]?=some (Ew c g i).1/\s'.Timers[i]?=some (Ew c g i).2:=by
 have hb:=hc.bd;have h1:=hb.a';have h2:=hb.i;have h3:=hb.s;have hi:=(DG.1 hx).1;obtain ⟨k0,k3,ho,hf⟩:=hc.sig x (DP hx);have hv0:i < g.Values.length:=by rw [h.x];exact hi
 have ht0:i < g.Timers.length:=by rw [h.t];exact hi
 have hv:g.Values[i]?=some g.Values[i]:=gE_ hv0;have ht:g.Timers[i]?=some g.Timers[i]:=gE_ ht0;generalize g.Values[i]=v at hv;generalize g.Timers[i]=t at ht;have hci:Ew c g i=chg (vals g) x v t:=by
  unfold Ew;rw [hx];simp [hv,ht]
 unfold m262;rw [Cu (h.sm hb),ob_,Ai,hx,ob_,Lz hb h.e (by rw [h.i];omega) (by rw [h.x];omega),ob_,Se h.vl ho hf,ob_,hci];unfold tup chg;dsimp only;simp only [Ai,hv,ht,ob_,EL];have hvl:i < g.Values.length:=by rw [h.x];exact hi
 have htl:i < g.Timers.length:=by rw [h.t];exact hi
 have hk:x.Kind=0\/x.Kind=1\/x.Kind=2:=by omega
 rcases hk with k | k | k <;> rw [k]
 ·simp only [show ((0:Int) == 1)=false by rfl,show ((0:Int) == 2)=false by rfl,FQ,cf_,ob_,show ¬ ((0:Int)=1) by omega,show ¬ ((0:Int)=2) by omega,if_false];exact ⟨_,_,rfl,hv,ht⟩
 ·simp only [show ((1:Int) == 1)=true by rfl,show ((1:Int) == 2)=false by rfl,FC,FQ,cf_,ob_,if_true];by_cases e:ev 16 (vals g) x.On=ofb (vals g) x
  ·rw [if_pos e,e];simp only [bne_self_eq_false,cf_];exact ⟨_,_,rfl,hv,ht⟩
  ·rw [if_neg e,show (ev 16 (vals g) x.On != ofb (vals g) x)=true by simpa using e,ct_];exact ⟨_,_,rfl,by dsimp only;rw [EJ hvl],ht⟩
 ·simp only [show ((2:Int) == 1)=false by rfl,show ((2:Int) == 2)=true by rfl,FC,FQ,cf_,ct_,ob_,show ¬ ((2:Int)=1) by omega,if_false,if_true];cases ev 16 (vals g) x.On with
  | false=>
   simp only [GE,ct_,if_true];exact ⟨_,_,rfl,by dsimp only;rw [EJ hvl],by dsimp only;rw [EJ htl]⟩
  | true=>
   simp only [FY,cf_,show ¬ (true=false) by simp,if_false];by_cases e:t=0
   ·rw [if_pos e,show (t == 0)=true by simpa using e,ct_];exact ⟨_,_,rfl,hv,by dsimp only;rw [EJ htl];rfl⟩
   ·rw [if_neg e,show (t == 0)=false by simpa using e,cf_];exact ⟨_,_,rfl,hv,ht⟩
def onPi (c:Aa) (g:Ac) (i:Nat) (x:Int):Prop:=∃ j sig,j < i/\c.Signals[j]?=some sig/\x=((cS c + j:Nat):Int)/\(ev 16 (vals g) sig.On && ofb (vals g) sig)=true
def onP (c:Aa) (s:Ac) (x:Int):Prop:=onPi c (Ar c s) c.Signals.length x
theorem Rf {c:Aa} {g:Ac} {x:Int}:¬ onPi c g 0 x:=λ⟨j,_,h,_⟩=>by omega
theorem Rh {c:Aa} {g:Ac} {i:Nat} {x:Int} (hi:i < c.Signals.length):onPi c g (i + 1) x↔onPi c g i x\/(x=((cS c + i:Nat):Int)/\(ev 16 (vals g) c.Signals[i].On && ofb (vals g) c.Signals[i])=true):=by
 constructor
 ·rintro ⟨j,sig,h1,h2,h3,h4⟩;by_cases h:j=i
  ·subst h;rw [gE_ hi] at h2;cases h2;exact .inr ⟨h3,h4⟩
  ·exact .inl ⟨j,sig,by omega,h2,h3,h4⟩
 ·rintro (⟨j,sig,h1,h2,h3,h4⟩ | ⟨h3,h4⟩)
  ·exact ⟨j,sig,by omega,h2,h3,h4⟩
  ·exact ⟨i,_,by omega,gE_ hi,h3,h4⟩
theorem onP_lt {c:Aa} {s:Ac} {x:Int} (h:onP c s x):∃ k:Nat,x=k/\k < cL c:=by
 obtain ⟨j,_,h1,_,h3,_⟩:=h;exact ⟨_,h3,by have hL:cL c=cS c + c.Signals.length:=rfl;omega⟩
theorem Xq {l:List Int} {x y:Int} {b:Bool} {p:Int->Prop} (h:∀ x,x∈l↔p x):x∈(if b=true then l ++ [y] else l)↔p x\/(x=y/\b=true):=by
 cases b
 ·rw [if_neg smp_,h];simp
 ·rw [if_pos rfl,DS,h];simp
theorem Yc {c:Aa} {s:Ac} (hc:Rt c) (h:Fit c s):∃ l,m255 FF c s=some (Jg c s,l)/\l.length<=c.Signals.length/\∀ x,x∈l↔onP c s x:=by
 have hb:=hc.bd;have h1:=hb.a';have h2:=hb.i;have h3:=hb.s;have hg:=En h;have hS:cS c=2 * cA c + c.Inputs.length:=rfl;unfold m255;rw [Sz hc h,ob_,Cu (hg.sm hb),ob_];generalize hgg:Ar c s=g at hg;have hvl:g.Values.length=c.Signals.length:=hg.x;have htl:g.Timers.length=c.Signals.length:=hg.t;obtain ⟨v,he,hl⟩:=Ok (L:=Gf FF c g) (mk:=λi (v:List Bool×List Int×List Int)=>((i:Int),v.1,v.2.1,v.2.2)) (N:=c.Signals.length) (I:=λi v=>v.1=upd (λi=>(Ew c g i).1) g.Values i/\v.2.1=upd (λi=>(Ew c g i).2) g.Timers i/\v.2.2.length<=i/\∀ x,x∈v.2.2↔onPi c g i x) (λn i v hi hI=>by
  obtain ⟨V,T,l⟩:=v;obtain ⟨rfl,rfl,hll,hmm⟩:=hI;have hx:c.Signals[i]?=some c.Signals[i]:=gE_ hi;obtain ⟨_,_,ho,hf⟩:=hc.sig _ (DK hi);obtain ⟨s',b,e1,e2,e3⟩:=Ya hc hg hx;have e4:(upd (λi=>(Ew c g i).1) g.Values i)[i]?=some g.Values[i]:=by rw [Bz (DW i)];exact gE_ om_
  have e5:(upd (λi=>(Ew c g i).2) g.Timers i)[i]?=some g.Timers[i]:=by rw [Bz (DW i)];exact gE_ om_
  refine ⟨(upd (λi=>(Ew c g i).1) g.Values (i + 1),upd (λi=>(Ew c g i).2) g.Timers (i + 1),if (ev 16 (vals g) c.Signals[i].On && ofb (vals g) c.Signals[i])=true then l ++ [((cS c + i:Nat):Int)] else l),⟨rfl,rfl,?_⟩,?_⟩
  ·dsimp only at hll hmm ⊢;refine ⟨by split <;> (try simp) <;> omega,λx=>?_⟩
   rw [Xq hmm,Rh hi]
  ·rw [Gf];dsimp only at hll ⊢;rw [Aj,dt_ hi,ct_,e1,ob_];dsimp only;rw [Ai,e2,ob_,Ai,e3,ob_,Ai,e4,ob_,Ai,e5,ob_,Ai,hx,ob_,Lz hb hg.e (by rw [hg.i];omega) om_,ob_,Se hg.vl ho hf,ob_];dsimp only;unfold m264;rw [Ed hb,ob_,Aq om_ om_,show (cS c:Int) + (i:Int)=((cS c + i:Nat):Int) by omega,An om_,EL,Cz om_ rfl,Cz om_ rfl];cases ev 16 (vals g) c.Signals[i].On && ofb (vals g) c.Signals[i] with
   | true=>
    unfold app;rw [ct_,ob_,if_pos so_];rfl
   | false=>rfl) (λn v _=>by
  rw [Gf];dsimp only;rw [Aj,df_ om_,cf_]) FF 0 (g.Values,g.Timers,[]) om_ uF ⟨By.symm,By.symm,by simp,λx=>by simp [Rf]⟩
 obtain ⟨V,T,l⟩:=v;obtain ⟨rfl,rfl,hll,hmm⟩:=he;try dsimp only at hl hll hmm
 rw [n0] at hl;show ∃ l,((Gf FF c g FF ((0:Int),g.Values,g.Timers,[])).bind _)=_/\_;rw [hl];refine ⟨l,?_,hll,by unfold onP;rw [hgg];exact hmm⟩;unfold Jg nxtS;rw [hgg,ob_];dsimp only;have e1:upd (λi=>(Ew c g i).1) g.Values c.Signals.length=(List.range g.Values.length).map λi=>(Ew c g i).1:=by rw [← hvl];exact Da
 have e2:upd (λi=>(Ew c g i).2) g.Timers c.Signals.length=(List.range g.Timers.length).map λi=>(Ew c g i).2:=by rw [← htl];exact Da
 rw [e1,e2];rfl
theorem Ye {c:Aa} {s:Ac} (hc:Rt c) (h:Fit c s):∃ l,m251 FF c.Actuators (cS c:Int) c.Inputs c.Signals c.Plus c.Minus s.Ends s.Valves s.Inputs s.Values s.Timers=some (!sst s (Jg c s),l,(Jg c s).Values,(Jg c s).Timers)/\l.length<=c.Signals.length/\∀ x,x∈l↔onP c s x:=by
 have hb:=hc.bd;have h1:=hb.a';have h2:=hb.i;have h3:=hb.s;have hg:=En h;have hS:cS c=2 * cA c + c.Inputs.length:=rfl;obtain ⟨s1,s2,s3,s4,s5⟩:=hg.sm hb;unfold m251 m260;rw [show (⟨s.Ends,s.Valves,s.Inputs,s.Values,s.Timers⟩:Ac)=s from rfl,Lv (h.sm hb),ob_,Yb hc h,ob_];have h318:=Sf (s:=Ar c s) s1 s3 s4 c.Actuators (cS c:Int) c.Inputs c.Signals c.Plus c.Minus;rw [show (Ar c s).Ends=s.Ends from rfl,show (Ar c s).Valves=s.Valves from rfl,show (Ar c s).Inputs=s.Inputs from rfl,show (Ar c s).Timers=s.Timers from rfl,show (Ar c s).Values=Dw c s c.Signals.length from rfl] at h318;rw [h318,ob_,ob_];have hvl:(Dw c s c.Signals.length).length=c.Signals.length:=hg.x;have htl:s.Timers.length=c.Signals.length:=hg.t;obtain ⟨v,he,hl⟩:=Ok (L:=Jj FF (cS c:Int) c.Signals (vals (Ar c s))) (mk:=λi (v:List Bool×List Int×List Int)=>((i:Int),v.1,v.2.1,v.2.2)) (N:=c.Signals.length) (I:=λi v=>v.1=upd (λi=>(Ew c (Ar c s) i).1) (Dw c s c.Signals.length) i/\v.2.1=upd (λi=>(Ew c (Ar c s) i).2) s.Timers i/\v.2.2.length<=i/\∀ x,x∈v.2.2↔onPi c (Ar c s) i x) (λn i v hi hI=>by
  obtain ⟨V,T,l⟩:=v;obtain ⟨rfl,rfl,hll,hmm⟩:=hI;have hx:c.Signals[i]?=some c.Signals[i]:=gE_ hi;obtain ⟨k0,k3,ho,hf⟩:=hc.sig _ (DK hi);have e4:(upd (λi=>(Ew c (Ar c s) i).1) (Dw c s c.Signals.length) i)[i]?=some (Dw c s c.Signals.length)[i]:=by rw [Bz (DW i)];exact gE_ om_
  have e5:(upd (λi=>(Ew c (Ar c s) i).2) s.Timers i)[i]?=some s.Timers[i]:=by rw [Bz (DW i)];exact gE_ om_
  have hci:Ew c (Ar c s) i=chg (vals (Ar c s)) c.Signals[i] (Dw c s c.Signals.length)[i] s.Timers[i]:=by
   unfold Ew;rw [hx];simp [Ar,gE_ (show i < (Dw c s c.Signals.length).length by omega),gE_ (show i < s.Timers.length by omega)]
  have hbody:∃ b,(((bif (c.Signals[i].Kind.toNat) == 0 then m267 FF (⟨(Dw c s c.Signals.length)[i],s.Timers[i],false⟩:Af) (ev 16 (vals (Ar c s)) c.Signals[i].On) (ofb (vals (Ar c s)) c.Signals[i]) else bif (c.Signals[i].Kind.toNat) == 1 then m268 FF (⟨(Dw c s c.Signals.length)[i],s.Timers[i],false⟩:Af) (ev 16 (vals (Ar c s)) c.Signals[i].On) (ofb (vals (Ar c s)) c.Signals[i]) else bif (c.Signals[i].Kind.toNat) == 2 then m269 FF (⟨(Dw c s c.Signals.length)[i],s.Timers[i],false⟩:Af) (ev 16 (vals (Ar c s)) c.Signals[i].On) (ofb (vals (Ar c s)) c.Signals[i]) else none)))=some (⟨(Ew c (Ar c s) i).1,(Ew c (Ar c s) i).2,b⟩:Af)/\b=(ev 16 (vals (Ar c s)) c.Signals[i].On && ofb (vals (Ar c s)) c.Signals[i]):=by
   rw [hci];have hk:c.Signals[i].Kind=0\/c.Signals[i].Kind=1\/c.Signals[i].Kind=2:=by omega
   unfold chg;rcases hk with k | k | k <;> rw [k]
   ·exact ⟨false,rfl,by unfold ofb;rw [k];simp⟩
   ·rw [show ((1:Int).toNat == 0)=false by rfl,show ((1:Int).toNat == 1)=true by rfl,cf_,ct_,if_pos rfl];unfold m268;cases ev 16 (vals (Ar c s)) c.Signals[i].On <;> cases ofb (vals (Ar c s)) c.Signals[i] <;> exact ⟨_,rfl,rfl⟩
   ·rw [show ((2:Int).toNat == 0)=false by rfl,show ((2:Int).toNat == 1)=false by rfl,show ((2:Int).toNat == 2)=true by rfl,cf_,cf_,ct_,if_neg om_,if_pos rfl];unfold m269;cases ev 16 (vals (Ar c s)) c.Signals[i].On with
    | false=>exact ⟨_,rfl,rfl⟩
    | true=>
     rw [nt_,cf_,if_neg smp_];by_cases e:s.Timers[i]=0
     ·rw [if_pos e,show (s.Timers[i] == 0)=true by simpa using e];exact ⟨_,rfl,by unfold ofb;rw [k];rfl⟩
     ·rw [if_neg e,show (s.Timers[i] == 0)=false by simpa using e];exact ⟨_,rfl,by unfold ofb;rw [k];rfl⟩
  obtain ⟨b,hbody,hbe⟩:=hbody;refine ⟨(upd (λi=>(Ew c (Ar c s) i).1) (Dw c s c.Signals.length) (i + 1),upd (λi=>(Ew c (Ar c s) i).2) s.Timers (i + 1),if b=true then l ++ [((cS c + i:Nat):Int)] else l),⟨rfl,rfl,?_⟩,?_⟩
  ·dsimp only at hll hmm ⊢;refine ⟨by split <;> (try simp) <;> omega,λx=>?_⟩
   rw [Xq hmm,Rh hi,← hbe]
  ·rw [Jj];dsimp only at hll ⊢;have hr3:idx (List.range 3) c.Signals[i].Kind=some c.Signals[i].Kind.toNat:=by
    have hk:c.Signals[i].Kind=0\/c.Signals[i].Kind=1\/c.Signals[i].Kind=2:=by omega
    rcases hk with k | k | k <;> rw [k] <;> rfl
   have hoff:(bif (c.Signals[i].Kind == 1) then (m261 FF (c.Signals[i].Off) (vals (Ar c s))).bind λx19=>some x19 else some false)=some (ofb (vals (Ar c s)) c.Signals[i]):=by
    unfold ofb;by_cases hk:c.Signals[i].Kind=1
    ·rw [show (c.Signals[i].Kind == 1)=true by simpa using hk,ct_,Hf 16 FF _ _ (by rw [hg.vl];exact hf hk) uF];rfl
    ·rw [show (c.Signals[i].Kind == 1)=false by simpa using hk];rfl
   rw [Aj,dt_ hi,ct_,Ai,hx,ob_,hr3,ob_,Ai,e4,ob_,Ai,e5,ob_,Hf 16 FF _ _ (by rw [hg.vl];exact ho) uF,ob_,hoff,ob_,hbody,ob_,ob_,ob_];dsimp only;rw [Aq om_ om_,show (cS c:Int) + (i:Int)=((cS c + i:Nat):Int) by omega,An om_,EL,Cz om_ rfl,Cz om_ rfl];cases b with
   | true=>
    unfold app;rw [ct_,if_pos so_];rfl
   | false=>rfl) (λn v _=>by
  rw [Jj];dsimp only;rw [Aj,df_ om_,cf_]) FF 0 (Dw c s c.Signals.length,s.Timers,[]) om_ uF ⟨By.symm,By.symm,by simp,λx=>by simp [Rf]⟩
 obtain ⟨V,T,l⟩:=v;obtain ⟨rfl,rfl,hll,hmm⟩:=he;try dsimp only at hl hll hmm
 rw [n0] at hl;rw [hl,ob_];dsimp only;have e1:upd (λi=>(Ew c (Ar c s) i).1) (Dw c s c.Signals.length) c.Signals.length=(Jg c s).Values:=by
  unfold Jg nxtS;dsimp only
  conv=>lhs;rw [show c.Signals.length=(Dw c s c.Signals.length).length from hvl.symm]
  rw [show (Ar c s).Values=Dw c s c.Signals.length from rfl,hvl];rw [← hvl,hvl];have:=Da (f:=λi=>(Ew c (Ar c s) i).1) (l:=Dw c s c.Signals.length);rw [hvl] at this;exact this
 have e2:upd (λi=>(Ew c (Ar c s) i).2) s.Timers c.Signals.length=(Jg c s).Timers:=by
  have:=Da (f:=λi=>(Ew c (Ar c s) i).2) (l:=s.Timers);rw [htl] at this;rw [this];unfold Jg nxtS;dsimp only;rw [show (Ar c s).Timers=s.Timers from rfl,htl]
 rw [e1,e2];refine ⟨l,?_,hll,hmm⟩;have e3:(⟨s.Ends,s.Valves,s.Inputs,(Jg c s).Values,(Jg c s).Timers⟩:Ac)=Jg c s:=rfl;unfold tup;dsimp only;rw [e3,Md (n:=1000) (h.sm hb) uF om_];rfl
end Go.Pn
namespace Go.Pn
open Go
theorem Aw {α:Type} {xs ys:List α} (h:xs.length + ys.length<=1073741824):app xs ys=some (xs ++ ys):=if_pos h
def stl (c:Aa):Nat->Ac->Option Ac
 | 0,_=>none
 | k + 1,s=>if sst s (Jg c s)=true then some s else stl c k (Jg c s)
structure Kp (s t:Ac):Prop where
 e:t.Ends=s.Ends
 v:t.Valves=s.Valves
 i:t.Inputs=s.Inputs
theorem Jy {c:Aa}:∀ {k:Nat} {s t:Ac},Fit c s->stl c k s=some t->Fit c t/\Kp s t/\sst t (Jg c t)=true
 | 0,_,_,_,h=>by cases h
 | k + 1,s,t,hf,h=>by
  unfold stl at h;split at h
  ·rename_i h1;obtain rfl:=Option.some.inj h;exact ⟨hf,⟨rfl,rfl,rfl⟩,h1⟩
  ·obtain ⟨h1,⟨h2,h3,h4⟩,h5⟩:=Jy (Pg hf) h;exact ⟨h1,⟨h2,h3,h4⟩,h5⟩
def Cs (l:List Int) (p:Int->Prop):Prop:=l.Pairwise (· < ·)/\∀ x,x∈l↔p x
theorem Cs.iff {l:List Int} {p q:Int->Prop} (h:Cs l p) (e:∀ x,p x↔q x):Cs l q:=⟨h.1,λx=>(h.2 x).trans (e x)⟩
theorem Cs.nil {p:Int->Prop} (h:∀ x,¬ p x):Cs [] p:=⟨.nil,λx=>by simp [h x]⟩
theorem Cs.snoc {l:List Int} {p:Int->Prop} {y:Int} (h:Cs l p) (hy:∀ x,p x->x < y):Cs (l ++ [y]) λx=>p x\/x=y:=
 ⟨List.pairwise_append.2 ⟨h.1,by simp,λa ha b hb=>by
  obtain rfl:b=y:=by simpa using hb
  exact hy a ((h.2 a).1 ha)⟩,λx=>by rw [DS,h.2];simp⟩
theorem Wy {zs:List Int} (h:zs.Pairwise (·<=·)):Cs (Lib.compact zs) (·∈zs):=by
 have hle:∀ i j,(_:i<=j)->(hj:j < zs.length)->zs[i]'om_<=zs[j]:=λi j hij hj=>by
  by_cases e:i=j
  ·subst e;exact G3 _
  ·exact GH.1 h i j om_ hj om_
 have hd:∀ i,(hi:i < zs.length)->zs.toArray[i]! = zs[i]:=λi hi=>by simp [hi]
 unfold Lib.compact Lib.compactUpTo;constructor
 ·rw [List.pairwise_map];refine (List.Pairwise.filter _ List.pairwise_lt_range).imp_of_mem λ{a b} ha hb hab=>?_;obtain ⟨ha1,_⟩:=GS.1 ha;obtain ⟨hb1,hb2⟩:=GS.1 hb;have ha1:=DZ.1 ha1;have hb1:=DZ.1 hb1;have hk:zs.toArray[b]! ≠ zs.toArray[b - 1]!:=(of_decide_eq_true hb2).resolve_left om_;rw [hd b hb1,hd (b - 1) om_] at hk;rw [hd a ha1,hd b hb1];have h1:=hle a (b - 1) om_ om_;have h2:=hle (b - 1) b om_ hb1;omega
 ·intro x;constructor
  ·intro hx;obtain ⟨i,hi,rfl⟩:=E3.1 hx;have hi:=DZ.1 (GS.1 hi).1;rw [hd i hi];exact DK hi
  ·intro hx;cases hf:zs.findIdx? (· == x) with
   | none=>
    rw [EG] at hf;have:=hf x hx;simp at this
   | some i=>
    obtain ⟨hi,h1,h2⟩:=D6.1 hf;have h1:zs[i]=x:=by simpa using h1
    refine E3.2 ⟨i,GS.2 ⟨List.mem_range.2 hi,dt_ ?_⟩,by rw [hd i hi,h1]⟩;by_cases h0:i=0
    ·exact .inl h0
    ·right;rw [hd i hi,hd (i - 1) om_,h1];have:=h2 (i - 1) om_;exact λe=>this (by simp [← e])
theorem Uu {l:List Int} (h:l.length<=900000000):∃ r1 r2,m82 FF l=some r1/\m208 FF r1=some r2/\r2.length<=l.length/\Cs r2 (·∈l):=by
 have hl:(isort l).length=l.length:=(isort_perm l).length_eq;refine ⟨isort l,Lib.compact (isort l),by unfold m82;rw [if_pos om_],by unfold m208;rw [if_pos om_],by rw [← hl];exact compact_le _,?_⟩;have hs:=isort_pw l;exact (Wy hs).iff λx=>(isort_perm l).mem_iff
def Wl (c:Aa):Nat->Ac->Int->Prop
 | 0,_,_=>False
 | k + 1,s,x=>onP c s x\/(sst s (Jg c s)=false/\Wl c k (Jg c s) x)
def mgP (m:List (Int×Bool)) (x:Int):Prop:=(mat Hv m x).getD false=true
theorem Sh (x6:Ac×List Int) (hl:x6.2.length<=1000) (m:List (Int×Bool)):∃ z m',Gi x6 FF ((0:Int),m)=some (z,m')/\∀ x,mgP m' x↔mgP m x\/x∈x6.2:=by
 obtain ⟨v,hv,h⟩:=Ok (L:=Gi x6) (mk:=λi (m:List (Int×Bool))=>((i:Int),m)) (N:=x6.2.length) (I:=λi v=>∀ x,mgP v x↔mgP m x\/x∈x6.2.take i) (λn i v hi hI=>by
  refine ⟨Dx Hv v x6.2[i] true,λx=>?_,?_⟩
  ·have h1:mgP (Dx Hv v x6.2[i] true) x↔x=x6.2[i]\/mgP v x:=by
    unfold mgP;rw [mat_put];split
    ·rename_i e;simp [e]
    ·rename_i e;simp [e]
   rw [h1,hI,FU,gE_ hi,DS];simp only [Option.toList_some,FP];constructor
   ·rintro (h | h | h)
    ·exact .inr (.inr h)
    ·exact .inl h
    ·exact .inr (.inl h)
   ·rintro (h | h | h)
    ·exact .inr (.inl h)
    ·exact .inr (.inr h)
    ·exact .inl h
  ·rw [Gi];dsimp only;rw [Aj,dt_ hi,ct_,Ai,gE_ hi,ob_,An om_]) (λn m _=>by
  rw [Gi];dsimp only;rw [Aj,df_ om_,cf_]) FF 0 m om_ uF (λx=>by simp)
 try dsimp only at h
 rw [n0] at h;rw [List.take_length] at hv;exact ⟨_,_,h,hv⟩
theorem Sg {c:Aa} (hb:Bd_ c) (o:Int×List (Int×Bool)):∃ z l,Gg FF c o FF ((0:Int),[])=some (z,l)/\l.length<=cL c/\Cs l λx=>∃ k:Nat,x=k/\k < cL c/\mgP o.2 x:=by
 have h1:=hb.a';have h2:=hb.i;have h3:=hb.s;have hS:cS c=2 * cA c + c.Inputs.length:=rfl;have hL:cL c=cS c + c.Signals.length:=rfl;obtain ⟨v,⟨hv,hw⟩,h⟩:=Ok (L:=Gg FF c o) (mk:=λi (m:List Int)=>((i:Int),m)) (N:=cL c) (I:=λi l=>l.length<=i/\Cs l λx=>∃ k:Nat,x=k/\k < i/\mgP o.2 x) (λn i m hi hI=>by
  obtain ⟨hI,hC⟩:=hI;rw [Gg];dsimp only;rw [Ec hb,ob_,Aj,dt_ hi,ct_,An om_];cases hm:(mat Hv o.2 (i:Int)).getD false with
  | true=>
   unfold app;rw [ct_,if_pos so_];refine ⟨m ++ [(i:Int)],⟨by simp;omega,(hC.snoc (y:=(i:Int)) λx ⟨k,hk,hk2,_⟩=>by omega).iff λx=>?_⟩,rfl⟩;constructor
   ·rintro (⟨k,a1,a2,a3⟩ | rfl)
    ·exact ⟨k,a1,by omega,a3⟩
    ·exact ⟨i,rfl,by omega,hm⟩
   ·rintro ⟨k,rfl,a2,a3⟩;by_cases e:k=i
    ·subst e;exact .inr rfl
    ·exact .inl ⟨k,rfl,by omega,a3⟩
  | false=>
   refine ⟨m,⟨by omega,hC.iff λx=>?_⟩,rfl⟩;constructor
   ·rintro ⟨k,a1,a2,a3⟩;exact ⟨k,a1,by omega,a3⟩
   ·rintro ⟨k,rfl,a2,a3⟩;by_cases e:k=i
    ·subst e;unfold mgP at a3;rw [hm] at a3;cases a3
    ·exact ⟨k,rfl,by omega,a3⟩) (λn m _=>by
  rw [Gg];dsimp only;rw [Ec hb,ob_,Aj,df_ om_,cf_]) FF 0 [] om_ uF ⟨by simp,Cs.nil λx ⟨k,_,h,_⟩=>by omega⟩
 try dsimp only at h
 rw [n0] at h;exact ⟨_,_,h,hv,hw⟩
theorem Kh {c:Aa} (hc:Rt c):∀ (k n j:Nat) (s:Ac) (m:List (Int×Bool)),j + k=65->k < n->Fit c s ->
  match stl c k s with
  | some t=>∃ l z,Gj FF c n ((j:Int),s,m)=some (.ret (t,l,z,true))/\l.length<=100/\Cs l λx=>(∃ k:Nat,x=k/\k < cL c/\mgP m x)\/Wl c k s x
  | none=>∃ q,Gj FF c n ((j:Int),s,m)=some (.brk q)
 | _,0,_,_,_,_,h,_=>by omega
 | 0,n + 1,j,s,m,h1,h2,hf=>by
  unfold stl Gj;dsimp only;rw [show decide ((j:Int)<=64)=false by simp;omega,cf_];exact ⟨_,rfl⟩
 | k + 1,n + 1,j,s,m,h1,h2,hf=>by
  have hb:=hc.bd;have h3:=hb.s;have hS:cS c=2 * cA c + c.Inputs.length:=rfl;have hL:cL c=cS c + c.Signals.length:=rfl;obtain ⟨l,e1,hl,hmm⟩:=Yc hc hf;obtain ⟨z,m',e2,hm'⟩:=Sh (Jg c s,l) (by dsimp only;omega) m;dsimp only at hm';have hin:∀ x:Int,(∃ k:Nat,x=k/\k < cL c/\mgP m' x)↔(∃ k:Nat,x=k/\k < cL c/\mgP m x)\/onP c s x:=λx=>by
   constructor
   ·rintro ⟨k,a1,a2,a3⟩;rcases (hm' x).1 a3 with h | h
    ·exact .inl ⟨k,a1,a2,h⟩
    ·exact .inr ((hmm x).1 h)
   ·rintro (⟨k,a1,a2,a3⟩ | h)
    ·exact ⟨k,a1,a2,(hm' x).2 (.inl a3)⟩
    ·obtain ⟨k,a1,a2⟩:=onP_lt h;exact ⟨k,a1,a2,(hm' x).2 (.inr ((hmm x).2 h))⟩
  have ho:=Pg hf;unfold stl Gj;dsimp only;rw [show decide ((j:Int)<=64)=true by simp;omega,ct_,e1,ob_,e2,ob_,Mo (n:=1000) (ho.sm hb) uF om_,ob_,show sst (Jg c s) s=sst s (Jg c s) from Ox];cases hs:sst s (Jg c s) with
  | true=>
   obtain ⟨z2,l2,e3,hl2,hC⟩:=Sg hb (z,m');rw [if_pos rfl,ct_,e3,ob_];have:=hb.a';have:=hb.i;refine ⟨l2,(j:Int),rfl,by omega,hC.iff λx=>?_⟩;rw [hin,Wl,hs];simp
  | false=>
   rw [if_neg smp_,cf_,An om_];have ih:=Kh hc k n (j + 1) (Jg c s) m' om_ om_ ho;cases hst:stl c k (Jg c s) with
   | none=>rw [hst] at ih;exact ih
   | some t=>
    rw [hst] at ih;obtain ⟨l',z',e4,hl',hC⟩:=ih;refine ⟨l',z',e4,hl',hC.iff λx=>?_⟩;rw [hin,Wl,hs];simp [or_assoc]
theorem Yk {c:Aa} {s:Ac} (hc:Rt c) (hf:Fit c s):match stl c 65 s with
  | some t=>∃ l,m221 FF c s=some (t,l,true)/\l.length<=100/\Cs l (Wl c 65 s)
  | none=>∃ a l,m221 FF c s=some (a,l,false):=by
 have h:=Kh hc 65 FF 0 s [] om_ uF hf;rw [n0] at h;unfold m221 m244;cases hs:stl c 65 s with
 | none=>rw [hs] at h;obtain ⟨q,h⟩:=h;rw [h];exact ⟨_,_,rfl⟩
 | some t=>
  rw [hs] at h;obtain ⟨l,z,h,hl,hC⟩:=h;rw [h];refine ⟨l,rfl,hl,hC.iff λx=>?_⟩;constructor
  ·rintro (⟨_,_,_,h⟩ | h)
   ·cases h
   ·exact h
  ·exact .inr
theorem Ki {c:Aa} (hc:Rt c):∀ (k n j:Nat) (s:Ac) (q:List Int),j + k=65->k < n->Fit c s->q.length<=16 * j ->
  match stl c k s with
  | some t=>∃ l z,Gk FF c.Actuators (cS c:Int) c.Inputs c.Signals c.Plus c.Minus s.Ends s.Valves s.Inputs n ((j:Int),s.Values,s.Timers,q)=some (.ret (z,0,t.Values,t.Timers,l))/\l.length<=2000/\Cs l λx=>x∈q\/Wl c k s x
  | none=>∃ q',Gk FF c.Actuators (cS c:Int) c.Inputs c.Signals c.Plus c.Minus s.Ends s.Valves s.Inputs n ((j:Int),s.Values,s.Timers,q)=some (.brk q')
 | _,0,_,_,_,_,h,_,_=>by omega
 | 0,n + 1,j,s,q,h1,h2,hf,hq=>by
  unfold stl Gk;dsimp only;rw [show decide ((j:Int)<=64)=false by simp;omega,cf_];exact ⟨_,rfl⟩
 | k + 1,n + 1,j,s,q,h1,h2,hf,hq=>by
  have hb:=hc.bd;have h3:=hb.s;obtain ⟨l,e1,hl,hmm⟩:=Ye hc hf;have ho:=Pg hf;unfold stl Gk;dsimp only;rw [show decide ((j:Int)<=64)=true by simp;omega,ct_,e1,ob_];dsimp only;rw [Aw om_,ob_];cases hs:sst s (Jg c s) with
  | true=>
   obtain ⟨r1,r2,e2,e3,l3,hC⟩:=Uu (l:=q ++ l) so_;rw [if_pos rfl,show (!(!true))=true by rfl,ct_,e2,ob_,e3,ob_];have hse:=Fu.1 hs;rw [← hse];refine ⟨r2,(j:Int),rfl,by rw [DB] at l3;omega,hC.iff λx=>?_⟩;rw [DS,hmm,Wl,hs];simp
  | false=>
   rw [if_neg smp_,show (!(!false))=false by rfl,cf_,An om_];have ih:=Ki hc k n (j + 1) (Jg c s) (q ++ l) om_ om_ ho (by rw [DB];omega);cases hst:stl c k (Jg c s) with
   | none=>rw [hst] at ih;exact ih
   | some t=>
    rw [hst] at ih;obtain ⟨l',z',e4,hl',hC⟩:=ih;refine ⟨l',z',e4,hl',hC.iff λx=>?_⟩;rw [DS,hmm,Wl,hs];simp [or_assoc]
theorem Ms {xs:List Int} {k:Int} (hl:xs.length<=1000):Oj FF xs k=some (xs.any λx=>decide (x < 0) || decide (x>=k)):=by
 unfold Oj Vw;have h5:=Wz (L:=Hj FF xs k) (xs:=xs) (p:=λ_ y=>m235 FF y k) (q:=λx=>decide (x < 0) || decide (x>=k)) (r:=λz=>z) (λ_ _=>rfl) om_ (λi y hy=>rfl) FF 0 om_ uF;rw [n0,DM] at h5;rw [h5];cases h6:xs.findIdx? (λx=>decide (x < 0) || decide (x>=k)) with
 | none=>
  rw [EG] at h6;have:(xs.any λx=>decide (x < 0) || decide (x>=k))=false:=EQ.2 λy hy=>by simpa using h6 y hy
  rw [this];rfl
 | some j=>
  obtain ⟨hj,hj2,_⟩:=D6.1 h6;have:(xs.any λx=>decide (x < 0) || decide (x>=k))=true:=D7.2 ⟨_,DK hj,by simpa using hj2⟩;rw [this];simp
def tbad (c:Aa) (s:Ac) (i:Nat):Bool:=match c.Signals[i]?,s.Timers[i]?,s.Values[i]? with
 | some x,some t,some v=>(x.Kind != 2 && t != 0) || (x.Kind == 2 && v != (t == 2))
 | _,_,_=>false
def AH (c:Aa) (s:Ac):Int:=
 if (s.Ends.length:Int)≠c.Actuators\/(s.Valves.length:Int)≠c.Actuators\/s.Inputs.length≠c.Inputs.length\/s.Values.length≠c.Signals.length\/s.Timers.length≠c.Signals.length then 8
 else if (s.Ends.any λx=>decide (x < 0) || decide (x>=4))=true then 1
 else if (s.Timers.any λx=>decide (x < 0) || decide (x>=3))=true then 1
 else if (List.range c.Signals.length).any (tbad c s)=true then 14 else 0
theorem B6 {c:Aa} {s:Ac}:(((((((s.Ends.length:Int) != c.Actuators) || ((s.Valves.length:Int) != c.Actuators)) || ((s.Inputs.length:Int) != (c.Inputs.length:Int))) || ((s.Values.length:Int) != (c.Signals.length:Int))) || ((s.Timers.length:Int) != (c.Signals.length:Int))))=decide ((s.Ends.length:Int)≠c.Actuators\/(s.Valves.length:Int)≠c.Actuators\/s.Inputs.length≠c.Inputs.length\/s.Values.length≠c.Signals.length\/s.Timers.length≠c.Signals.length):=by
 rw [EK];simp only [F8,bne_iff_ne,ne_eq,decide_eq_true_eq,Int.natCast_inj,or_assoc]
theorem Yo {c:Aa} {s:Ac} (hb:Bd_ c):m205 FF c s=some (AH c s):=by
 have h1:=hb.a6;have h2:=hb.i;have h3:=hb.s;unfold m205 AH;rw [B6];by_cases hl:(s.Ends.length:Int)≠c.Actuators\/(s.Valves.length:Int)≠c.Actuators\/s.Inputs.length≠c.Inputs.length\/s.Values.length≠c.Signals.length\/s.Timers.length≠c.Signals.length
 ·rw [if_pos hl,dt_ hl];rfl
 ·rw [if_neg hl,df_ hl,cf_];have hl:(s.Ends.length:Int)=c.Actuators/\(s.Valves.length:Int)=c.Actuators/\s.Inputs.length=c.Inputs.length/\s.Values.length=c.Signals.length/\s.Timers.length=c.Signals.length:=by omega
  rw [show m234 FF (4:Int)=some 4 from rfl,show m234 FF (3:Int)=some 3 from rfl,ob_,Ms om_,ob_,ob_,Ms om_];cases (s.Ends.any λx=>decide (x < 0) || decide (x>=4)) with
  | true=>rfl
  | false=>
   rw [cf_,ob_,ob_,if_neg smp_];cases (s.Timers.any λx=>decide (x < 0) || decide (x>=3)) with
   | true=>rfl
   | false=>
    rw [cf_,if_neg smp_];have hs:=Wm (L:=Jn c s) (N:=c.Signals.length) (Q:=tbad c s) (r:=λ_=>14) (λn i hi=>by
     have e1:c.Signals[i]?=some c.Signals[i]:=gE_ hi;have e2:s.Timers[i]?=some s.Timers[i]:=gE_ om_;have e3:s.Values[i]?=some s.Values[i]:=gE_ om_;rw [Jn];unfold tbad;rw [hl.2.2.2.2,Aj,dt_ hi,ct_,Ai,Ai,Ai,e1,e2,e3,ob_,ob_,ob_,An om_];dsimp only;cases hk:(c.Signals[i].Kind == 2) with
     | true=>
      have hk':(c.Signals[i].Kind != 2)=false:=by show (!(c.Signals[i].Kind == 2))=false;rw [hk];rfl
      rw [hk'];cases (s.Values[i] != (s.Timers[i] == 2)) <;> rfl
     | false=>
      have hk':(c.Signals[i].Kind != 2)=true:=by show (!(c.Signals[i].Kind == 2))=true;rw [hk];rfl
      rw [hk'];cases (s.Timers[i] != 0) <;> rfl) (λn=>by
     rw [Jn,hl.2.2.2.2,Aj,df_ om_,cf_]) FF 0 om_ uF
    rw [n0] at hs;rcases hs with ⟨k,_,hk,hq,h⟩ | ⟨h,hn⟩
    ·rw [h,if_pos (D7.2 ⟨k,DZ.2 hk,hq⟩)];rfl
    ·rw [h,if_neg ?_]
     ·rfl
     ·intro ha;obtain ⟨k,hk,h4⟩:=D7.1 ha;have:=hn k om_ (DZ.1 hk);rw [this] at h4;cases h4
theorem Eo {c:Aa} {s:Ac} (hb:Bd_ c):AH c s=0↔Fit c s:=by
 have ha:=hb.a;unfold AH;constructor
 ·intro h;split at h
  ·contradiction
  ·rename_i h1;split at h
   ·contradiction
   ·rename_i h2;split at h
    ·contradiction
    ·rename_i h3;split at h
     ·contradiction
     ·rename_i h4;refine ⟨by omega,by omega,by omega,by omega,by omega,λa ha=>?_,λa ha=>?_,λi x t v hx ht hv=>?_⟩
      ·have:=EQ.1 (by simpa using h2:(s.Ends.any λx=>decide (x < 0) || decide (x>=4))=false) a ha;simp at this;omega
      ·have:=EQ.1 (by simpa using h3:(s.Timers.any λx=>decide (x < 0) || decide (x>=3))=false) a ha;simp at this;omega
      ·have hb:tbad c s i=false:=by
        cases hq:tbad c s i with
        | false=>rfl
        | true=>exact absurd (D7.2 ⟨i,DZ.2 (DG.1 hx).1,hq⟩) h4
       unfold tbad at hb;rw [hx,ht,hv] at hb;dsimp only at hb;rw [FW,GC,GC] at hb;obtain ⟨h5,h6⟩:=hb;refine ⟨λhk=>?_,λhk=>?_⟩
       ·rcases h5 with h5 | h5
        ·exact absurd (by simpa using h5) hk
        ·simpa using h5
       ·rcases h6 with h6 | h6
        ·simp [hk] at h6
        ·simpa using h6
 ·intro h;obtain ⟨a1,a2,a3,a4,a5,a6,a7,a8⟩:=h;rw [if_neg om_,if_neg,if_neg,if_neg]
  ·intro hx;obtain ⟨i,hi,hq⟩:=D7.1 hx;have hi:=DZ.1 hi;have e1:c.Signals[i]?=some c.Signals[i]:=gE_ hi;have e2:s.Timers[i]?=some s.Timers[i]:=gE_ om_;have e3:s.Values[i]?=some s.Values[i]:=gE_ om_;unfold tbad at hq;rw [e1,e2,e3] at hq;dsimp only at hq;obtain ⟨k1,k2⟩:=a8 i _ _ _ e1 e2 e3;by_cases hk:c.Signals[i].Kind=2
   ·rw [k2 hk] at hq;simp [hk] at hq
   ·rw [k1 hk] at hq;simp [hk] at hq
  ·intro hx;obtain ⟨a,ha,hq⟩:=D7.1 hx;have:=a7 a ha;simp at hq;omega
  ·intro hx;obtain ⟨a,ha,hq⟩:=D7.1 hx;have:=a6 a ha;simp at hq;omega
theorem Hi {c:Aa} {s:Ac} (hc:Rc c):m167 FF c s=some (AH c s):=by
 unfold m167;rw [hc.ck,ob_,zf_,cf_,Yo hc.rt.bd];rfl
abbrev z0:Ac:=⟨[],[],[],[],[]⟩
theorem Yn {c:Aa} {s:Ac} (hc:Rc c) (hf:Fit c s):match stl c 65 s with
  | some t=>∃ l,m206 FF c s=some (t,0,l)/\l.length<=2000/\Cs l (Wl c 65 s)
  | none=>m206 FF c s=some (z0,21,[]):=by
 have hb:=hc.rt.bd;have h1:=hb.a';have h2:=hb.i;have h3:=hb.s;have hS:cS c=2 * cA c + c.Inputs.length:=rfl;have h:=Ki hc.rt 65 FF 0 s [] om_ uF hf smp_;rw [n0] at h;unfold m206 m236;rw [Hi hc,(Eo hb).2 hf,ob_,zf_,cf_,Lv (hf.sm hb),ob_,ob_];dsimp only;rw [zf_,cf_,hb.wa,Aq om_ om_,show ((2 * cA c:Nat):Int) + (c.Inputs.length:Int)=(cS c:Int) by omega];unfold m237 tup;dsimp only;cases hs:stl c 65 s with
 | none=>rw [hs] at h;obtain ⟨q,h⟩:=h;rw [h];rfl
 | some t=>
  rw [hs] at h;obtain ⟨l,z,h,hl,hC⟩:=h;obtain ⟨_,⟨k1,k2,k3⟩,_⟩:=Jy hf hs;rw [h];refine ⟨l,?_,hl,hC.iff λx=>by simp⟩;rw [ob_,ob_];dsimp only;rw [zf_,cf_,← k1,← k2,← k3]
def lin (s:Ac) (k:Int):Bool:=(vals s).getD k.toNat false
def vlv (c:Aa) (s:Ac) (i:Nat):Bool:=if lin s (c.Plus.getD i 0)=lin s (c.Minus.getD i 0) then s.Valves.getD i false else lin s (c.Plus.getD i 0)
def Ez (v:Bool) (e:Int):Int:=if v=true then (if e=2\/e=1 then e else 1) else (if e=0\/e=3 then e else 3)
def rnd (c:Aa) (s:Ac):Ac:=⟨(List.range s.Ends.length).map λi=>Ez (vlv c s i) (s.Ends.getD i 0),(List.range s.Valves.length).map (vlv c s),s.Inputs,s.Values,s.Timers⟩
theorem Pb {c:Aa} {s:Ac} (h:Fit c s):Fit c (rnd c s):=by
 refine ⟨by simp [rnd,h.e],by simp [rnd,h.v],h.i,h.x,h.t,?_,h.tt,h.k⟩;intro a ha;obtain ⟨i,hi,rfl⟩:=E3.1 ha;have hi:=DZ.1 hi;have:=h.ee s.Ends[i] (DK hi);rw [DQ,gE_ hi,GF];generalize s.Ends[i]=e at this;unfold Ez;split <;> split <;> omega
theorem A6 {c:Aa} {s:Ac} (h:Fit c s) (k:Nat) (hk:k < cL c):∃ b,(vals s)[k]?=some b/\lin s (k:Int)=b:=by
 have:k < (vals s).length:=by rw [h.vl];exact hk
 exact ⟨(vals s)[k],gE_ this,by unfold lin;simp [gE_ this]⟩
theorem Sx {c:Aa} {s:Ac} (hb:Bd_ c) (h:Fit c s) {k:Nat} (hk:k < cL c):m207 FF c s (k:Int)=some (lin s (k:Int)):=by
 have h1:=hb.a';have h2:=hb.i;have h3:=hb.s;have hS:cS c=2 * cA c + c.Inputs.length:=rfl;have hL:cL c=cS c + c.Signals.length:=rfl;have hel:(AL s).length=2 * cA c:=by unfold AL;rw [Na,h.e]
 unfold m207 lin;rw [hb.wa,Aj,EL,DQ];by_cases h4:k < 2 * cA c
 ·rw [dt_ h4,ct_];have hdiv:(k:Int).tdiv 2=((k / 2:Nat):Int):=by
   rw [Int.tdiv_eq_ediv_of_nonneg om_];omega
  have hmod:(k:Int).tmod 2=((k % 2:Nat):Int):=by
   rw [Int.tmod_eq_emod_of_nonneg om_];omega
  have hv:(vals s)[k]?=(AL s)[k]?:=by
   unfold vals pre;rw [D2,DL om_]
  have hk2:k / 2 < s.Ends.length:=by rw [h.e];omega
  have he:s.Ends[k / 2]?=some s.Ends[k / 2]:=gE_ hk2;rw [hdiv,hmod,Aq om_ om_,Ai,he,ob_,hv];unfold AL;rw [CY,he];have hm2:k % 2=0\/k % 2=1:=by omega
  rcases hm2 with e | e <;> rw [e] <;> rfl
 ·rw [df_ h4,cf_,Aq om_ om_,show (k:Int) - ((2 * cA c:Nat):Int)=((k - 2 * cA c:Nat):Int) by omega,Aj];by_cases h5:k - 2 * cA c < s.Inputs.length
  ·rw [dt_ h5,ct_,Ai,gE_ h5,ob_];unfold vals pre;rw [D2,D1 om_,hel,DL h5,gE_ h5];rfl
  ·rw [df_ h5,cf_,Aq (by have:=h.i;omega) om_,show ((k - 2 * cA c:Nat):Int) - (s.Inputs.length:Int)=((k - 2 * cA c - s.Inputs.length:Nat):Int) by omega,Ai];have h6:k - 2 * cA c - s.Inputs.length < s.Values.length:=by have:=h.i;have:=h.x;omega
   rw [gE_ h6,ob_];unfold vals pre;rw [D2,D1 om_,hel,D1 om_,gE_ h6];rfl
end Go.Pn
namespace Go.Pn
open Go
theorem Xl {c:Aa} (hc:Rt c) {i:Nat} (hi:i < cA c):∃ p m:Nat,c.Plus[i]?=some (p:Int)/\c.Minus[i]?=some (m:Int)/\p < cL c/\m < cL c/\c.Plus.getD i 0=(p:Int)/\c.Minus.getD i 0=(m:Int):=by
 have h1:i < c.Plus.length:=by rw [hc.plus];exact hi
 have h2:i < c.Minus.length:=by rw [hc.minus];exact hi
 have h3:=hc.lines c.Plus[i] (DV _ (DK h1));have h4:=hc.lines c.Minus[i] (DT _ (DK h2));have e1:((c.Plus[i].toNat:Nat):Int)=c.Plus[i]:=by omega
 have e2:((c.Minus[i].toNat:Nat):Int)=c.Minus[i]:=by omega
 refine ⟨c.Plus[i].toNat,c.Minus[i].toNat,?_,?_,by omega,by omega,?_,?_⟩
 ·rw [gE_ h1,e1]
 ·rw [gE_ h2,e2]
 ·rw [DQ,gE_ h1,e1];rfl
 ·rw [DQ,gE_ h2,e2];rfl
theorem endn_eq (v:Bool) (e:Int):(bif (e != (bif v then ((2:Int),(1:Int)) else ((0:Int),(3:Int))).1) && (e != (bif v then ((2:Int),(1:Int)) else ((0:Int),(3:Int))).2) then (bif v then ((2:Int),(1:Int)) else ((0:Int),(3:Int))).2 else e)=Ez v e:=by
 unfold Ez;cases v with
 | true=>
  simp only [ct_,if_true];by_cases h:e=2
  ·simp [h]
  ·by_cases h1:e=1
   ·simp [h1]
   ·rw [show (e != 2)=true by simpa using h,show (e != 1)=true by simpa using h1,if_neg om_];rfl
 | false=>
  simp only [cf_];by_cases h:e=0
  ·simp [h]
  ·by_cases h1:e=3
   ·simp [h1]
   ·rw [show (e != 0)=true by simpa using h,show (e != 3)=true by simpa using h1];simp [h,h1]
def rnPi (c:Aa) (t:Ac) (i:Nat) (x:Int):Prop:=∃ j:Nat,j < i/\x=((cL c + j:Nat):Int)/\(lin t (c.Plus.getD j 0) && lin t (c.Minus.getD j 0))=true
def rnP (c:Aa) (t:Ac) (x:Int):Prop:=rnPi c t (cA c) x
theorem Ld {c:Aa} {t:Ac} {i:Nat} {x:Int}:rnPi c t (i + 1) x↔rnPi c t i x\/(x=((cL c + i:Nat):Int)/\(lin t (c.Plus.getD i 0) && lin t (c.Minus.getD i 0))=true):=by
 constructor
 ·rintro ⟨j,h1,h2,h3⟩;by_cases h:j=i
  ·subst h;exact .inr ⟨h2,h3⟩
  ·exact .inl ⟨j,by omega,h2,h3⟩
 ·rintro (⟨j,h1,h2,h3⟩ | ⟨h2,h3⟩)
  ·exact ⟨j,by omega,h2,h3⟩
  ·exact ⟨i,by omega,h2,h3⟩
theorem Qy {c:Aa} {t:Ac} {x:Int}:¬ rnPi c t 0 x:=λ⟨_,h,_⟩=>by omega
theorem Td {c:Aa} {s:Ac} (hc:Rc c) (hf:Fit c s):match stl c 65 s with
  | some t=>∃ l,m168 FF c s=some (rnd c t,0,l)/\l.length<=3000/\∀ x,x∈l↔Wl c 65 s x\/rnP c t x
  | none=>m168 FF c s=some (z0,21,[]):=by
 have hb:=hc.rt.bd;have h1:=hb.a';have h2:=hb.i;have h3:=hb.s;have hS:cS c=2 * cA c + c.Inputs.length:=rfl;have hL:cL c=cS c + c.Signals.length:=rfl;have h:=Yn hc hf;unfold m168;cases hs:stl c 65 s with
 | none=>rw [hs] at h;rw [h];rfl
 | some t=>
  rw [hs] at h;obtain ⟨l0,h,hl0,hC0⟩:=h;obtain ⟨ht,_,_⟩:=Jy hf hs;rw [h,ob_];dsimp only;rw [zf_,cf_,Tc (ht.sm hb),ob_];have hel:=ht.e;have hvl:=ht.v;obtain ⟨v,hI,hl⟩:=Ok (L:=Gq FF c (t,0,l0)) (mk:=λi (v:List Int×List Int×List Bool)=>((i:Int),v.1,v.2.1,v.2.2)) (N:=cA c) (I:=λi v=>(v.1.length<=2000 + i/\∀ x,x∈v.1↔Wl c 65 s x\/rnPi c t i x)/\v.2.1=upd (λi=>Ez (vlv c t i) (t.Ends.getD i 0)) t.Ends i/\v.2.2=upd (vlv c t) t.Valves i) (λn i v hi hI=>by
   obtain ⟨l,E,V⟩:=v;obtain ⟨⟨hll,hmm⟩,rfl,rfl⟩:=hI;obtain ⟨p,m,e1,e2,hp,hm,g1,g2⟩:=Xl hc.rt hi;have e4:(upd (λi=>Ez (vlv c t i) (t.Ends.getD i 0)) t.Ends i)[i]?=some t.Ends[i]:=by rw [Bz (DW i)];exact gE_ om_
   have e5:(upd (vlv c t) t.Valves i)[i]?=some t.Valves[i]:=by rw [Bz (DW i)];exact gE_ om_
   have e6:t.Ends.getD i 0=t.Ends[i]:=by rw [DQ,gE_ om_];rfl
   have e7:t.Valves.getD i false=t.Valves[i]:=by rw [DQ,gE_ om_];rfl
   have hsetE:∀ y,y=Ez (vlv c t i) (t.Ends.getD i 0)->(upd (λi=>Ez (vlv c t i) (t.Ends.getD i 0)) t.Ends i).set i y=upd (λi=>Ez (vlv c t i) (t.Ends.getD i 0)) t.Ends (i + 1):=λy hy=>Cz om_ hy;have hsetV:∀ y,y=vlv c t i->(upd (vlv c t) t.Valves i).set i y=upd (vlv c t) t.Valves (i + 1):=λy hy=>Cz om_ hy;have hkeep:vlv c t i=t.Valves[i]->upd (vlv c t) t.Valves i=upd (vlv c t) t.Valves (i + 1):=λhy=>by
    rw [← hsetV t.Valves[i] hy.symm];refine EV λj=>?_;by_cases hj:j=i
    ·subst hj;rw [EJ (by rw [Jd om_];omega),e5]
    ·rw [FA om_]
   have hkeepE:Ez (vlv c t i) (t.Ends.getD i 0)=t.Ends[i]->upd (λi=>Ez (vlv c t i) (t.Ends.getD i 0)) t.Ends i=upd (λi=>Ez (vlv c t i) (t.Ends.getD i 0)) t.Ends (i + 1):=λhy=>by
    rw [← hsetE t.Ends[i] hy.symm];refine EV λj=>?_;by_cases hj:j=i
    ·subst hj;rw [EJ (by rw [Jd om_];omega),e4]
    ·rw [FA om_]
   have hvi:vlv c t i=if lin t (p:Int)=lin t (m:Int) then t.Valves[i] else lin t (p:Int):=by
    unfold vlv;rw [g1,g2,e7]
   -- the valve
   have hV:∀ (k:(List Int×List Bool)->Option (Int×List Int×List Int×List Bool)),((bif (lin t (p:Int) && lin t (m:Int)) then (app l ([(wr ((wr ((wr ((wr ((2:Int) * (c).Actuators)) + (((c).Inputs).length:Int))) + (((c).Signals).length:Int))) + (i:Int)))]:List Int)).bind λx16=>some (x16,(upd (vlv c t) t.Valves i)) else (bif (lin t (p:Int) || lin t (m:Int)) then (idx (upd (vlv c t) t.Valves i) (i:Int)).bind λx19=>some ((upd (vlv c t) t.Valves i).set ((i:Int)).toNat (lin t (p:Int))) else some (upd (vlv c t) t.Valves i)).bind λz18=>some (l,z18)).bind k)=k ((if (lin t (p:Int) && lin t (m:Int))=true then l ++ [((cL c + i:Nat):Int)] else l),upd (vlv c t) t.Valves (i + 1)):=by
    intro k;have w1:wr (((2 * cA c:Nat):Int) + (c.Inputs.length:Int))=((cS c:Nat):Int):=by rw [Aq om_ om_];omega
    have w2:wr (((cS c:Nat):Int) + (c.Signals.length:Int))=((cL c:Nat):Int):=by rw [Aq om_ om_];omega
    have w3:wr (((cL c:Nat):Int) + (i:Int))=((cL c + i:Nat):Int):=by rw [Aq om_ om_];omega
    rw [hb.wa,w1,w2,w3,Ai,e5,EL];dsimp only at hll;cases hP:lin t (p:Int) with
    | true=>
     cases hM:lin t (m:Int) with
     | true=>
      unfold app;rw [Bool.and_self,ct_,if_pos so_,hkeep (by rw [hvi,hP,hM];simp)];rfl
     | false=>
      rw [hsetV true (by rw [hvi,hP,hM];simp)];rfl
    | false=>
     cases hM:lin t (m:Int) with
     | true=>
      rw [hsetV false (by rw [hvi,hP,hM];simp)];rfl
     | false=>
      rw [hkeep (by rw [hvi,hP,hM];simp)];rfl
   refine ⟨((if (lin t (p:Int) && lin t (m:Int))=true then l ++ [((cL c + i:Nat):Int)] else l),upd (λi=>Ez (vlv c t i) (t.Ends.getD i 0)) t.Ends (i + 1),upd (vlv c t) t.Valves (i + 1)),⟨?_,rfl,rfl⟩,?_⟩
   ·dsimp only at hll hmm ⊢;refine ⟨by split <;> (try simp) <;> omega,λx=>?_⟩
    rw [Xq hmm,Ld,g1,g2,or_assoc]
   ·rw [Gq];dsimp only;rw [hb.a,Aj,dt_ hi,ct_,Ai,e1,ob_,Sx hb ht hp,ob_,Ai,e2,ob_,Sx hb ht hm,ob_,← hb.a,hV];dsimp only;have e8:(upd (vlv c t) t.Valves (i + 1))[i]?=some (vlv c t i):=by
     rw [← hsetV _ rfl,EJ (by rw [Jd om_];omega)]
    rw [Ai,e4,ob_,Ai,e8,ob_,cs_,ob_,ob_,An om_];have hE:((bif (t.Ends[i] != (bif vlv c t i then ((2:Int),(1:Int)) else ((0:Int),(3:Int))).1) && (t.Ends[i] != (bif vlv c t i then ((2:Int),(1:Int)) else ((0:Int),(3:Int))).2) then some ((upd (λi=>Ez (vlv c t i) (t.Ends.getD i 0)) t.Ends i).set ((i:Int)).toNat (bif vlv c t i then ((2:Int),(1:Int)) else ((0:Int),(3:Int))).2) else some (upd (λi=>Ez (vlv c t i) (t.Ends.getD i 0)) t.Ends i)))=some (upd (λi=>Ez (vlv c t i) (t.Ends.getD i 0)) t.Ends (i + 1)):=by
     have hq:=endn_eq (vlv c t i) t.Ends[i];rw [EL];cases hcnd:(t.Ends[i] != (bif vlv c t i then ((2:Int),(1:Int)) else ((0:Int),(3:Int))).1) && (t.Ends[i] != (bif vlv c t i then ((2:Int),(1:Int)) else ((0:Int),(3:Int))).2) with
     | true=>
      rw [hcnd,ct_] at hq;rw [ct_,hsetE _ (by rw [e6,← hq])]
     | false=>
      rw [hcnd,cf_] at hq;rw [cf_,hkeepE (by rw [e6,← hq])]
    rw [hE,ob_]) (λn v _=>by
   rw [Gq];dsimp only;rw [hb.a,Aj,df_ om_,cf_]) FF 0 (l0,t.Ends,t.Valves) om_ uF ⟨⟨by dsimp only;omega,λx=>by simp [hC0.2 x,Qy]⟩,By.symm,By.symm⟩
  obtain ⟨l,E,V⟩:=v;obtain ⟨⟨hll,hmm⟩,rfl,rfl⟩:=hI;try dsimp only at hl hll hmm
  rw [n0] at hl;refine ⟨l,?_,by omega,hmm⟩;show ((Gq FF c (t,0,l0) FF ((0:Int),l0,t.Ends,t.Valves)).bind _)=_;rw [hl,ob_];unfold rnd tup;dsimp only;have e1:=Da (f:=λi=>Ez (vlv c t i) (t.Ends.getD i 0)) (l:=t.Ends);have e2:=Da (f:=vlv c t) (l:=t.Valves);rw [hel] at e1;rw [hvl] at e2;rw [e1,e2,hel,hvl]
theorem Ta {a b:List Int} (h:a.length + b.length < 50000) {p q:Int->Prop} (ha:Cs a p) (hb:Cs b q):∃ l,m184 FF a b=some l/\l.length<=a.length + b.length/\Cs l λx=>p x\/q x:=by
 have sa:∀ i j,(_:i < j)->(hj:j < a.length)->a[i]'om_ < a[j]:=λi j hij hj=>GH.1 ha.1 i j om_ hj hij;have sb:∀ i j,(_:i < j)->(hj:j < b.length)->b[i]'om_ < b[j]:=λi j hij hj=>GH.1 hb.1 i j om_ hj hij;have key:∀ (n i j:Nat) (l:List Int),i<=a.length->j<=b.length->(a.length - i) + (b.length - j) < n->l.length<=i + j->l.Pairwise (· < ·)->(∀ x,x∈l↔x∈a.take i\/x∈b.take j)->(∀ x∈l,(∀ h:i < a.length,x < a[i])/\∀ h:j < b.length,x < b[j]) ->
   ∃ z1 z2 l',Ef a b n ((i:Int),(j:Int),l)=some (z1,z2,l')/\l'.length<=a.length + b.length/\l'.Pairwise (· < ·)/\∀ x,x∈l'↔x∈a\/x∈b:=by
  intro n
  induction n with
  | zero=>intro i j l _ _ h;omega
  | succ n ih=>
   intro i j l hi hj hn hl hp hm hlt;have snoc:∀ y,(∀ x∈l,x < y)->(l ++ [y]).Pairwise (· < ·):=λy hy=>HJ.2 ⟨hp,by simp,λu hu v hv=>by
    obtain rfl:v=y:=by simpa using hv
    exact hy u hu⟩
   have ta:(h:i < a.length)->∀ x,x∈a.take (i + 1)↔x∈a.take i\/x=a[i]:=λh x=>by rw [FU,gE_ h,DS];simp
   have tb:(h:j < b.length)->∀ x,x∈b.take (j + 1)↔x∈b.take j\/x=b[j]:=λh x=>by rw [FU,gE_ h,DS];simp
   rw [Ef];dsimp only;rw [Aj,Aj];by_cases h1:i < a.length
   ·have ea:a[i]?=some a[i]:=gE_ h1;by_cases h2:j < b.length
    ·have eb:b[j]?=some b[j]:=gE_ h2;simp only [dt_ h1,dt_ h2,Bool.or_self,ct_,Ai,ea,eb,ob_,Du,show (j == b.length)=false by rw [beq_eq_false_iff_ne];omega,show (i == a.length)=false by rw [beq_eq_false_iff_ne];omega,cf_];rw [Aw so_,Aw so_];by_cases h3:a[i] < b[j]
     ·simp only [dt_ h3,ct_,ob_];rw [An om_];refine ih (i + 1) j _ om_ hj om_ so_ (snoc _ λx hx=>(hlt x hx).1 h1) (λx=>?_) (λx hx=>?_)
      ·rw [DS,FP,hm,ta h1];exact or_right_comm
      ·rcases DS.1 hx with hx | hx
       ·exact ⟨λh=>GZ ((hlt x hx).1 h1) (sa i (i + 1) om_ h),(hlt x hx).2⟩
       ·obtain rfl:x=a[i]:=by simpa using hx
        exact ⟨λh=>sa i (i + 1) om_ h,λ_=>h3⟩
     ·by_cases h4:b[j] < a[i]
      ·simp only [df_ h3,dt_ h4,ct_,cf_,ob_];rw [An om_];refine ih i (j + 1) _ hi om_ om_ so_ (snoc _ λx hx=>(hlt x hx).2 h2) (λx=>?_) (λx hx=>?_)
       ·rw [DS,FP,hm,tb h2];exact or_assoc
       ·rcases DS.1 hx with hx | hx
        ·exact ⟨(hlt x hx).1,λh=>GZ ((hlt x hx).2 h2) (sb j (j + 1) om_ h)⟩
        ·obtain rfl:x=b[j]:=by simpa using hx
         exact ⟨λ_=>h4,λh=>sb j (j + 1) om_ h⟩
      ·have h5:a[i]=b[j]:=by omega
       simp only [df_ h3,df_ h4,cf_,ob_];rw [An om_,An om_];refine ih (i + 1) (j + 1) _ om_ om_ om_ so_ (snoc _ λx hx=>(hlt x hx).1 h1) (λx=>?_) (λx hx=>?_)
       ·rw [DS,FP,hm,ta h1,tb h2,← h5];exact or_or_distrib_right
       ·rcases DS.1 hx with hx | hx
        ·exact ⟨λh=>GZ ((hlt x hx).1 h1) (sa i (i + 1) om_ h),λh=>GZ ((hlt x hx).2 h2) (sb j (j + 1) om_ h)⟩
        ·obtain rfl:x=a[i]:=by simpa using hx
         exact ⟨λh=>sa i (i + 1) om_ h,λh=>by rw [h5];exact sb j (j + 1) om_ h⟩
    ·have hjb:j=b.length:=by omega
     simp only [dt_ h1,G9,ct_,Ai,ea,ob_,Du,show (j == b.length)=true by rw [beq_iff_eq];omega];rw [Aw so_,ob_,ob_,An om_];refine ih (i + 1) j _ om_ hj om_ so_ (snoc _ λx hx=>(hlt x hx).1 h1) (λx=>?_) (λx hx=>?_)
     ·rw [DS,FP,hm,ta h1];exact or_right_comm
     ·rcases DS.1 hx with hx | hx
      ·exact ⟨λh=>GZ ((hlt x hx).1 h1) (sa i (i + 1) om_ h),λh=>by omega⟩
      ·obtain rfl:x=a[i]:=by simpa using hx
       exact ⟨λh=>sa i (i + 1) om_ h,λh=>by omega⟩
   ·by_cases h2:j < b.length
    ·have eb:b[j]?=some b[j]:=gE_ h2;simp only [df_ h1,dt_ h2,EW,ct_,cf_,Ai,eb,ob_,Du,show (j == b.length)=false by rw [beq_eq_false_iff_ne];omega,show (i == a.length)=true by rw [beq_iff_eq];omega];rw [Aw so_,ob_,ob_,An om_];refine ih i (j + 1) _ hi om_ om_ so_ (snoc _ λx hx=>(hlt x hx).2 h2) (λx=>?_) (λx hx=>?_)
     ·rw [DS,FP,hm,tb h2];exact or_assoc
     ·rcases DS.1 hx with hx | hx
      ·exact ⟨λh=>by omega,λh=>GZ ((hlt x hx).2 h2) (sb j (j + 1) om_ h)⟩
      ·obtain rfl:x=b[j]:=by simpa using hx
       exact ⟨λh=>by omega,λh=>sb j (j + 1) om_ h⟩
    ·rw [df_ h1,df_ h2,Bool.or_self,cf_];refine ⟨_,_,l,rfl,by omega,hp,λx=>?_⟩;rw [hm,EN om_,EN om_]
 obtain ⟨z1,z2,l',e,e1,e2,e3⟩:=key FF 0 0 [] om_ om_ uF smp_ .nil smp_ smp_;have e:Ef a b FF ((0:Int),(0:Int),[])=some (z1,z2,l'):=e;unfold m184;rw [e];exact ⟨l',rfl,e1,e2,λx=>by rw [e3,ha.2,hb.2]⟩
theorem Vz {c:Aa} {s:Ac} (h:Fit c s) {k:Nat} (hk:k < cL c):idx (vals s) (k:Int)=some (lin s (k:Int)):=by
 obtain ⟨b,h1,h2⟩:=A6 h k hk;rw [Ai,h1,h2]
theorem Yj {c:Aa} {t:Ac} (hc:Rt c) (ht:Fit c t):∃ l,m222 FF c t=some (⟨t.Ends,(List.range t.Valves.length).map (vlv c t),t.Inputs,t.Values,t.Timers⟩,l)/\l.length<=10/\Cs l (rnP c t):=by
 have hb:=hc.bd;have h1:=hb.a';have h2:=hb.i;have h3:=hb.s;have hS:cS c=2 * cA c + c.Inputs.length:=rfl;have hL:cL c=cS c + c.Signals.length:=rfl;have hvl:=ht.v;unfold m222;rw [Cu (ht.sm hb),ob_,Ly hb ht.e (by rw [ht.i];omega) (by rw [ht.x];omega),ob_];obtain ⟨v,hI,hl⟩:=Ok (L:=Gm FF c (vals t)) (mk:=λi (v:List Bool×List Int)=>((i:Int),v.1,v.2)) (N:=cA c) (I:=λi v=>(v.2.length<=i/\Cs v.2 (rnPi c t i))/\v.1=upd (vlv c t) t.Valves i) (λn i v hi hI=>by
  obtain ⟨V,l⟩:=v;obtain ⟨⟨hll,hC⟩,rfl⟩:=hI;obtain ⟨p,m,e1,e2,hp,hm,g1,g2⟩:=Xl hc hi;have e5:(upd (vlv c t) t.Valves i)[i]?=some t.Valves[i]:=by rw [Bz (DW i)];exact gE_ om_
  have e7:t.Valves.getD i false=t.Valves[i]:=by rw [DQ,gE_ om_];rfl
  have hsetV:∀ y,y=vlv c t i->(upd (vlv c t) t.Valves i).set i y=upd (vlv c t) t.Valves (i + 1):=λy hy=>Cz om_ hy;have hkeep:vlv c t i=t.Valves[i]->upd (vlv c t) t.Valves i=upd (vlv c t) t.Valves (i + 1):=λhy=>by
   rw [← hsetV t.Valves[i] hy.symm];refine EV λj=>?_;by_cases hj:j=i
   ·subst hj;rw [EJ (by rw [Jd om_];omega),e5]
   ·rw [FA om_]
  have hvi:vlv c t i=if lin t (p:Int)=lin t (m:Int) then t.Valves[i] else lin t (p:Int):=by
   unfold vlv;rw [g1,g2,e7]
  dsimp only at hll hC;refine ⟨(upd (vlv c t) t.Valves (i + 1),if (lin t (p:Int) && lin t (m:Int))=true then l ++ [((cL c + i:Nat):Int)] else l),⟨?_,rfl⟩,?_⟩
  ·dsimp only;refine ⟨by split <;> (try simp) <;> omega,?_⟩
   cases hpm:lin t (p:Int) && lin t (m:Int) with
   | true=>
    rw [if_pos rfl];refine (hC.snoc λx ⟨j,h1,h2,_⟩=>by omega).iff λx=>?_;rw [Ld,g1,g2,hpm];simp
   | false=>
    rw [if_neg smp_];refine hC.iff λx=>?_;rw [Ld,g1,g2,hpm];simp
  ·rw [Gm];dsimp only;rw [hb.a,Aj,dt_ hi,ct_,Ai,e1,ob_,Vz ht hp,ob_,Ai,e2,ob_,Vz ht hm,ob_,Ec hb,ob_,Aq om_ om_,show (cL c:Int) + (i:Int)=((cL c + i:Nat):Int) by omega,Ai,e5,ob_,An om_,EL];cases hP:lin t (p:Int) with
   | true=>
    cases hM:lin t (m:Int) with
    | true=>
     unfold app;rw [Bool.and_self,ct_,if_pos so_,hkeep (by rw [hvi,hP,hM];simp)];rfl
    | false=>
     rw [hsetV true (by rw [hvi,hP,hM];simp)];rfl
   | false=>
    cases hM:lin t (m:Int) with
    | true=>
     rw [hsetV false (by rw [hvi,hP,hM];simp)];rfl
    | false=>
     rw [hkeep (by rw [hvi,hP,hM];simp)];rfl) (λn v _=>by
  rw [Gm];dsimp only;rw [hb.a,Aj,df_ om_,cf_]) FF 0 (t.Valves,[]) om_ uF ⟨⟨by simp,Cs.nil λ_=>Qy⟩,By.symm⟩
 obtain ⟨V,l⟩:=v;obtain ⟨⟨hll,hC⟩,rfl⟩:=hI;try dsimp only at hl hll hC
 rw [n0] at hl;refine ⟨l,?_,by omega,hC⟩;show ((Gm FF c (vals t) FF ((0:Int),t.Valves,[])).bind _)=_;rw [hl,ob_];have e2:=Da (f:=vlv c t) (l:=t.Valves);rw [hvl] at e2;unfold tup;dsimp only;rw [e2,hvl]
theorem Yi {c:Aa} {t:Ac} (hb:Bd_ c) (ht:Fit c t) (V:List Bool) (hV:V.length=cA c):m223 FF ⟨t.Ends,V,t.Inputs,t.Values,t.Timers⟩=some ⟨(List.range t.Ends.length).map λi=>Ez (V.getD i false) (t.Ends.getD i 0),V,t.Inputs,t.Values,t.Timers⟩:=by
 have h1:=hb.a';have hel:=ht.e;have hsm:Smst (⟨t.Ends,V,t.Inputs,t.Values,t.Timers⟩:Ac) 1000:=by
  have:=ht.sm hb;exact ⟨this.e,by show V.length<=1000;omega,this.i,this.x,this.t⟩
 unfold m223;rw [Cu hsm,ob_];obtain ⟨v,hI,hl⟩:=Ok (L:=Gl ⟨t.Ends,V,t.Inputs,t.Values,t.Timers⟩) (mk:=λi (v:List Int)=>((i:Int),v)) (N:=cA c) (I:=λi v=>v=upd (λi=>Ez (V.getD i false) (t.Ends.getD i 0)) t.Ends i) (λn i v hi hI=>by
  subst hI;have e4:(upd (λi=>Ez (V.getD i false) (t.Ends.getD i 0)) t.Ends i)[i]?=some t.Ends[i]:=by rw [Bz (DW i)];exact gE_ om_
  have e6:t.Ends.getD i 0=t.Ends[i]:=by rw [DQ,gE_ om_];rfl
  have e7:V.getD i false=V[i]:=by rw [DQ,gE_ om_];rfl
  have hee:=ht.ee t.Ends[i] (DK om_);have hsetE:∀ y,y=Ez (V.getD i false) (t.Ends.getD i 0)->(upd (λi=>Ez (V.getD i false) (t.Ends.getD i 0)) t.Ends i).set i y=upd (λi=>Ez (V.getD i false) (t.Ends.getD i 0)) t.Ends (i + 1):=λy hy=>Cz om_ hy;have hkeepE:Ez (V.getD i false) (t.Ends.getD i 0)=t.Ends[i]->upd (λi=>Ez (V.getD i false) (t.Ends.getD i 0)) t.Ends i=upd (λi=>Ez (V.getD i false) (t.Ends.getD i 0)) t.Ends (i + 1):=λhy=>by
   rw [← hsetE t.Ends[i] hy.symm];refine EV λj=>?_;by_cases hj:j=i
   ·subst hj;rw [EJ (by rw [Jd om_];omega),e4]
   ·rw [FA om_]
  refine ⟨_,rfl,?_⟩;rw [Gl];dsimp only;have eV:V[i]?=some V[i]:=gE_ om_;have eE:t.Ends[i]?=some t.Ends[i]:=gE_ om_;rw [hel,Aj,dt_ hi,ct_];simp only [Ai,eV,eE,e4,ob_,EL];rw [An om_];rw [e6,e7] at hsetE hkeepE;generalize t.Ends[i]=e at hee hsetE hkeepE e4;cases hv:V[i] with
  | true=>
   rw [hv] at hsetE hkeepE;by_cases h0:e=0
   ·rw [show (e == 0)=true by simpa using h0];simp only [ct_,ob_,FY,cf_];rw [hsetE 1 (by unfold Ez;rw [if_pos rfl,if_neg om_])]
   ·by_cases h3:e=3
    ·rw [show (e == 0)=false by simpa using h0,show (e == 3)=true by simpa using h3];simp only [ct_,ob_,FY,cf_];rw [hsetE 1 (by unfold Ez;rw [if_pos rfl,if_neg om_])]
    ·rw [show (e == 0)=false by simpa using h0,show (e == 3)=false by simpa using h3];simp only [ct_,ob_,FY,cf_];rw [hkeepE (by unfold Ez;rw [if_pos rfl,if_pos om_])]
  | false=>
   rw [hv] at hsetE hkeepE;simp only [cf_,ob_,GE,ct_];by_cases h0:e=2
   ·rw [show (e == 2)=true by simpa using h0];simp only [ct_,ob_];rw [e4,ob_,ob_,hsetE 3 (by unfold Ez;rw [if_neg smp_,if_neg om_])]
   ·by_cases h3:e=1
    ·rw [show (e == 2)=false by simpa using h0,show (e == 1)=true by simpa using h3];simp only [ct_,ob_,cf_];rw [e4,ob_,ob_,hsetE 3 (by unfold Ez;rw [if_neg smp_,if_neg om_])]
    ·rw [show (e == 2)=false by simpa using h0,show (e == 1)=false by simpa using h3];simp only [cf_,ob_];rw [hkeepE (by unfold Ez;rw [if_neg smp_,if_pos om_])]) (λn v _=>by
  rw [Gl];dsimp only;rw [hel,Aj,df_ om_,cf_]) FF 0 t.Ends om_ uF By.symm
 subst hI;try dsimp only at hl
 rw [n0] at hl;show ((Gl ⟨t.Ends,V,t.Inputs,t.Values,t.Timers⟩ FF ((0:Int),t.Ends)).bind _)=_;rw [hl,ob_];have e2:=Da (f:=λi=>Ez (V.getD i false) (t.Ends.getD i 0)) (l:=t.Ends);rw [hel] at e2;unfold tup;dsimp only;rw [e2,hel]
theorem Yv {c:Aa} {s:Ac} (hc:Rt c) (hf:Fit c s):match stl c 65 s with
  | some t=>∃ l,m183 FF c s=some (rnd c t,l,true)/\l.length<=110/\Cs l λx=>Wl c 65 s x\/rnP c t x
  | none=>∃ a l,m183 FF c s=some (a,l,false):=by
 have hb:=hc.bd;have h:=Yk hc hf;unfold m183;cases hs:stl c 65 s with
 | none=>rw [hs] at h;obtain ⟨a,l,h⟩:=h;rw [h];exact ⟨_,_,rfl⟩
 | some t=>
  rw [hs] at h;obtain ⟨l,h,hl,hC⟩:=h;obtain ⟨ht,_,_⟩:=Jy hf hs;obtain ⟨l2,h2,hl2,hC2⟩:=Yj hc ht;obtain ⟨l3,h3,hl3,hC3⟩:=Ta (a:=l) (b:=l2) om_ hC hC2;rw [h,ob_];dsimp only;rw [nt_,cf_,h2,ob_];dsimp only;rw [Yi hb ht _ (by simp [ht.v]),ob_,h3,ob_];refine ⟨l3,?_,by omega,hC3⟩;congr 2;unfold rnd;congr 1;refine List.map_congr_left λi hi=>?_;have hi:=DZ.1 hi;rw [ht.e] at hi;rw [DQ,DX,ER (by rw [ht.v];exact hi)];rfl
def rst (c:Aa):Nat->Ac->Option Ac
 | 0,_=>none
 | k + 1,s=>match stl c 65 s with
  | none=>none
  | some t=>if sst (rnd c t) s=true then some s else rst c k (rnd c t)
def Qt (c:Aa) (s:Ac):Prop:=∃ t,stl c 65 s=some t/\sst (rnd c t) s=true
theorem Vb {c:Aa}:∀ {k:Nat} {s t:Ac},Fit c s->rst c k s=some t->Fit c t/\t.Inputs=s.Inputs/\Qt c t
 | 0,_,_,_,h=>by cases h
 | k + 1,s,t,hf,h=>by
  unfold rst at h;cases hs:stl c 65 s with
  | none=>rw [hs] at h;cases h
  | some u=>
   rw [hs] at h;try dsimp only at h
   obtain ⟨hu,hk,_⟩:=Jy hf hs;split at h
   ·rename_i h1;obtain rfl:=Option.some.inj h;exact ⟨hf,rfl,u,hs,h1⟩
   ·obtain ⟨h1,h2,h3⟩:=Vb (Pb hu) h;exact ⟨h1,h2.trans hk.i,h3⟩
def Vc (c:Aa):Nat->Ac->Int->Prop
 | 0,_,_=>False
 | k + 1,s,x=>match stl c 65 s with
  | none=>False
  | some t=>(Wl c 65 s x\/rnP c t x)\/(sst (rnd c t) s=false/\Vc c k (rnd c t) x)
theorem Za {a b:List Int} (h:a.length + b.length<=400000000):∃ l,m169 FF a b=some l/\l.length<=a.length + b.length/\Cs l λx=>x∈a\/x∈b:=by
 unfold m169;obtain ⟨r1,r2,e2,e3,l3,hC⟩:=Uu (l:=a ++ b) so_;rw [Mn om_ om_,ob_,e2,ob_,e3];exact ⟨r2,rfl,by rw [DB] at l3;omega,hC.iff λx=>DS⟩
theorem Ei {c:Aa} (hc:Rc c):∀ (k n j:Nat) (s:Ac) (q:List Int),j + k=65->k < n->Fit c s->q.length<=3000 * j ->
  match rst c k s with
  | some t=>∃ l,Bu FF c n ((j:Int),s,q)=some (.ret (t,0,l))/\l.length<=200000/\Cs l λx=>x∈q\/Vc c k s x
  | none=>Bu FF c n ((j:Int),s,q)=some (.ret (z0,21,[]))\/∃ q',Bu FF c n ((j:Int),s,q)=some (.brk q')
 | _,0,_,_,_,_,h,_,_=>by omega
 | 0,n + 1,j,s,q,h1,h2,hf,hq=>by
  unfold rst Bu;dsimp only;rw [show decide ((j:Int) < 65)=false by simp;omega,cf_];exact .inr ⟨_,rfl⟩
 | k + 1,n + 1,j,s,q,h1,h2,hf,hq=>by
  have hb:=hc.rt.bd;have h:=Td hc hf;unfold rst Bu;dsimp only;rw [show decide ((j:Int) < 65)=true by simp;omega,ct_];cases hs:stl c 65 s with
  | none=>rw [hs] at h;rw [h];exact .inl rfl
  | some t=>
   rw [hs] at h;obtain ⟨l,h,hl,hmm⟩:=h;obtain ⟨ht,_,_⟩:=Jy hf hs;have hr:=Pb ht;obtain ⟨l2,e2,hl2,hC2⟩:=Za (a:=q) (b:=l) om_;rw [h,ob_];dsimp only;rw [zf_,cf_,e2,ob_,Md (n:=1000) (hr.sm hb) uF om_,ob_];cases hq2:sst (rnd c t) s with
   | true=>
    rw [if_pos rfl,ct_,Fu.1 hq2];refine ⟨l2,rfl,by omega,hC2.iff λx=>?_⟩;rw [hmm,Vc,hs];dsimp only;rw [hq2];simp
   | false=>
    rw [if_neg smp_,cf_,An om_];have ih:=Ei hc k n (j + 1) (rnd c t) l2 om_ om_ hr om_;cases hst:rst c k (rnd c t) with
    | none=>rw [hst] at ih;exact ih
    | some u=>
     rw [hst] at ih;obtain ⟨l',e4,hl',hC⟩:=ih;refine ⟨l',e4,hl',hC.iff λx=>?_⟩;rw [hC2.2];show (x∈q\/x∈l)\/Vc c k (rnd c t) x↔_;rw [hmm,Vc,hs];dsimp only;rw [hq2];simp [or_assoc]
theorem Zl {c:Aa} {s:Ac} (hc:Rc c) (hf:Fit c s):match rst c 65 s with
  | some t=>∃ l,m121 FF c s=some (t,0,l)/\l.length<=200000/\Cs l (Vc c 65 s)
  | none=>m121 FF c s=some (z0,21,[]):=by
 have h:=Ei hc 65 FF 0 s [] om_ uF hf smp_;rw [n0] at h;unfold m121;rw [Hi hc,(Eo hc.rt.bd).2 hf,ob_,zf_,cf_];cases hs:rst c 65 s with
 | none=>
  rw [hs] at h;rcases h with h | ⟨q,h⟩ <;> rw [h] <;> rfl
 | some t=>rw [hs] at h;obtain ⟨l,h,hl,hC⟩:=h;rw [h];exact ⟨l,rfl,hl,hC.iff λx=>by simp⟩
theorem Tl {c:Aa}:∀ {n z},Cb FF c n z=(Bu FF c n z).map λo=>match o with | .brk q=>.brk q | .ret r=>.ret (r.1,r.2.2,r.2.1):=by
 intro n
 induction n with
 | zero=>intro z;rfl
 | succ n ih=>
  intro z;rw [Cb,Bu];cases decide (z.1 < 65) with
  | false=>rfl
  | true=>
   rw [ct_,ct_];cases m168 FF c z.2.1 with
   | none=>rfl
   | some x=>
    rw [ob_,ob_];cases x.2.1 != 0 with
    | true=>rfl
    | false=>
     rw [cf_,cf_];cases m169 FF z.2.2 x.2.2 with
     | none=>rfl
     | some y=>
      rw [ob_,ob_];cases m170 FF x.1 z.2.1 with
      | none=>rfl
      | some b=>
       rw [ob_,ob_];cases b with
       | true=>rfl
       | false=>rw [cf_,cf_];exact ih
theorem Uf {c:Aa} {s:Ac} (hc:Rc c) (hf:Fit c s):match rst c 65 s with
  | some t=>∃ l,Oi FF c s=some (t,l,0)/\l.length<=200000/\Cs l (Vc c 65 s)
  | none=>Oi FF c s=some (z0,[],21):=by
 have h:=Ei hc 65 FF 0 s [] om_ uF hf smp_;rw [n0] at h;unfold Oi;rw [Hi hc,(Eo hc.rt.bd).2 hf,ob_,zf_,cf_,Tl];cases hs:rst c 65 s with
 | none=>
  rw [hs] at h;rcases h with h | ⟨q,h⟩ <;> rw [h] <;> rfl
 | some t=>rw [hs] at h;obtain ⟨l,h,hl,hC⟩:=h;rw [h];exact ⟨l,rfl,hl,hC.iff λx=>by simp⟩
theorem Km {c:Aa} (hc:Rt c):∀ (k n j:Nat) (s:Ac) (q:List Int),j + k=65->k < n->Fit c s->q.length<=110 * j->∀ {p:Int->Prop},Cs q p ->
  match rst c k s with
  | some t=>∃ l,Eh FF c n (q,(j:Int),s)=some (.ret (t,l,true))/\Cs l λx=>p x\/Vc c k s x
  | none=>(∃ a l,Eh FF c n (q,(j:Int),s)=some (.ret (a,l,false)))\/∃ q',Eh FF c n (q,(j:Int),s)=some (.brk q')
 | _,0,_,_,_,_,h,_,_,_,_=>by omega
 | 0,n + 1,j,s,q,h1,h2,hf,hq,p,hp=>by
  unfold rst Eh;dsimp only;rw [show decide ((j:Int)<=64)=false by simp;omega,cf_];exact .inr ⟨_,rfl⟩
 | k + 1,n + 1,j,s,q,h1,h2,hf,hq,p,hp=>by
  have hb:=hc.bd;have h:=Yv hc hf;unfold rst Eh;dsimp only;rw [show decide ((j:Int)<=64)=true by simp;omega,ct_];cases hs:stl c 65 s with
  | none=>rw [hs] at h;obtain ⟨a,l,h⟩:=h;rw [h];exact .inl ⟨_,_,rfl⟩
  | some t=>
   rw [hs] at h;obtain ⟨l,h,hl,hC⟩:=h;obtain ⟨ht,_,_⟩:=Jy hf hs;have hr:=Pb ht;obtain ⟨l2,e2,hl2,hC2⟩:=Ta (a:=q) (b:=l) om_ hp hC;rw [h,ob_];dsimp only;rw [nt_,cf_,e2,ob_,Mo (n:=1000) (hf.sm hb) uF om_,ob_,show sst s (rnd c t)=sst (rnd c t) s from Ox];cases hq2:sst (rnd c t) s with
   | true=>
    rw [if_pos rfl,ct_];refine ⟨l2,rfl,hC2.iff λx=>?_⟩;rw [Vc,hs];dsimp only;rw [hq2];simp
   | false=>
    rw [if_neg smp_,cf_,An om_];have ih:=Km hc k n (j + 1) (rnd c t) l2 om_ om_ hr om_ hC2;cases hst:rst c k (rnd c t) with
    | none=>rw [hst] at ih;exact ih
    | some u=>
     rw [hst] at ih;obtain ⟨l',e4,hC⟩:=ih;refine ⟨l',e4,hC.iff λx=>?_⟩;rw [Vc,hs];dsimp only;rw [hq2];simp [or_assoc]
theorem Ti {c:Aa} {s:Ac} (hc:Rt c) (hf:Fit c s):match rst c 65 s with
  | some t=>∃ l,m133 FF c s=some (t,l,true)/\Cs l (Vc c 65 s)
  | none=>∃ a l,m133 FF c s=some (a,l,false):=by
 have h:=Km hc 65 FF 0 s [] om_ uF hf smp_ (Cs.nil (p:=λ_=>False) λ_ h=>h);rw [n0] at h;unfold m133;cases hs:rst c 65 s with
 | none=>
  rw [hs] at h;rcases h with ⟨a,l,h⟩ | ⟨q,h⟩ <;> rw [h] <;> exact ⟨_,_,rfl⟩
 | some t=>rw [hs] at h;obtain ⟨l,h,hC⟩:=h;rw [h];exact ⟨l,rfl,hC.iff λx=>by simp⟩
theorem Zq {c:Aa} {s:Ac} (hc:Rt c) (hf:Fit c s):match rst c 65 s with
  | some t=>∃ l,m106 FF c s=some (t,l,0)/\Cs l (Vc c 65 s)
  | none=>m106 FF c s=some (z0,[],21):=by
 have h:=Ti hc hf;unfold m106;cases hs:rst c 65 s with
 | none=>rw [hs] at h;obtain ⟨a,l,h⟩:=h;rw [h];rfl
 | some t=>rw [hs] at h;obtain ⟨l,h,hC⟩:=h;rw [h];exact ⟨_,rfl,hC⟩
def qtE (c:Aa) (s:Ac):Int:=if AH c s=0 then (match stl c 65 s with | some t=>if sst (rnd c t) s=true then 0 else 14 | none=>14) else AH c s
theorem Tk {c:Aa} {s:Ac} (hc:Rc c):m122 FF c s=some (qtE c s):=by
 unfold m122 m171 qtE;rw [Hi hc,ob_];by_cases h0:AH c s=0
 ·have hf:=(Eo hc.rt.bd).1 h0;have h:=Td hc hf;rw [if_pos h0,h0,zf_,cf_];cases hs:stl c 65 s with
  | none=>rw [hs] at h;rw [h];rfl
  | some t=>
   rw [hs] at h;obtain ⟨l,h,hl⟩:=h;obtain ⟨ht,_,_⟩:=Jy hf hs;rw [h,ob_];dsimp only;rw [show ((0:Int) == 0)=true by rfl,ct_,Md (n:=1000) ((Pb ht).sm hc.rt.bd) uF om_];cases sst (rnd c t) s <;> rfl
 ·rw [if_neg h0,show (AH c s != 0)=true by simpa using h0,ct_,ob_];dsimp only;rw [show (AH c s != 0)=true by simpa using h0,ct_]
theorem Vh {c:Aa} {s:Ac} (hb:Bd_ c):qtE c s=0↔Fit c s/\Qt c s:=by
 unfold qtE Qt;rw [← Eo hb];by_cases h0:AH c s=0
 ·rw [if_pos h0];cases stl c 65 s with
  | none=>simp
  | some t=>simp [h0]
 ·rw [if_neg h0];simp [h0]
def act (s:Ac) (x:Ae):Option Ac:=
 if x.Kind=0 then (match idx s.Ends x.Index with
  | some e=>if e=1 then some { s with Ends:=s.Ends.set x.Index.toNat 2 } else if e=3 then some { s with Ends:=s.Ends.set x.Index.toNat 0 } else none
  | none=>none)
 else if x.Kind=1 then (match idx s.Timers x.Index with
  | some t=>if t=1 then some { s with Values:=s.Values.set x.Index.toNat true,Timers:=s.Timers.set x.Index.toNat 2 } else none
  | none=>none)
 else (match idx s.Inputs x.Index with
  | some v=>if v=x.Value then none else some { s with Inputs:=s.Inputs.set x.Index.toNat x.Value }
  | none=>none)
def aft (c:Aa) (s:Ac) (x:Ae):Ac×Int:=
 if x.Kind < 0\/3<=x.Kind then (z0,1) else match act s x with
  | none=>(z0,14)
  | some s'=>match rst c 65 s' with
   | none=>(z0,21)
   | some t=>(t,0)
theorem Ud {α:Type} {l:List α} {i:Nat} {y a:α} (h:a∈l.set i y):a∈l\/a=y:=by
 rcases List.mem_or_eq_of_mem_set h with h | h
 ·exact .inl h
 ·exact .inr h
theorem Qm {c:Aa} {s s':Ac} {x:Ae} (h:Fit c s) (ha:act s x=some s'):Fit c s':=by
 unfold act at ha;split at ha
 ·split at ha
  ·rename_i e he;split at ha
   ·obtain rfl:=Option.some.inj ha;exact ⟨(FG ..).trans h.e,h.v,h.i,h.x,h.t,λa ha=>(Ud ha).elim (h.ee a) (λe=>by omega),h.tt,h.k⟩
   ·split at ha
    ·obtain rfl:=Option.some.inj ha;exact ⟨(FG ..).trans h.e,h.v,h.i,h.x,h.t,λa ha=>(Ud ha).elim (h.ee a) (λe=>by omega),h.tt,h.k⟩
    ·cases ha
  ·cases ha
 ·split at ha
  ·split at ha
   ·rename_i t ht;split at ha
    ·rename_i h1;obtain rfl:=Option.some.inj ha;obtain ⟨i0,i1,i2⟩:=Au ht;refine ⟨h.e,h.v,h.i,(FG ..).trans h.x,(FG ..).trans h.t,h.ee,λa ha=>(Ud ha).elim (h.tt a) (λe=>by omega),?_⟩;intro i y t' v' hy ht' hv';dsimp only at ht' hv';by_cases e:i=x.Index.toNat
     ·subst e;rw [EJ om_] at ht';rw [EJ (by have:=h.x;have:=h.t;omega)] at hv';obtain rfl:=Option.some.inj ht';obtain rfl:=Option.some.inj hv';refine ⟨λhk=>?_,λ_=>rfl⟩;have hlt:x.Index.toNat < s.Values.length:=by rw [h.x,← h.t];exact (DG.1 i2).1
      have hvo:s.Values[x.Index.toNat]?=some s.Values[x.Index.toNat]:=gE_ hlt;have:=(h.k _ y t _ hy i2 hvo).1 hk;omega
     ·rw [FA om_] at ht' hv';exact h.k i y t' v' hy ht' hv'
    ·cases ha
   ·cases ha
  ·split at ha
   ·split at ha
    ·cases ha
    ·obtain rfl:=Option.some.inj ha;exact ⟨h.e,h.v,(FG ..).trans h.i,h.x,h.t,h.ee,h.tt,h.k⟩
   ·cases ha
def afP (c:Aa) (s:Ac) (x:Ae) (y:Int):Prop:=(aft c s x).2=0/\∃ s',act s x=some s'/\Vc c 65 s' y
theorem Zk {c:Aa} {s:Ac} {x:Ae} (hc:Rc c) (hf:Fit c s):∃ l,m123 FF c s x=some ((aft c s x).1,l,(aft c s x).2)/\l.length<=200000/\Cs l (afP c s x):=by
 have hb:=hc.rt.bd;unfold m123 afP aft;rw [Tc (hf.sm hb),ob_];by_cases hk:x.Kind < 0\/3<=x.Kind
 ·rw [if_pos hk,show (decide (x.Kind < 0) || decide (x.Kind>=(3:Int)))=true by simpa using hk];exact ⟨_,rfl,by simp,Cs.nil λx h=>by cases h.1⟩
 ·rw [if_neg hk,show (decide (x.Kind < 0) || decide (x.Kind>=(3:Int)))=false by simp;omega,cf_]
  -- what the act gives
  have key:∃ r:Bool×(List Int)×(List Bool)×(List Bool)×(List Bool)×(List Int),((idx (List.range 3) x.Kind).bind λx6=>(bif x6 == 0 then m173 FF x (tup s).1 (tup s).2.1 (tup s).2.2.1 (tup s).2.2.2.1 (tup s).2.2.2.2 else bif x6 == 1 then m174 FF x (tup s).1 (tup s).2.1 (tup s).2.2.1 (tup s).2.2.2.1 (tup s).2.2.2.2 else bif x6 == 2 then m175 FF x (tup s).1 (tup s).2.1 (tup s).2.2.1 (tup s).2.2.2.1 (tup s).2.2.2.2 else none))=some r /\
    (match act s x with | none=>r.1=false | some s'=>r=(true,s'.Ends,s'.Valves,s'.Inputs,s'.Values,s'.Timers)):=by
   unfold tup act;dsimp only;have hkk:x.Kind=0\/x.Kind=1\/x.Kind=2:=by omega
   rcases hkk with k | k | k <;> rw [k]
   ·rw [show idx (List.range 3) (0:Int)=some 0 by rfl,ob_,show ((0:Nat) == 0)=true by rfl,ct_,if_pos rfl];unfold m173;by_cases hr:x.Index < 0\/(s.Ends.length:Int)<=x.Index
    ·rw [show (decide (x.Index < 0) || decide (x.Index>=(s.Ends.length:Int)))=true by simpa using hr,ct_];have:idx s.Ends x.Index=none:=by
      cases he:idx s.Ends x.Index with
      | none=>rfl
      | some e=>have:=Au he;omega
     rw [this];exact ⟨_,rfl,rfl⟩
    ·rw [show (decide (x.Index < 0) || decide (x.Index>=(s.Ends.length:Int)))=false by simp;omega,cf_];obtain ⟨e,he,_⟩:=Dv (xs:=s.Ends) (i:=x.Index) om_ om_;rw [he,ob_];dsimp only;by_cases h1:e=1
     ·rw [if_pos h1,show (e == 1)=true by simpa using h1,ct_];exact ⟨_,rfl,rfl⟩
     ·rw [if_neg h1,show (e == 1)=false by simpa using h1,cf_];by_cases h3:e=3
      ·rw [if_pos h3,show (e == 3)=true by simpa using h3,ct_];exact ⟨_,rfl,rfl⟩
      ·rw [if_neg h3,show (e == 3)=false by simpa using h3,cf_];exact ⟨_,rfl,rfl⟩
   ·rw [show idx (List.range 3) (1:Int)=some 1 by rfl,ob_,show ((1:Nat) == 0)=false by rfl,cf_,show ((1:Nat) == 1)=true by rfl,ct_,if_neg om_,if_pos rfl];unfold m174;by_cases hr:x.Index < 0\/(s.Timers.length:Int)<=x.Index
    ·rw [show (decide (x.Index < 0) || decide (x.Index>=(s.Timers.length:Int)))=true by simpa using hr,ct_,ob_];have:idx s.Timers x.Index=none:=by
      cases he:idx s.Timers x.Index with
      | none=>rfl
      | some e=>have:=Au he;omega
     rw [this];exact ⟨_,rfl,rfl⟩
    ·rw [show (decide (x.Index < 0) || decide (x.Index>=(s.Timers.length:Int)))=false by simp;omega,cf_];obtain ⟨e,he,_⟩:=Dv (xs:=s.Timers) (i:=x.Index) om_ om_;obtain ⟨v,hv,_⟩:=Dv (xs:=s.Values) (i:=x.Index) om_ (by have:=hf.x;have:=hf.t;omega);rw [he,ob_,ob_];dsimp only;by_cases h1:e=1
     ·rw [if_pos h1,show (e != 1)=false by simpa using h1,cf_,ob_,hv];exact ⟨_,rfl,rfl⟩
     ·rw [if_neg h1,show (e != 1)=true by simpa using h1,ct_];exact ⟨_,rfl,rfl⟩
   ·rw [show idx (List.range 3) (2:Int)=some 2 by rfl,ob_,show ((2:Nat) == 0)=false by rfl,cf_,show ((2:Nat) == 1)=false by rfl,cf_,show ((2:Nat) == 2)=true by rfl,ct_,if_neg om_,if_neg om_];unfold m175;by_cases hr:x.Index < 0\/(s.Inputs.length:Int)<=x.Index
    ·rw [show (decide (x.Index < 0) || decide (x.Index>=(s.Inputs.length:Int)))=true by simpa using hr,ct_,ob_];have:idx s.Inputs x.Index=none:=by
      cases he:idx s.Inputs x.Index with
      | none=>rfl
      | some e=>have:=Au he;omega
     rw [this];exact ⟨_,rfl,rfl⟩
    ·rw [show (decide (x.Index < 0) || decide (x.Index>=(s.Inputs.length:Int)))=false by simp;omega,cf_];obtain ⟨e,he,_⟩:=Dv (xs:=s.Inputs) (i:=x.Index) om_ om_;rw [he,ob_,ob_];dsimp only;by_cases h1:e=x.Value
     ·rw [if_pos h1,show (e == x.Value)=true by simpa using h1,ct_];exact ⟨_,rfl,rfl⟩
     ·rw [if_neg h1,show (e == x.Value)=false by simpa using h1,cf_,ob_];exact ⟨_,rfl,rfl⟩
  obtain ⟨r,hr,hm⟩:=key;obtain ⟨x6,h6,hr⟩:=EY.1 hr;rw [h6,ob_,hr,ob_];cases ha:act s x with
  | none=>
   rw [ha] at hm;rw [hm,nf_,ct_];exact ⟨_,rfl,by simp,Cs.nil λx h=>by cases h.1⟩
  | some s'=>
   rw [ha] at hm;subst hm;have h:=Uf hc (Qm hf ha);dsimp only;rw [nt_,cf_];rw [show (⟨s'.Ends,s'.Valves,s'.Inputs,s'.Values,s'.Timers⟩:Ac)=s' from rfl];cases hs:rst c 65 s' with
   | none=>rw [hs] at h;rw [h];exact ⟨_,rfl,by simp,Cs.nil λx h=>by cases h.1⟩
   | some t=>rw [hs] at h;obtain ⟨l,h,hl,hC⟩:=h;rw [h];exact ⟨_,rfl,hl,hC.iff λx=>by simp⟩
theorem m91_cs {c:Aa} {s:Ac} {x:Ae} (hc:Rc c) (hf:Fit c s) (hq:Qt c s):∃ l,m91 FF c s x=some ((aft c s x).1,l,(aft c s x).2)/\l.length<=200000/\Cs l (afP c s x):=by
 obtain ⟨l,h,hl,hC⟩:=Zk (x:=x) hc hf;unfold m91;rw [Tk hc,(Vh hc.rt.bd).2 ⟨hf,hq⟩,ob_,zf_,cf_,h];exact ⟨l,rfl,hl,hC⟩
theorem Vk {c:Aa} {s:Ac} {x:Ae} (hc:Rc c) (hf:Fit c s) (hq:Qt c s):∃ l,m91 FF c s x=some ((aft c s x).1,l,(aft c s x).2):=
 let ⟨l,h,_⟩:=m91_cs hc hf hq;⟨l,h⟩
end Go.Pn
namespace Go.Pn
open Go
def Qn (s:Ac) (i:Nat):Option Ae:=if s.Ends.getD i 0=1\/s.Ends.getD i 0=3 then some ⟨0,(i:Int),false⟩ else none
def Xa (s:Ac) (i:Nat):Option Ae:=if s.Timers.getD i 0=1 then some ⟨1,(i:Int),false⟩ else none
def Jb (s:Ac):List Ae:=(List.range s.Ends.length).filterMap (Qn s) ++ (List.range s.Timers.length).filterMap (Xa s)
theorem Bo {α:Type} {g:Nat->Option α} {n:Nat}:((List.range n).filterMap g).length<=n:=by
 have:=List.length_filterMap_le g (List.range n);rw [G1] at this;exact this
theorem Ev {α:Type} {g:Nat->Option α} {n:Nat}:(List.range (n + 1)).filterMap g=(List.range n).filterMap g ++ (match g n with | some y=>[y] | none=>[]):=by
 rw [List.range_succ,List.filterMap_append];cases h:g n <;> simp [h]
theorem Vo {s:Ac} (h:Smst s 1000):m65 FF s=some (Jb s):=by
 have h1:=h.e;have h2:=h.t;unfold m65;obtain ⟨v,hv,hl⟩:=Ok (L:=Nv s) (mk:=λi (v:List Ae)=>((i:Int),v)) (N:=s.Ends.length) (I:=λi v=>v=(List.range i).filterMap (Qn s)) (λn i v hi hI=>by
  subst hI;refine ⟨_,rfl,?_⟩;have hle:=Bo (g:=Qn s) (n:=i);have hg:s.Ends.getD i 0=s.Ends[i]:=by rw [DQ,gE_ hi];rfl
  rw [Nv];dsimp only;rw [Aj,dt_ hi,ct_];simp only [Ai,gE_ hi,ob_];rw [An om_,Ev];have hp:Qn s i=if s.Ends[i]=1\/s.Ends[i]=3 then some ⟨0,(i:Int),false⟩ else none:=by unfold Qn;rw [hg]
  rw [hp];by_cases a1:s.Ends[i]=1
  ·rw [show (s.Ends[i] == 1)=true by simpa using a1,if_pos (.inl a1),ct_,ob_,ct_,Aw so_];rfl
  ·by_cases a3:s.Ends[i]=3
   ·rw [show (s.Ends[i] == 1)=false by simpa using a1,show (s.Ends[i] == 3)=true by simpa using a3,if_pos (.inr a3),cf_,ob_,ct_,Aw so_];rfl
   ·rw [show (s.Ends[i] == 1)=false by simpa using a1,show (s.Ends[i] == 3)=false by simpa using a3,if_neg om_,cf_,ob_,cf_,ob_,EF]) (λn v _=>by
  rw [Nv];dsimp only;rw [Aj,df_ om_,cf_]) FF 0 [] om_ uF rfl
 subst hv;try dsimp only at hl
 rw [n0] at hl;rw [hl,ob_];have hle1:=Bo (g:=Qn s) (n:=s.Ends.length);obtain ⟨v,hv,hl⟩:=Ok (L:=Nu s) (mk:=λi (v:List Ae)=>((i:Int),v)) (N:=s.Timers.length) (I:=λi v=>v=(List.range s.Ends.length).filterMap (Qn s) ++ (List.range i).filterMap (Xa s)) (λn i v hi hI=>by
  subst hI;refine ⟨_,rfl,?_⟩;have hle:=Bo (g:=Xa s) (n:=i);have hg:s.Timers.getD i 0=s.Timers[i]:=by rw [DQ,gE_ hi];rfl
  rw [Nu];dsimp only;rw [Aj,dt_ hi,ct_];simp only [Ai,gE_ hi,ob_];rw [An om_,Ev];have hp:Xa s i=if s.Timers[i]=1 then some ⟨1,(i:Int),false⟩ else none:=by unfold Xa;rw [hg]
  rw [hp];by_cases a1:s.Timers[i]=1
  ·rw [show (s.Timers[i] == 1)=true by simpa using a1,if_pos a1,ct_,Aw so_,← D2];rfl
  ·rw [show (s.Timers[i] == 1)=false by simpa using a1,if_neg a1,cf_,ob_,EF]) (λn v _=>by
  rw [Nu];dsimp only;rw [Aj,df_ om_,cf_]) FF 0 ((List.range s.Ends.length).filterMap (Qn s)) om_ uF smp_
 subst hv;try dsimp only at hl
 rw [n0] at hl;rw [hl];rfl
theorem Kt {s:Ac} (h:Smst s 1000):(Jb s).length<=2000:=by
 have h1:=h.e;have h2:=h.t;have a:=Bo (g:=Qn s) (n:=s.Ends.length);have b:=Bo (g:=Xa s) (n:=s.Timers.length);unfold Jb;rw [DB];omega
theorem Ph {s:Ac} {x:Ae}:x∈Jb s↔(∃ i,i < s.Ends.length/\(s.Ends.getD i 0=1\/s.Ends.getD i 0=3)/\x=⟨0,(i:Int),false⟩)\/(∃ i,i < s.Timers.length/\s.Timers.getD i 0=1/\x=⟨1,(i:Int),false⟩):=by
 unfold Jb;rw [DS,F6,F6];unfold Qn Xa;constructor
 ·rintro (⟨i,hi,h⟩ | ⟨i,hi,h⟩)
  ·split at h
   ·rename_i h1;exact .inl ⟨i,DZ.1 hi,h1,(Option.some.inj h).symm⟩
   ·cases h
  ·split at h
   ·rename_i h1;exact .inr ⟨i,DZ.1 hi,h1,(Option.some.inj h).symm⟩
   ·cases h
 ·rintro (⟨i,hi,h,rfl⟩ | ⟨i,hi,h,rfl⟩)
  ·exact .inl ⟨i,DZ.2 hi,by rw [if_pos h]⟩
  ·exact .inr ⟨i,DZ.2 hi,by rw [if_pos h]⟩
theorem Wc {l:List Int} {i:Nat} (h:i < l.length):idx l (i:Int)=some (l.getD i 0):=by
 rw [Ai,DQ,gE_ h];rfl
theorem Wa {l:List Int} {i e:Int} (h:idx l i=some e):i.toNat < l.length/\l.getD i.toNat 0=e/\((i.toNat:Nat):Int)=i:=by
 obtain ⟨h0,h1,h2⟩:=Au h;exact ⟨(DG.1 h2).1,by rw [DQ,h2];rfl,by omega⟩
theorem Zs {s:Ac} {x:Ae} (h:Smst s 1000) (hk:0<=x.Kind/\x.Kind < 3):m105 FF s x=some (act s x).isSome:=by
 have hkk:x.Kind=0\/x.Kind=1\/x.Kind=2:=by omega
 unfold m105;by_cases h2:x.Kind=2
 ·rw [h2,show ((2:Int) == 2)=true by rfl,ct_];unfold act;rw [if_neg om_,if_neg om_];by_cases hr:x.Index>=0/\x.Index < s.Inputs.length
  ·rw [dt_ hr.1,dt_ hr.2,Bool.and_self,ct_];obtain ⟨v,hv,_⟩:=Dv (xs:=s.Inputs) hr.1 hr.2;rw [hv,ob_,ob_];dsimp only;by_cases e:v=x.Value
   ·rw [if_pos e,e];simp
   ·rw [if_neg e,show (v != x.Value)=true by simpa using e];rfl
  ·have:(decide (x.Index>=(0:Int)) && decide (x.Index < (s.Inputs.length:Int)))=false:=by
    rw [GC,decide_eq_false_iff_not,decide_eq_false_iff_not];omega
   have hn:idx s.Inputs x.Index=none:=by
    cases he:idx s.Inputs x.Index with
    | none=>rfl
    | some e=>have:=Au he;omega
   rw [this,hn];rfl
 ·rw [show (x.Kind == 2)=false by simpa using h2,cf_,Vo h,ob_];have hpl:=Kt h;have h5:=Wz (L:=Mq x (Jb s)) (xs:=Jb s) (p:=λ_ y=>some ((y.Kind == x.Kind) && (y.Index == x.Index))) (q:=λy=>(y.Kind == x.Kind) && (y.Index == x.Index)) (r:=λ_=>true) (λn z=>by
   rw [Mq];congr 1;cases hy:idx (Jb s) z with
   | none=>rfl
   | some y=>
    simp only [ob_];cases (y.Kind == x.Kind) <;> rfl) om_ (λi y hy=>rfl) FF 0 om_ (by unfold FF; omega)
  rw [n0,DM] at h5;rw [h5];have key:(act s x).isSome=true↔∃ y∈Jb s,((y.Kind == x.Kind) && (y.Index == x.Index))=true:=by
   unfold act;constructor
   ·intro ha;split at ha
    ·rename_i hk0;split at ha
     ·rename_i e he;obtain ⟨g1,g2,g3⟩:=Wa he;have:e=1\/e=3:=by
       split at ha
       ·left;assumption
       ·split at ha
        ·right;assumption
        ·cases ha
      exact ⟨⟨0,((x.Index.toNat:Nat):Int),false⟩,Ph.2 (.inl ⟨_,g1,by omega,rfl⟩),by simp [hk0,g3]⟩
     ·cases ha
    ·split at ha
     ·rename_i hk0 hk1;split at ha
      ·rename_i e he;obtain ⟨g1,g2,g3⟩:=Wa he;have:e=1:=by
        split at ha
        ·assumption
        ·cases ha
       exact ⟨⟨1,((x.Index.toNat:Nat):Int),false⟩,Ph.2 (.inr ⟨_,g1,by omega,rfl⟩),by simp [hk1,g3]⟩
      ·cases ha
     ·omega
   ·rintro ⟨y,hy,hq⟩;rw [DJ,beq_iff_eq,beq_iff_eq] at hq;obtain ⟨q1,q2⟩:=hq;rcases Ph.1 hy with ⟨i,hi,he,rfl⟩ | ⟨i,hi,he,rfl⟩
    ·dsimp only at q1 q2;rw [if_pos q1.symm,← q2,Wc hi];dsimp only;rcases he with he | he
     ·rw [if_pos he];rfl
     ·rw [if_neg om_,if_pos he];rfl
    ·dsimp only at q1 q2;rw [if_neg om_,if_pos q1.symm,← q2,Wc hi];dsimp only;rw [if_pos he];rfl
  cases h6:(Jb s).findIdx? (λy=>(y.Kind == x.Kind) && (y.Index == x.Index)) with
  | none=>
   rw [EG] at h6;have:(act s x).isSome=false:=by
    rw [HV];intro ha;obtain ⟨y,hy,hq⟩:=key.1 ha;rw [h6 y hy] at hq;cases hq
   rw [this];rfl
  | some j=>
   obtain ⟨hj,hj2,_⟩:=D6.1 h6;rw [key.2 ⟨_,DK hj,hj2⟩];rfl
theorem Zp {c:Aa} {s s':Ac} {x:Ae} (hb:Bd_ c) (hf:Fit c s) (hk:0<=x.Kind/\x.Kind < 3) (ha:act s x=some s'):m107 FF s x=some s':=by
 have hkk:x.Kind=0\/x.Kind=1\/x.Kind=2:=by omega
 unfold m107;rw [Cu (hf.sm hb),ob_];unfold tup;dsimp only;unfold act at ha;rcases hkk with k | k | k <;> rw [k] at ha ⊢
 ·rw [if_pos rfl] at ha;rw [show ((0:Int) == 0)=true by rfl,ct_];split at ha
  ·rename_i e he;obtain ⟨i0,i1,i2⟩:=Au he;rw [he,ob_,ob_];split at ha
   ·rename_i h1;obtain rfl:=Option.some.inj ha;obtain ⟨y,hy,_⟩:=Dv (xs:=s.Ends.set x.Index.toNat 0) i0 (by rw [FG];exact i1);rw [h1,show ((1:Int) == 1)=true by rfl,ct_,hy,ob_,ob_,ob_,List.set_set]
   ·rename_i h1;split at ha
    ·obtain rfl:=Option.some.inj ha;rw [show (e == 1)=false by simpa using h1,cf_,ob_,ob_]
    ·cases ha
  ·cases ha
 ·rw [if_neg om_,if_pos rfl] at ha;rw [show ((1:Int) == 0)=false by rfl,cf_,show ((1:Int) == 1)=true by rfl,ct_];split at ha
  ·rename_i e he;obtain ⟨i0,i1,i2⟩:=Au he;have hx:=hf.x;have ht:=hf.t;obtain ⟨y,hy,_⟩:=Dv (xs:=s.Values) i0 om_;rw [he,ob_,hy,ob_,ob_];split at ha
   ·obtain rfl:=Option.some.inj ha;rfl
   ·cases ha
  ·cases ha
 ·rw [if_neg om_,if_neg om_] at ha;rw [show ((2:Int) == 0)=false by rfl,cf_,show ((2:Int) == 1)=false by rfl,cf_,show ((2:Int) == 2)=true by rfl,ct_];split at ha
  ·rename_i e he;rw [he,ob_,ob_,ob_,ob_];split at ha
   ·cases ha
   ·obtain rfl:=Option.some.inj ha;rfl
  ·cases ha
theorem m66_cs {c:Aa} {s:Ac} {x:Ae} (hc:Rt c) (hf:Fit c s):∃ l,m66 FF c s x=some ((aft c s x).1,l,(aft c s x).2)/\Cs l (afP c s x):=by
 have hb:=hc.bd;unfold m66 afP aft;by_cases hk:x.Kind < 0\/3<=x.Kind
 ·rw [if_pos hk,show (decide (x.Kind < 0) || decide (x.Kind > 2))=true by simp;omega];exact ⟨_,rfl,Cs.nil λx h=>by cases h.1⟩
 ·rw [if_neg hk,show (decide (x.Kind < 0) || decide (x.Kind > 2))=false by simp;omega,cf_,Zs (hf.sm hb) om_,ob_];cases ha:act s x with
  | none=>exact ⟨_,rfl,Cs.nil λx h=>by cases h.1⟩
  | some s'=>
   rw [show (!(some s').isSome)=false by rfl,cf_,Zp hb hf om_ ha,ob_];have h:=Zq hc (Qm hf ha);dsimp only;cases hs:rst c 65 s' with
   | none=>rw [hs] at h;rw [h];exact ⟨_,rfl,Cs.nil λx h=>by cases h.1⟩
   | some t=>rw [hs] at h;obtain ⟨l,h,hC⟩:=h;rw [h];exact ⟨_,rfl,hC.iff λy=>⟨λh=>⟨rfl,s',rfl,h⟩,λ⟨_,s2,h2,h3⟩=>by obtain rfl:=Option.some.inj h2;exact h3⟩⟩
theorem Vn {c:Aa} {s:Ac} {x:Ae} (hc:Rt c) (hf:Fit c s):∃ l,m66 FF c s x=some ((aft c s x).1,l,(aft c s x).2):=
 let ⟨l,h,_⟩:=m66_cs hc hf;⟨l,h⟩
def A3 (c:Aa) (i:Nat):Bool:=((c.Signals[i]?).map (·.Init)).getD false
def ini (c:Aa):Ac:=⟨List.replicate (cA c) 0,List.replicate (cA c) false,List.replicate c.Inputs.length false,(List.range c.Signals.length).map (A3 c),List.replicate c.Signals.length 0⟩
theorem Qd {c:Aa} (hc:Rt c):Fit c (ini c):=by
 refine ⟨by simp [ini],by simp [ini],by simp [ini],by simp [ini],by simp [ini],?_,?_,?_⟩
 ·intro a ha;have:=G5 ha;omega
 ·intro a ha;have:=G5 ha;omega
 ·intro i x t v hx ht hv;have hi:=(DG.1 hx).1;have ht':(List.replicate c.Signals.length (0:Int))[i]?=some t:=ht;have hv':((List.range c.Signals.length).map (A3 c))[i]?=some v:=hv;rw [G8,if_pos hi] at ht';rw [DX,ER hi] at hv';have ht':=Option.some.inj ht';have hv':=Option.some.inj hv';subst ht';refine ⟨λ_=>rfl,λhk=>?_⟩;have:=hc.ini x (DP hx) hk;unfold A3 at hv';rw [hx] at hv';have hv':x.Init=v:=hv';rw [← hv',this];rfl
theorem Kq {c:Aa} (hb:Bd_ c):∃ z,Dn c FF ((0:Int),List.replicate c.Signals.length false)=some (z,(List.range c.Signals.length).map (A3 c)):=by
 have h3:=hb.s;obtain ⟨v,hv,hl⟩:=Ok (L:=Dn c) (mk:=λi (v:List Bool)=>((i:Int),v)) (N:=c.Signals.length) (I:=λi v=>v=upd (A3 c) (List.replicate c.Signals.length false) i) (λn i v hi hI=>by
  subst hI;refine ⟨_,rfl,?_⟩;have hg:(upd (A3 c) (List.replicate c.Signals.length false) i)[i]?=some false:=by rw [Bz (DW i),G8,if_pos hi]
  rw [Dn];dsimp only;rw [Aj,dt_ hi,ct_,Ai,gE_ hi,ob_,Ai,hg,ob_,An om_,EL,Cz (by simpa using hi) (by unfold A3;rw [gE_ hi];rfl)]) (λn v _=>by
  rw [Dn];dsimp only;rw [Aj,df_ om_,cf_]) FF 0 _ om_ uF By.symm
 subst hv;try dsimp only at hl
 rw [n0] at hl;rw [hl];have:=Da (f:=A3 c) (l:=List.replicate c.Signals.length false);rw [GB] at this;rw [this];exact ⟨_,rfl⟩
theorem Wu {c:Aa}:∀ {n z},Mi c n z=Dn c n z:=by
 intro n
 induction n with
 | zero=>intro z;rfl
 | succ n ih=>intro z;rw [Mi,Dn];simp only [ih]
theorem Fi {α:Type} {z:α} {n:Nat} (h:n<=1000):mks z (n:Int)=some (List.replicate n z):=by
 unfold mks;rw [if_pos om_,EL]
theorem Zm {c:Aa} (hc:Rc c):m120 FF c=some (Ar c (ini c),0):=by
 have hb:=hc.rt.bd;have h1:=hb.a';have h2:=hb.i;have h3:=hb.s;obtain ⟨z,hz⟩:=Kq hb;unfold m120;rw [hc.ck,ob_,zf_,cf_,hb.a,Fi om_,ob_,Fi om_,ob_,Fi om_,ob_,Fi om_,ob_,Fi om_,ob_,hz,ob_];dsimp only;rw [show (⟨List.replicate (cA c) 0,List.replicate (cA c) false,List.replicate c.Inputs.length false,(List.range c.Signals.length).map (A3 c),List.replicate c.Signals.length 0⟩:Ac)=ini c from rfl,Zb hc.rt hc.fw (Qd hc.rt)];rfl
theorem Zh {c:Aa} (hc:Rt c):m134 FF c=some (Ar c (ini c)):=by
 have hb:=hc.bd;have h1:=hb.a';have h2:=hb.i;have h3:=hb.s;obtain ⟨z,hz⟩:=Kq hb;unfold m134;rw [hb.a,Fi om_,ob_,Fi om_,ob_,Fi om_,ob_,Fi om_,ob_,Fi om_,ob_,Wu,hz,ob_];dsimp only;rw [show (⟨List.replicate (cA c) 0,List.replicate (cA c) false,List.replicate c.Inputs.length false,(List.range c.Signals.length).map (A3 c),List.replicate c.Signals.length 0⟩:Ac)=ini c from rfl,Sz hc (Qd hc)];rfl
theorem BM {c:Aa} (hc:Rc c):match rst c 65 (Ar c (ini c)) with
  | some t=>∃ l,m90 FF c=some (t,0,l)/\l.length<=200000/\Cs l (Vc c 65 (Ar c (ini c)))
  | none=>m90 FF c=some (z0,21,[]):=by
 have h:=Zl hc (En (Qd hc.rt));unfold m90;rw [Zm hc,ob_,zf_,cf_];dsimp only;cases hs:rst c 65 (Ar c (ini c)) with
 | none=>rw [hs] at h;rw [h];rfl
 | some t=>rw [hs] at h;obtain ⟨l,h,hl,hC⟩:=h;rw [h];exact ⟨l,rfl,hl,hC⟩
def bgs (c:Aa):List Bool->Nat->Ac->Option Ac
 | [],_,s=>some s
 | b :: l,i,s=>if b=true then (match rst c 65 { s with Inputs:=s.Inputs.set i true } with
   | some t=>bgs c l (i + 1) t
   | none=>none) else bgs c l (i + 1) s
theorem Ji {c:Aa} {held:List Bool} (hl:held.length<=1000) {e:Int} (he:e≠0) (s:Ac):∀ (n i:Nat),i<=held.length->held.length - i < n->∃ z,Hd FF c held n (e,(i:Int),s)=some (e,z,s)
 | 0,i,_,h=>by omega
 | n + 1,i,h1,h2=>by
  unfold Hd;dsimp only;by_cases hi:i < held.length
  ·rw [Aj,dt_ hi,ct_,Ai,gE_ hi,ob_,show (e == 0)=false by simpa using he,FQ,cf_,ob_,An om_];exact Ji hl he s n (i + 1) om_ om_
  ·rw [Aj,df_ hi,cf_];exact ⟨_,rfl⟩
theorem Qj {c:Aa} (hc:Rc c) {held:List Bool} (hhl:held.length=c.Inputs.length):∀ (l:List Bool) (i n:Nat) (s:Ac),held.drop i=l->l.length < n->Fit c s->Qt c s->(∀ j,i<=j->j < c.Inputs.length->s.Inputs[j]?=some false) ->
  match bgs c l i s with
  | some t=>(∃ z,Hd FF c held n ((0:Int),(i:Int),s)=some (0,z,t))/\(∃ z,Cc FF c held n (true,(i:Int),s)=some (true,z,t))/\Fit c t/\Qt c t
  | none=>(∃ z t,Hd FF c held n ((0:Int),(i:Int),s)=some (21,z,t))/\∃ z t,Cc FF c held n (true,(i:Int),s)=some (false,z,t)
 | [],i,0,s,_,h,_,_,_=>by simp at h
 | [],i,n + 1,s,hd,_,hf,hq,_=>by
  have hi:held.length<=i:=by simpa using hd
  unfold bgs Hd Cc;dsimp only;rw [Aj,df_ om_,cf_,FQ,cf_];exact ⟨⟨_,rfl⟩,⟨_,rfl⟩,hf,hq⟩
 | b :: l,i,0,s,_,h,_,_,_=>by simp at h
 | b :: l,i,n + 1,s,hd,hn,hf,hq,hI=>by
  have hb:=hc.rt.bd;have h2:=hb.i;have hi:i < held.length:=by
   rcases E4 i held.length with h | h
   ·exact h
   ·rw [DN h] at hd;cases hd
  rw [DH hi] at hd;obtain ⟨hb1,hd1⟩:=List.cons.inj hd;have hx:held[i]?=some b:=by rw [gE_ hi,hb1]
  have hin:=hI i (DW i) om_;unfold bgs Hd Cc;dsimp only;rw [Aj,dt_ hi,ct_,FC,ct_,Ai,hx,ob_,ob_,show ((0:Int) == 0)=true by rfl,FC,An om_];simp only [FN] at hn;cases b with
  | false=>
   rw [if_neg smp_,cf_,cf_,ob_,ob_];exact Qj hc hhl l (i + 1) n s hd1 om_ hf hq (λj h1 h2=>hI j om_ h2)
  | true=>
   have ha:act s ⟨2,(i:Int),true⟩=some { s with Inputs:=s.Inputs.set i true }:=by
    unfold act;dsimp only;rw [if_neg om_,if_neg om_,Ai,hin];rfl
   have haf:aft c s ⟨2,(i:Int),true⟩=match rst c 65 { s with Inputs:=s.Inputs.set i true } with | none=>(z0,21) | some t=>(t,0):=by
    unfold aft;rw [if_neg smp_,ha]
    all_goals (dsimp only; cases rst c 65 { s with Inputs:=s.Inputs.set i true } <;> rfl)
   obtain ⟨l1,e1⟩:=Vk (x:=⟨2,(i:Int),true⟩) hc hf hq;obtain ⟨l2,e2⟩:=Vn (x:=⟨2,(i:Int),true⟩) hc.rt hf;rw [if_pos rfl,ct_,ct_,e1,e2,ob_,ob_,ob_,ob_];rw [haf];cases hs:rst c 65 { s with Inputs:=s.Inputs.set i true } with
   | none=>
    dsimp only;refine ⟨?_,?_⟩
    ·obtain ⟨z,hz⟩:=Ji (c:=c) (held:=held) om_ (show (21:Int)≠0 by omega) z0 n (i + 1) om_ (by
      have:held.length - (i + 1)=l.length:=by rw [← hd1,G6]
      omega)
     exact ⟨_,_,hz⟩
    ·rw [show ((21:Int) == 0)=false by rfl];cases n with
     | zero=>omega
     | succ n=>
      unfold Cc;dsimp only;rw [HH,cf_];exact ⟨_,_,rfl⟩
   | some t=>
    dsimp only;rw [show ((0:Int) == 0)=true by rfl];obtain ⟨f1,f2,f3⟩:=Vb (Qm hf ha) hs;refine Qj hc hhl l (i + 1) n t hd1 om_ f1 f3 (λj h1 h2=>?_);rw [f2];dsimp only;rw [FA om_];exact hI j om_ h2
def Ff (c:Aa) (held:List Bool):Ac×Int:=match rst c 65 (Ar c (ini c)) with
 | none=>(z0,21)
 | some s=>match bgs c held 0 s with
  | none=>(z0,21)
  | some t=>(t,0)
theorem Qk {c:Aa} (hw:Fw c) (hs16:c.Signals.length<=16\/64 < c.Signals.length) (held:List Bool) :
  (∃ e,e≠0/\m57 FF c held=some (z0,e)/\m64 FF c held=some (z0,e)/\(Rc c->held.length≠c.Inputs.length))\/(Rc c/\held.length=c.Inputs.length/\m57 FF c held=some (Ff c held)/\m64 FF c held=some (Ff c held)/\((Ff c held).2=0->Fit c (Ff c held).1/\Qt c (Ff c held).1)):=by
 obtain ⟨e,h1,h2,h3⟩:=CH hw hs16;unfold m57 m64 m103;rw [h1,h2,ob_,ob_];by_cases he:e=0
 ·subst he;have hc:Rc c:=⟨h3 rfl,hw,h1,h2⟩;have hb:=hc.rt.bd;have hi:=hb.i;rw [zf_,cf_,cf_];by_cases hl:held.length=c.Inputs.length
  ·right;refine ⟨hc,hl,?_⟩;rw [show ((held.length:Int) != (c.Inputs.length:Int))=false by simp;omega,cf_,cf_,ob_,zf_,cf_];unfold m104 Ff;have hf:=En (Qd hc.rt);have h71:=BM hc;have h156:=Ti hc.rt hf;rw [Zh hc.rt,ob_];cases hr:rst c 65 (Ar c (ini c)) with
   | none=>
    rw [hr] at h71 h156;obtain ⟨a,l,h156⟩:=h156;rw [h71,h156,ob_,ob_];dsimp only;obtain ⟨z,hz⟩:=Ji (c:=c) (held:=held) om_ (show (21:Int)≠0 by omega) z0 FF 0 om_ uF;rw [n0] at hz;rw [hz,ob_];have:Cc FF c held FF (false,(0:Int),a)=some (false,0,a):=by
     show Cc FF c held (99999 + 1) _=_;unfold Cc;dsimp only;rw [HH,cf_]
    rw [this];exact ⟨rfl,rfl,λh=>by cases h⟩
   | some s=>
    rw [hr] at h71 h156;obtain ⟨l1,h71,_⟩:=h71;obtain ⟨l2,h156,_⟩:=h156;obtain ⟨f1,f2,f3⟩:=Vb hf hr;rw [h71,h156,ob_,ob_];dsimp only;have hbs:=Qj hc hl held 0 FF s smp_ uF f1 f3 (λj _ hj=>by
     rw [f2];show (List.replicate c.Inputs.length false)[j]?=some false;rw [G8,if_pos hj])
    rw [n0] at hbs;cases hg:bgs c held 0 s with
    | none=>
     rw [hg] at hbs;obtain ⟨⟨z,t,a1⟩,⟨z',t',a2⟩⟩:=hbs;rw [a1,a2];exact ⟨rfl,rfl,λh=>by cases h⟩
    | some t=>
     rw [hg] at hbs;obtain ⟨⟨z,a1⟩,⟨z',a2⟩,a3,a4⟩:=hbs;rw [a1,a2];exact ⟨rfl,rfl,λ_=>⟨a3,a4⟩⟩
  ·left;rw [show ((held.length:Int) != (c.Inputs.length:Int))=true by simp;omega,ct_,ct_];exact ⟨8,by omega,rfl,rfl,λ_=>hl⟩
 ·left;rw [show (e != 0)=true by simpa using he,ct_,ct_];refine ⟨e,he,rfl,?_,λhc=>absurd (Option.some.inj (h1.symm.trans hc.ck)) he⟩;rw [ob_,show (e != 0)=true by simpa using he,ct_]
end Go.Pn
namespace Go.Pn
open Go
theorem forG {S σ R:Type} {L:Nat->S->R} {mk:Nat->σ->S} {N:Nat} {I:Nat->σ->Prop} {E:σ->R}
  (h:∀ (n i:Nat) s,i < N->I i s->∃ s',I (i + 1) s'/\L (n + 1) (mk i s)=L n (mk (i + 1) s')) (h':∀ (n:Nat) s,I N s->L (n + 1) (mk N s)=E s) :
  ∀ (n i:Nat) s,i<=N->N - i < n->I i s->∃ s',I N s'/\L n (mk i s)=E s'
 | 0,i,_,_,h,_=>by omega
 | n + 1,i,s,h1,h2,hI=>by
  by_cases hi:i < N
  ·obtain ⟨s',h3,h4⟩:=h n i s hi hI;rw [h4];exact forG h h' n (i + 1) s' om_ om_ h3
  ·obtain rfl:i=N:=by omega
   exact ⟨s,hI,h' n s hI⟩
theorem Kl {x:Ae} {l:List Ae} (h:l.length<=100000):Dm x (l,0)=some (true,(l ++ [x],0)):=by
 unfold Dm;dsimp only;rw [Aw so_];rfl
theorem Yy {s:Ac} (h:Smst s 1000):m178 FF s=some (Jb s):=by
 have h1:=h.e;have h2:=h.t;unfold m178 m179;obtain ⟨v,hv,hl⟩:=forG (L:=Gp Dm s) (mk:=λi (v:List Ae)=>((i:Int),(v,0))) (N:=s.Ends.length) (I:=λi v=>v=(List.range i).filterMap (Qn s)) (E:=λv=>some (.brk ((s.Ends.length:Int),(v,0)))) (λn i v hi hI=>by
  subst hI;refine ⟨_,rfl,?_⟩;have hle:=Bo (g:=Qn s) (n:=i);have hg:s.Ends.getD i 0=s.Ends[i]:=by rw [DQ,gE_ hi];rfl
  rw [Gp];dsimp only;rw [Aj,dt_ hi,ct_,Ai,gE_ hi,ob_,An om_,Ev];have hp:Qn s i=if s.Ends[i]=1\/s.Ends[i]=3 then some ⟨0,(i:Int),false⟩ else none:=by unfold Qn;rw [hg]
  rw [hp];by_cases a1:s.Ends[i]=1\/s.Ends[i]=3
  ·rw [show ((s.Ends[i] == 1) || (s.Ends[i] == 3))=true by simpa using a1,if_pos a1,ct_,Kl om_];rfl
  ·rw [show ((s.Ends[i] == 1) || (s.Ends[i] == 3))=false by simpa using a1,if_neg a1,cf_,cf_,EF]) (λn v _=>by
  rw [Gp];dsimp only;rw [Aj,df_ om_,cf_]) FF 0 [] om_ uF rfl
 subst hv;try dsimp only at hl
 rw [n0] at hl;rw [hl,ob_];have hle1:=Bo (g:=Qn s) (n:=s.Ends.length);obtain ⟨v,hv,hl⟩:=forG (L:=Gn Dm s) (mk:=λi (v:List Ae)=>((i:Int),(v,0))) (N:=s.Timers.length) (I:=λi v=>v=(List.range s.Ends.length).filterMap (Qn s) ++ (List.range i).filterMap (Xa s)) (E:=λv=>some (.brk ((s.Timers.length:Int),(v,0)))) (λn i v hi hI=>by
  subst hI;refine ⟨_,rfl,?_⟩;have hle:=Bo (g:=Xa s) (n:=i);have hg:s.Timers.getD i 0=s.Timers[i]:=by rw [DQ,gE_ hi];rfl
  rw [Gn];dsimp only;rw [Aj,dt_ hi,ct_,Ai,gE_ hi,ob_,An om_,Ev];have hp:Xa s i=if s.Timers[i]=1 then some ⟨1,(i:Int),false⟩ else none:=by unfold Xa;rw [hg]
  rw [hp];by_cases a1:s.Timers[i]=1
  ·rw [show (s.Timers[i] == 1)=true by simpa using a1,if_pos a1,ct_,Kl (by rw [DB];omega),← D2];rfl
  ·rw [show (s.Timers[i] == 1)=false by simpa using a1,if_neg a1,cf_,cf_,EF]) (λn v _=>by
  rw [Gn];dsimp only;rw [Aj,df_ om_,cf_]) FF 0 ((List.range s.Ends.length).filterMap (Qn s)) om_ uF smp_
 subst hv;try dsimp only at hl
 rw [n0] at hl;dsimp only;rw [hl];rfl
theorem BK {c:Aa} {s:Ac} (hc:Rc c) (hf:Fit c s) (hq:Qt c s):m99 FF c s=some (0,Jb s):=by
 unfold m99 m128 m127;rw [Tk hc,(Vh hc.rt.bd).2 ⟨hf,hq⟩,ob_,zf_,cf_,ob_,Yy (hf.sm hc.rt.bd)];rfl
def nb (l:List Int):List UInt8:=l.flatMap λn=>[UInt8.ofNat (48 + n.toNat),32]
def fb (l:List Bool):List UInt8:=l.map λv=>if v=true then 116 else 102
theorem AW (a b:ByteArray):(a ++ b).data.toList=a.data.toList ++ b.data.toList:=by
 rw [ByteArray.data_append,GU]
theorem ba_push (a:ByteArray) (b:UInt8):(a.push b).data.toList=a.data.toList ++ [b]:=by
 rw [ByteArray.data_push,Array.toList_push]
theorem m94_tab:((List.range 10).all λn=>decide (m94 0 (n:Int)=some (⟨#[UInt8.ofNat (48 + n)]⟩:ByteArray)))=true:=by kernel_rfl
theorem BL {n:Int} (h0:0<=n) (h:n < 10):m94 FF n=some (⟨#[UInt8.ofNat (48 + n.toNat)]⟩:ByteArray):=by
 have:=of_decide_eq_true (DR.1 m94_tab n.toNat (DZ.2 om_));rw [show ((n.toNat:Nat):Int)=n by omega] at this;exact this
theorem nb_len {l:List Int}:(nb l).length=2 * l.length:=by
 induction l with
 | nil=>rfl
 | cons a l ih=>unfold nb at ih ⊢;rw [GM,DB,ih];simp;omega
theorem Vj {l:List Int} (hl:l.length<=1000) (h:∀ a∈l,0<=a/\a < 10):∃ r,m92 FF l=some r/\r.data.toList=nb l:=by
 unfold m92;obtain ⟨v,hv,hh⟩:=Ok (L:=Ns FF l) (mk:=λi (v:ByteArray)=>((i:Int),v)) (N:=l.length) (I:=λi v=>v.data.toList=nb (l.take i)) (λn i v hi hI=>by
  have hb:=h l[i] (DK hi);have hsz:v.size=2 * i:=by rw [Ax,hI,nb_len,FJ];omega
  have hxs:(⟨#[UInt8.ofNat (48 + (l[i]).toNat)]⟩:ByteArray).size=1:=rfl;rw [Ns];dsimp only;rw [Aj,dt_ hi,ct_,Ai,gE_ hi,ob_,BL hb.1 hb.2,ob_];unfold m93 m95;rw [if_pos om_,ob_];have hs2:(v ++ (⟨#[UInt8.ofNat (48 + (l[i]).toNat)]⟩:ByteArray)).size=2 * i + 1:=by
   rw [Ax,AW,DB,← Ax,hsz];rfl
  rw [if_pos om_,ob_,An om_];refine ⟨_,?_,rfl⟩;rw [ba_push,AW,hI,FU,gE_ hi];unfold nb;rw [List.flatMap_append];simp) (λn v _=>by
  rw [Ns];dsimp only;rw [Aj,df_ om_,cf_]) FF 0 ByteArray.empty om_ uF rfl
 try dsimp only at hh
 rw [n0] at hh;rw [hh];rw [EN om_] at hv;exact ⟨v,rfl,hv⟩
theorem Pi {l:List Bool} (hl:l.length<=1000):∃ r,m97 FF l=some r/\r.data.toList=fb l:=by
 unfold m97;obtain ⟨v,hv,hh⟩:=Ok (L:=Nr FF l) (mk:=λi (v:ByteArray)=>((i:Int),v)) (N:=l.length) (I:=λi v=>v.data.toList=fb (l.take i)) (λn i v hi hI=>by
  have hsz:v.size=i:=by rw [Ax,hI];unfold fb;rw [FT,FJ];omega
  have key:∃ r:ByteArray,((m98 FF l[i]).bind λx5=>ssl x5 0 (1:Int))=some r/\r.data.toList=[if l[i]=true then 116 else 102]:=by
   cases l[i]
   ·exact ⟨⟨#[102]⟩,by kernel_rfl,rfl⟩
   ·exact ⟨⟨#[116]⟩,by kernel_rfl,rfl⟩
  obtain ⟨r,hr,hr2⟩:=key;obtain ⟨x5,h5,h6⟩:=EY.1 hr;have hrs:r.size=1:=by rw [Ax,hr2];rfl
  rw [Nr];dsimp only;rw [Aj,dt_ hi,ct_,Ai,gE_ hi,ob_,h5,ob_,h6,ob_];unfold m93;rw [if_pos om_,ob_,An om_];refine ⟨_,?_,rfl⟩;rw [AW,hI,hr2,FU,gE_ hi];unfold fb;rw [List.map_append];simp) (λn v _=>by
  rw [Nr];dsimp only;rw [Aj,df_ om_,cf_]) FF 0 ByteArray.empty om_ uF rfl
 try dsimp only at hh
 rw [n0] at hh;rw [hh];rw [EN om_] at hv;exact ⟨v,rfl,hv⟩
theorem Xp:∀ {l l':List Int},(∀ a∈l,0<=a/\a < 10)->(∀ a∈l',0<=a/\a < 10)->nb l=nb l'->l=l'
 | [],[],_,_,_=>rfl
 | [],b :: l',_,_,h=>by unfold nb at h;simp at h
 | a :: l,[],_,_,h=>by unfold nb at h;simp at h
 | a :: l,b :: l',h1,h2,h=>by
  unfold nb at h;rw [GM,GM] at h;have h:=List.cons.inj h;have ha:=h1 a smp_;have hb:=h2 b smp_;have he:a=b:=by
   have:=congrArg UInt8.toNat h.1;rw [UInt8.toNat_ofNat',UInt8.toNat_ofNat'] at this;omega
  have ht:=(List.cons.inj h.2).2;rw [he,Xp (λx hx=>h1 x (by simp [hx])) (λx hx=>h2 x (by simp [hx])) ht]
theorem Wg:∀ {l l':List Bool},fb l=fb l'->l=l'
 | [],[],_=>rfl
 | [],b :: l',h=>by unfold fb at h;simp at h
 | a :: l,[],h=>by unfold fb at h;simp at h
 | a :: l,b :: l',h=>by
  unfold fb at h;rw [DO,DO] at h;have h:=List.cons.inj h;have he:a=b:=by
   cases a <;> cases b <;> first | rfl | (have:=h.1; revert this; decide)
  rw [he,Wg h.2]
theorem Nc {a b:Key}:Bl a b=true↔a=b:=by
 obtain ⟨⟨⟨a1⟩⟩,⟨⟨a2⟩⟩,⟨⟨a3⟩⟩,⟨⟨a4⟩⟩,⟨⟨a5⟩⟩⟩:=a;obtain ⟨⟨⟨b1⟩⟩,⟨⟨b2⟩⟩,⟨⟨b3⟩⟩,⟨⟨b4⟩⟩,⟨⟨b5⟩⟩⟩:=b;simp [Bl]
theorem Ku {c:Aa} {s:Ac} (hb:Bd_ c) (h:Fit c s):∃ k,m58 FF s=some k/\k.ends.data.toList=nb s.Ends/\k.valves.data.toList=fb s.Valves/\k.inputs.data.toList=fb s.Inputs/\k.values.data.toList=fb s.Values/\k.timers.data.toList=nb s.Timers:=by
 have hs:=h.sm hb;obtain ⟨k1,e1,d1⟩:=Vj hs.e (λa ha=>by have:=h.ee a ha;omega);obtain ⟨k2,e2,d2⟩:=Pi hs.v;obtain ⟨k3,e3,d3⟩:=Pi hs.i;obtain ⟨k4,e4,d4⟩:=Pi hs.x;obtain ⟨k5,e5,d5⟩:=Vj hs.t (λa ha=>by have:=h.tt a ha;omega);unfold m58;rw [e1,e2,e3,e4,e5];exact ⟨_,rfl,d1,d2,d3,d4,d5⟩
theorem key_inj {c:Aa} {s t:Ac} (hb:Bd_ c) (hs:Fit c s) (ht:Fit c t) {k:Key} (h1:m58 FF s=some k) (h2:m58 FF t=some k):s=t:=by
 obtain ⟨a,ha,a1,a2,a3,a4,a5⟩:=Ku hb hs;obtain ⟨b,hb',b1,b2,b3,b4,b5⟩:=Ku hb ht;rw [h1] at ha;rw [h2] at hb';obtain rfl:=Option.some.inj ha;obtain rfl:=Option.some.inj hb';have e1:=Xp (λa ha=>by have:=hs.ee a ha;omega) (λa ha=>by have:=ht.ee a ha;omega) (a1.symm.trans b1);have e5:=Xp (λa ha=>by have:=hs.tt a ha;omega) (λa ha=>by have:=ht.tt a ha;omega) (a5.symm.trans b5);have e2:=Wg (a2.symm.trans b2);have e3:=Wg (a3.symm.trans b3);have e4:=Wg (a4.symm.trans b4);cases s;cases t
 simp_all
theorem BJ {κ ν:Type} [DecidableEq κ] {eqb:κ->κ->Bool} (he:∀ a b,eqb a b=true↔a=b) {m:List (κ×ν)} {k j:κ} {y:ν}:mat eqb (Dx eqb m k y) j=if eqb j k=true then some y else mat eqb m j:=by
 induction m with
 | nil=>
  show mat eqb [(k,y)] j=_;rw [Be]
 | cons p m ih=>
  obtain ⟨k',z⟩:=p;rw [Le,Be];by_cases h:eqb k k'=true
  ·rw [if_pos h,Be,← (he _ _).1 h];by_cases h2:eqb j k=true
   ·rw [if_pos h2,if_pos h2]
   ·rw [if_neg h2,if_neg h2,if_neg h2]
  ·rw [if_neg h,Be,ih];by_cases h2:eqb j k'=true
   ·have h3:¬ eqb j k=true:=λe=>h (by rw [← (he _ _).1 e];exact h2);rw [if_pos h2,if_neg h3,if_pos h2]
   ·rw [if_neg h2,if_neg h2]
theorem Wr {m:List (Key×Int)} {k j:Key} {y:Int}:mat Bl (Dx Bl m k y) j=if Bl j k=true then some y else mat Bl m j:=by
 classical
 exact BJ (λa b=>Nc)
def Kn (c:Aa) (S:List Ac) (m:List (Key×Int)):Prop:=∀ s,Fit c s->∀ k,m58 FF s=some k->mat Bl m k=(S.findIdx? λx=>sst s x).map λ(j:Nat)=>(j:Int)
theorem Kn.nil (c:Aa):Kn c [] []:=λs _ k _=>rfl
theorem Kn.put {c:Aa} {S:List Ac} {m:List (Key×Int)} {t:Ac} {k:Key} (hb:Bd_ c) (h:Kn c S m) (ht:Fit c t) (hk:m58 FF t=some k) (hn:S.findIdx? (λx=>sst t x)=none):Kn c (S ++ [t]) (Dx Bl m k (S.length:Int)):=by
 intro s hs j hj;rw [Wr,List.findIdx?_append];by_cases e:s=t
 ·subst e;rw [hk] at hj;obtain rfl:=Option.some.inj hj;rw [if_pos (Nc.2 rfl),hn];simp [Ut]
 ·have hne:¬ Bl j k=true:=λe2=>by
   have:=Nc.1 e2;subst this;exact e (key_inj hb hs ht hj hk)
  have hst:sst s t=false:=by
   cases hx:sst s t with
   | false=>rfl
   | true=>exact absurd (Fu.1 hx) e
  rw [if_neg hne,h s hs j hj];cases S.findIdx? (λx=>sst s x) with
  | some q=>rfl
  | none=>simp [hst]
def Ja (c:Aa) (most:Nat) (s:Ac):List Ae->List Ac->List Int->Int ⊕ (List Ac×List Int)
 | [],S,mv=>.inr (S,mv)
 | x :: l,S,mv=>if (aft c s x).2=0 then (if plc S (aft c s x).1 < 0 then (if S.length=most then .inl 12 else Ja c most s l (S ++ [(aft c s x).1]) (mv ++ [(S.length:Int)])) else Ja c most s l S (mv ++ [plc S (aft c s x).1])) else .inl (aft c s x).2
def Ov (c:Aa) (most:Nat):Nat->Nat->List Ac->List (List Int)->Int ⊕ Space
 | 0,_,_,_=>.inl 99
 | n + 1,i,S,M=>match S[i]? with
  | none=>.inr ⟨S,M⟩
  | some s=>match Ja c most s (Jb s) S [] with
   | .inl e=>.inl e
   | .inr r=>Ov c most n (i + 1) r.1 (M ++ [r.2])
def Al (c:Aa) (S:List Ac):Prop:=∀ s∈S,Fit c s/\Qt c s
theorem AY {c:Aa} {s:Ac} {x:Ae} (hf:Fit c s) (h:(aft c s x).2=0):Fit c (aft c s x).1/\Qt c (aft c s x).1:=by
 unfold aft at h ⊢;by_cases hk:x.Kind < 0\/3<=x.Kind
 ·rw [if_pos hk] at h;cases h
 ·rw [if_neg hk] at h ⊢;cases ha:act s x with
  | none=>rw [ha] at h;cases h
  | some s'=>
   rw [ha] at h;dsimp only at h ⊢;cases ht:rst c 65 s' with
   | none=>rw [ht] at h;cases h
   | some t=>
    have:=Vb (Qm hf ha) ht;exact ⟨this.1,this.2.2⟩
theorem Jc {c:Aa} {most:Nat} {s:Ac} (hf:Fit c s):∀ (l:List Ae) (S:List Ac) (mv:List Int) {r:List Ac×List Int},Al c S->S.length<=most->Ja c most s l S mv=.inr r ->
  Al c r.1/\r.1.length<=most/\r.2.length=mv.length + l.length/\∃ X,r.1=S ++ X
 | [],S,mv,r,h1,h2,h=>by
  unfold Ja at h;obtain rfl:=Sum.inr.inj h;exact ⟨h1,h2,rfl,[],by simp⟩
 | x :: l,S,mv,r,h1,h2,h=>by
  unfold Ja at h;split at h
  ·rename_i h0;split at h
   ·split at h
    ·cases h
    ·obtain ⟨a1,a2,a3,X,a4⟩:=Jc hf l _ _ (λt ht=>by
      rcases DS.1 ht with ht | ht
      ·exact h1 t ht
      ·obtain rfl:t=_:=by simpa using ht
       exact AY hf h0) so_ h
     refine ⟨a1,a2,by rw [a3];simp;omega,(aft c s x).1 :: X,by rw [a4];simp⟩
   ·obtain ⟨a1,a2,a3,X,a4⟩:=Jc hf l _ _ h1 h2 h;exact ⟨a1,a2,by rw [a3];simp;omega,X,a4⟩
  ·cases h
theorem Rb {S:List Ac} {t:Ac} (h:¬ plc S t < 0):∃ j,j < S.length/\plc S t=(j:Int)/\S.findIdx? (λx=>sst t x)=some j:=by
 unfold plc at h ⊢;cases hf:S.findIdx? (λx=>sst t x) with
 | none=>rw [hf] at h;simp at h
 | some j=>exact ⟨j,(D6.1 hf).1,rfl,rfl⟩
theorem Xm {S:List Ac} {t:Ac} (h:plc S t < 0):S.findIdx? (λx=>sst t x)=none:=by
 unfold plc at h;cases hf:S.findIdx? (λx=>sst t x) with
 | none=>rfl
 | some j=>rw [hf] at h;simp at h;omega
abbrev zsp:Space:=⟨[],[]⟩
theorem Gb {c:Aa} (hc:Rt c) {most:Nat} (hmo:most<=16384) {s:Ac} (hf:Fit c s) (i0:Nat) (z6:Int×List Ac×List (List Int)) (hz:z6.1=i0) (x9:Ac) (l:List Ae) (hl:l.length<=2000) :
  ∀ (k n j:Nat) (S:List Ac) (mv:List Int),j + k=l.length->k < n->Al c S->S.length<=most->S[i0]?=some s->mv.length<=j ->
   match Ja c most s (l.drop j) S mv with
   | .inl e=>Ke FF c (most:Int) z6 x9 l n ((j:Int),S,mv)=some (.ret (zsp,e))
   | .inr r=>Ke FF c (most:Int) z6 x9 l n ((j:Int),S,mv)=some (.brk ((l.length:Int),r.1,r.2))
 | _,0,_,_,_,_,h,_,_,_,_=>by omega
 | 0,n + 1,j,S,mv,h1,_,_,_,_,_=>by
  obtain rfl:j=l.length:=by omega
  rw [FZ];unfold Ja Ke;dsimp only;rw [Aj,df_ om_,cf_]
 | k + 1,n + 1,j,S,mv,h1,h2,hA,hS,hi,hm=>by
  have hb:=hc.bd;have hj:j < l.length:=by omega
  rw [DH hj];unfold Ja Ke;dsimp only;obtain ⟨q,e1⟩:=Vn (x:=l[j]) hc hf;rw [Aj,dt_ hj,ct_,hz,Ai,hi,ob_,Ai,gE_ hj,ob_,e1,ob_];dsimp only;by_cases h0:(aft c s l[j]).2=0
  ·have hfa:=AY hf h0;rw [if_pos h0,h0,zf_,cf_,BT (n:=1000) (λx hx=>(hA x hx).1.sm hb) uF om_ uF om_,ob_,An om_];by_cases hp:plc S (aft c s l[j]).1 < 0
   ·rw [if_pos hp,dt_ hp,ct_];by_cases hM:S.length=most
    ·rw [if_pos hM,show ((S.length:Int) == (most:Int))=true by rw [Du];simpa using hM,ct_]
    ·rw [if_neg hM,show ((S.length:Int) == (most:Int))=false by rw [Du];simpa using hM,cf_,Aw so_,ob_,Aw so_,ob_];exact Gb hc hmo hf i0 z6 hz x9 l hl k n (j + 1) _ _ om_ om_ (λt ht=>by
      rcases DS.1 ht with ht | ht
      ·exact hA t ht
      ·obtain rfl:t=_:=by simpa using ht
       exact hfa) so_ (by rw [DL (DG.1 hi).1];exact hi) so_
   ·rw [if_neg hp,df_ hp,cf_,Aw so_,ob_];exact Gb hc hmo hf i0 z6 hz x9 l hl k n (j + 1) _ _ om_ om_ hA hS hi so_
  ·rw [if_neg h0,show ((aft c s l[j]).2 != 0)=true by simpa using h0,ct_]
theorem Df {c:Aa} (hc:Rt c) {most:Nat} (hmo:most<=16384):∀ (n i:Nat) (S:List Ac) (M:List (List Int)),Al c S->S.length<=most->i<=S.length->most < n + i->M.length=i ->
  match Ov c most n i S M with
  | .inl e=>Nz FF c (most:Int) n ((i:Int),S,M)=some (.ret (zsp,e))
  | .inr sp=>∃ z,Nz FF c (most:Int) n ((i:Int),S,M)=some (.brk (z,sp.States,sp.Moves))
 | 0,i,S,M,_,h1,h2,h3,_=>by omega
 | n + 1,i,S,M,hA,h1,h2,h3,hM=>by
  have hb:=hc.bd;unfold Ov Nz;dsimp only;by_cases hi:i < S.length
  ·have hs:S[i]?=some S[i]:=gE_ hi;obtain ⟨hf,hq⟩:=hA S[i] (DK hi);have hpl:=Kt (hf.sm hb);rw [hs,Aj,dt_ hi,ct_,Ai,hs,ob_,Vo (hf.sm hb),ob_];have h:=Gb hc hmo hf i ((i:Int),S,M) rfl S[i] (Jb S[i]) hpl (Jb S[i]).length FF 0 S [] om_ uF hA h1 hs smp_;rw [n0,DM] at h;dsimp only;cases hx:Ja c most S[i] (Jb S[i]) S [] with
   | inl e=>rw [hx] at h;rw [h];rfl
   | inr r=>
    rw [hx] at h;obtain ⟨a1,a2,a3,X,a4⟩:=Jc hf _ _ _ hA h1 hx;rw [h,ob_];dsimp only;rw [Aw so_,ob_,An om_];exact Df hc hmo n (i + 1) r.1 _ a1 a2 (by rw [a4];simp;omega) om_ (by simp [hM])
  ·rw [EC om_,Aj,df_ hi,cf_];exact ⟨_,rfl⟩
theorem Ws {c:Aa} (hb:Bd_ c) {t:Ac} (ht:Fit c t) {S:List Ac} {m:List (Key×Int)} {mv:List Int} (hS:S.length<=16384) (hmv:mv.length<=10000) (hK:Kn c S m) (v3:List (List Int)) :
  if plc S t < 0 then (if S.length=16384 then Ue FF t m S v3 mv=some (12,m,S,mv) else ∃ m',Ue FF t m S v3 mv=some (0,m',S ++ [t],mv ++ [(S.length:Int)])/\Kn c (S ++ [t]) m') else Ue FF t m S v3 mv=some (0,m,S,mv ++ [plc S t]):=by
 obtain ⟨k,hk,_⟩:=Ku hb ht;have hm:=hK t ht k hk;unfold Ue;rw [hk,ob_,hm];by_cases hp:plc S t < 0
 ·have hn:=Xm hp;rw [if_pos hp,hn];simp only [E5,Option.isSome_none,GE,ct_];by_cases hM:S.length=16384
  ·rw [if_pos hM,show ((S.length:Int) == 16384)=true by simp;omega,ct_]
  ·rw [if_neg hM,show ((S.length:Int) == 16384)=false by simp;omega,cf_,Aw so_,ob_,Aw so_,ob_];exact ⟨_,rfl,hK.put hb ht hk hn⟩
 ·obtain ⟨j,hj,hpj,hfj⟩:=Rb hp;rw [if_neg hp,hfj];simp only [DY,Option.isSome_some,FY,cf_,GF];rw [Aw so_,ob_,hpj]
theorem Dc {c:Aa} (hc:Rc c) {s:Ac} (hf:Fit c s) (hq:Qt c s) (v4:List (List Int)) (x1:Int×List Ae) (hl:x1.2.length<=2000) :
  ∀ (k n j:Nat) (S:List Ac) (mv:List Int) (m:List (Key×Int)),j + k=x1.2.length->k < n->Al c S->S.length<=16384->mv.length<=j->Kn c S m ->
   match Ja c 16384 s (x1.2.drop j) S mv with
   | .inl e=>∃ q,De FF c s v4 x1 n ((j:Int),m,S,mv)=some (.ret (e,q))/\e≠0
   | .inr r=>∃ z m',De FF c s v4 x1 n ((j:Int),m,S,mv)=some (.brk (z,m',r.1,r.2))/\Kn c r.1 m'
 | _,0,_,_,_,_,_,h,_,_,_,_=>by omega
 | 0,n + 1,j,S,mv,m,h1,_,_,_,_,hK=>by
  obtain rfl:j=x1.2.length:=by omega
  rw [FZ];unfold Ja De;dsimp only;rw [Aj,df_ om_,cf_];exact ⟨_,m,rfl,hK⟩
 | k + 1,n + 1,j,S,mv,m,h1,h2,hA,hS,hm,hK=>by
  have hb:=hc.rt.bd;have hj:j < x1.2.length:=by omega
  rw [DH hj];unfold Ja De;dsimp only;obtain ⟨q,e1⟩:=Vk (x:=x1.2[j]) hc hf hq;rw [Aj,dt_ hj,ct_,Ai,gE_ hj,ob_,e1,ob_];dsimp only;by_cases h0:(aft c s x1.2[j]).2=0
  ·have hfa:=AY hf h0;rw [if_pos h0,h0,zf_,cf_];have h90:=Ws hb hfa.1 hS (mv:=mv) om_ hK v4;by_cases hp:plc S (aft c s x1.2[j]).1 < 0
   ·rw [if_pos hp] at h90 ⊢;by_cases hM:S.length=16384
    ·rw [if_pos hM] at h90 ⊢;rw [h90];exact ⟨_,rfl,by omega⟩
    ·rw [if_neg hM] at h90 ⊢;obtain ⟨m',h90,hK'⟩:=h90;rw [h90,ob_];dsimp only;rw [zf_,cf_,An om_];exact Dc hc hf hq v4 x1 hl k n (j + 1) _ _ m' om_ om_ (λt ht=>by
      rcases DS.1 ht with ht | ht
      ·exact hA t ht
      ·obtain rfl:t=_:=by simpa using ht
       exact hfa) so_ so_ hK'
   ·rw [if_neg hp] at h90 ⊢;rw [h90,ob_];dsimp only;rw [zf_,cf_,An om_];exact Dc hc hf hq v4 x1 hl k n (j + 1) _ _ m om_ om_ hA hS so_ hK
  ·rw [if_neg h0,show ((aft c s x1.2[j]).2 != 0)=true by simpa using h0,ct_];exact ⟨_,rfl,h0⟩
theorem Lq {c:Aa} (hc:Rc c):∀ (n i:Nat) (S:List Ac) (M:List (List Int)) (m:List (Key×Int)),Al c S->S.length<=16384->i<=S.length->16384 < n + i->M.length=i->Kn c S m ->
  match Ov c 16384 n i S M with
  | .inl e=>Ob FF c n ((i:Int),S,M,m)=some (.ret (zsp,e))
  | .inr sp=>∃ z m',Ob FF c n ((i:Int),S,M,m)=some (.brk (z,sp.States,sp.Moves,m'))
 | 0,i,S,M,m,_,h1,h2,h3,_,_=>by omega
 | n + 1,i,S,M,m,hA,h1,h2,h3,hM,hK=>by
  have hb:=hc.rt.bd;unfold Ov Ob;dsimp only;by_cases hi:i < S.length
  ·have hs:S[i]?=some S[i]:=gE_ hi;obtain ⟨hf,hq⟩:=hA S[i] (DK hi);have hpl:=Kt (hf.sm hb);have h:=Dc hc hf hq M (0,Jb S[i]) hpl (Jb S[i]).length FF 0 S [] m (by dsimp only;omega) uF hA h1 smp_ hK;rw [n0,DM] at h;rw [hs,Aj,dt_ hi,ct_,Ai,hs,ob_];unfold BW;rw [BK hc hf hq,ob_];dsimp only at h ⊢;rw [zf_,cf_];cases hx:Ja c 16384 S[i] (Jb S[i]) S [] with
   | inl e=>
    rw [hx] at h;obtain ⟨q,h,he⟩:=h;rw [h,ob_,ob_];dsimp only;rw [show (e != 0)=true by simpa using he,ct_]
   | inr r=>
    rw [hx] at h;obtain ⟨a1,a2,a3,X,a4⟩:=Jc hf _ _ _ hA h1 hx;obtain ⟨z,m',h,hK'⟩:=h;rw [h,ob_,ob_];dsimp only;rw [zf_,cf_,Aw so_,ob_,An om_];exact Lq hc n (i + 1) r.1 _ m' a1 a2 (by rw [a4];simp;omega) om_ (by simp [hM]) hK'
  ·rw [EC om_,Aj,df_ hi,cf_];exact ⟨_,_,rfl⟩
theorem La {c:Aa} {s:Ac} (hf:Fit c s):∀ (l:List Ae) (S:List Ac) (mv:List Int),S.length<=120->Ja c 120 s l S mv≠.inl 12->Ja c 16384 s l S mv=Ja c 120 s l S mv
 | [],S,mv,_,_=>rfl
 | x :: l,S,mv,h1,h=>by
  unfold Ja at h ⊢;by_cases h0:(aft c s x).2=0
  ·rw [if_pos h0] at h;rw [if_pos h0,if_pos h0];by_cases hp:plc S (aft c s x).1 < 0
   ·rw [if_pos hp] at h;rw [if_pos hp,if_pos hp];by_cases hM:S.length=120
    ·rw [if_pos hM] at h;exact absurd rfl h
    ·rw [if_neg hM] at h;rw [if_neg hM,if_neg om_];exact La hf l _ _ so_ h
   ·rw [if_neg hp] at h;rw [if_neg hp,if_neg hp];exact La hf l _ _ h1 h
  ·rw [if_neg h0,if_neg h0]
theorem Qp {c:Aa}:∀ (n i:Nat) (S:List Ac) (M:List (List Int)),Al c S->S.length<=120->Ov c 120 n i S M≠.inl 12->Ov c 16384 n i S M=Ov c 120 n i S M
 | 0,_,_,_,_,_,_=>rfl
 | n + 1,i,S,M,hA,h1,h=>by
  unfold Ov at h ⊢;cases hs:S[i]? with
  | none=>rfl
  | some s=>
   rw [hs] at h;try dsimp only at h ⊢
   have hf:=(hA s (DP hs)).1;have hne:Ja c 120 s (Jb s) S []≠.inl 12:=λe=>by rw [e] at h;exact h rfl
   rw [La hf _ _ _ h1 hne];cases hx:Ja c 120 s (Jb s) S [] with
   | inl e=>rfl
   | inr r=>
    rw [hx] at h;obtain ⟨a1,a2,a3,X,a4⟩:=Jc hf _ _ _ hA h1 hx;exact Qp n (i + 1) r.1 _ a1 a2 h
theorem Xc {c:Aa} {most:Nat}:∀ (n i:Nat) (S:List Ac) (M:List (List Int)) {sp:Space},Al c S->S.length<=most->M.length=i->i<=S.length->(∀ l∈M,l.length<=2000)->Bd_ c->Ov c most n i S M=.inr sp ->
  Al c sp.States/\sp.States.length<=most/\sp.Moves.length=sp.States.length/\(∀ l∈sp.Moves,l.length<=2000)/\∃ X,sp.States=S ++ X
 | 0,_,_,_,_,_,_,_,_,_,_,h=>by cases h
 | n + 1,i,S,M,sp,hA,h1,hM,hi,hR,hb,h=>by
  unfold Ov at h;cases hs:S[i]? with
  | none=>
   rw [hs] at h;obtain rfl:=Sum.inr.inj h;have:=List.getElem?_eq_none_iff.1 hs;exact ⟨hA,h1,by show M.length=S.length;omega,hR,[],by simp⟩
  | some s=>
   rw [hs] at h;dsimp only at h;have hf:=(hA s (DP hs)).1;cases hx:Ja c most s (Jb s) S [] with
   | inl e=>rw [hx] at h;cases h
   | inr r=>
    rw [hx] at h;obtain ⟨a1,a2,a3,X,a4⟩:=Jc hf _ _ _ hA h1 hx;have hil:=(DG.1 hs).1;obtain ⟨b1,b2,b3,b4,Y,b5⟩:=Xc n (i + 1) r.1 _ a1 a2 (by simp [hM]) (by rw [a4];simp;omega) (λl hl=>by
     rcases DS.1 hl with hl | hl
     ·exact hR l hl
     ·obtain rfl:l=_:=by simpa using hl
      rw [a3];have:=Kt (hf.sm hb);simp;omega) hb h
    exact ⟨b1,b2,b3,b4,X ++ Y,by rw [b5,a4];simp⟩
def CD (c:Aa) (held:List Bool) (most:Nat):Int ⊕ Space:=Ov c most FF 0 [(Ff c held).1] []
theorem Pm (c:Aa) (held:List Bool):∃ b,m35 FF c held=some b/\(b=true->Fw c/\(c.Signals.length<=16\/64 < c.Signals.length)/\held.length<=200/\(Rc c->held.length=c.Inputs.length->(Ff c held).2=0->CD c held 120≠.inl 12)):=by
 unfold m35;obtain ⟨b,hb,hfw⟩:=BU c;rw [hb,ob_];cases b with
 | false=>rw [nf_,G9,ct_];exact ⟨false,rfl,by simp⟩
 | true=>
  obtain ⟨hw,hs⟩:=hfw rfl;rw [nt_,EW];by_cases hl:((held.length:Int) > 200)
  ·rw [dt_ hl,ct_];exact ⟨false,rfl,by simp⟩
  ·rw [df_ hl,cf_];unfold m36;rcases Qk hw hs held with ⟨e,he,h1,h2,h4⟩ | ⟨hc,hll,h1,h2,h3⟩
   ·rw [h2,ob_];dsimp only;rw [show (e != 0)=true by simpa using he,ct_,ob_];refine ⟨_,rfl,λ_=>⟨hw,hs,by omega,λhc hll h0=>?_⟩⟩;exact λ_=>h4 hc hll
   ·rw [h2,ob_];try dsimp only
    by_cases h0:(Ff c held).2=0
    ·obtain ⟨hf,hq⟩:=h3 h0;have hA:Al c [(Ff c held).1]:=λt ht=>by
      obtain rfl:t=_:=by simpa using ht
      exact ⟨hf,hq⟩
     have hx:=Df hc.rt (most:=120) om_ FF 0 [(Ff c held).1] [] hA smp_ om_ uF rfl;rw [n0] at hx;rw [h0,zf_,cf_];rw [show Ov c 120 FF 0 [(Ff c held).1] []=CD c held 120 from rfl] at hx;cases he:CD c held 120 with
     | inl e=>
      rw [he] at hx;rw [show (120:Int)=((120:Nat):Int) from rfl,hx];refine ⟨_,rfl,λhb=>⟨hw,hs,by omega,λ_ _ _ h12=>?_⟩⟩;obtain rfl:=Sum.inl.inj h12;simp at hb
     | inr sp=>
      rw [he] at hx;obtain ⟨z,hx⟩:=hx;rw [show (120:Int)=((120:Nat):Int) from rfl,hx];exact ⟨_,rfl,λhb=>⟨hw,hs,by omega,λ_ _ _ h12=>by cases h12⟩⟩
    ·rw [show ((Ff c held).2 != 0)=true by simpa using h0,ct_];exact ⟨_,rfl,λ_=>⟨hw,hs,by omega,λ_ _ h=>absurd h h0⟩⟩
theorem CC {c:Aa} {held:List Bool} (hb:m35 FF c held=some true):(∃ e,e≠0/\m30 FF c held=some (zsp,e)/\m44 FF c held=some (zsp,e)) \/
  (∃ sp,Rc c/\held.length=c.Inputs.length/\m30 FF c held=some (sp,0)/\m44 FF c held=some (sp,0)/\CD c held 120=.inr sp/\(Ff c held).2=0/\Fit c (Ff c held).1/\Qt c (Ff c held).1)\/(Rc c/\held.length=c.Inputs.length/\(Ff c held).2=0/\∃ e,CD c held 120=.inl e/\m30 FF c held=some (zsp,e)/\m44 FF c held=some (zsp,e)):=by
 obtain ⟨b,hb',h⟩:=Pm c held;rw [hb] at hb';obtain rfl:=Option.some.inj hb';obtain ⟨hw,hs,hl,hne⟩:=h rfl;unfold m30 m44 m36;rcases Qk hw hs held with ⟨e,he,h1,h2,h4⟩ | ⟨hc,hll,h1,h2,h3⟩
 ·left;rw [h1,h2,ob_,ob_];dsimp only;rw [show (e != 0)=true by simpa using he,ct_,ct_];exact ⟨e,he,rfl,rfl⟩
 ·rw [h1,h2,ob_,ob_];try dsimp only
  by_cases h0:(Ff c held).2=0
  ·right;obtain ⟨hf,hq⟩:=h3 h0;have hbd:=hc.rt.bd;have hA:Al c [(Ff c held).1]:=λt ht=>by
    obtain rfl:t=_:=by simpa using ht
    exact ⟨hf,hq⟩
   have hx:=Df hc.rt (most:=16384) om_ FF 0 [(Ff c held).1] [] hA smp_ om_ uF rfl;obtain ⟨k,hk,_⟩:=Ku hbd hf;have hK:Kn c [(Ff c held).1] (Dx Bl [] k (0:Int)):=(Kn.nil c).put hbd hf hk rfl;have hy:=Lq hc FF 0 [(Ff c held).1] [] (Dx Bl [] k (0:Int)) hA smp_ om_ uF rfl hK;rw [n0] at hx hy;have hm:=Qp FF 0 [(Ff c held).1] [] hA smp_ (hne hc hll h0);rw [hm,show Ov c 120 FF 0 [(Ff c held).1] []=CD c held 120 from rfl] at hx hy;rw [h0,zf_,cf_,cf_,hk,ob_,show (16384:Int)=((16384:Nat):Int) from rfl];cases he:CD c held 120 with
   | inl e=>
    right;rw [he] at hx hy;dsimp only at hx hy;rw [hx,hy];exact ⟨hc,hll,rfl,e,rfl,rfl,rfl⟩
   | inr sp=>
    left;rw [he] at hx hy;obtain ⟨z,hx⟩:=hx;obtain ⟨z',m',hy⟩:=hy;rw [hx,hy];exact ⟨sp,hc,hll,rfl,rfl,rfl,rfl,hf,hq⟩
  ·left;rw [show ((Ff c held).2 != 0)=true by simpa using h0,ct_,ct_];exact ⟨_,h0,rfl,rfl⟩
end Go.Pn
namespace Go.Pn
open Go
structure Xr (c:Aa) (s:Ac) (l:List Ae) (S:List Ac) (R:List Ac) (Y:List Int):Prop where
 app:∃ X,R=S ++ X
 len:Y.length=l.length
 ev:∀ (j:Nat) x,l[j]?=some x->(aft c s x).2=0/\∃ k:Nat,Y[j]?=some (k:Int)/\R[k]?=some (aft c s x).1
 new:∀ k,S.length<=k->k < R.length->(k:Int)∈Y
def Nd (S:List Ac):Prop:=∀ (i j:Nat) s,S[i]?=some s->S[j]?=some s->i=j
theorem Nd.put {S:List Ac} {t:Ac} (h:Nd S) (hn:S.findIdx? (λx=>sst t x)=none):Nd (S ++ [t]):=by
 rw [EG] at hn;have hno:∀ (i:Nat),S[i]?≠some t:=λi hi=>by
  have:=hn t (DP hi);rw [Ut] at this;cases this
 have hg:∀ (i:Nat) s,(S ++ [t])[i]?=some s->S[i]?=some s\/(i=S.length/\s=t):=λi s hs=>by
  rcases E4 i S.length with h1 | h1
  ·rw [DL h1] at hs;exact .inl hs
  ·rw [D1 h1] at hs;rcases HT h1 with h2 | h2
   ·subst h2;simp at hs;exact .inr ⟨rfl,hs.symm⟩
   ·rw [EC so_] at hs;cases hs
 intro i j s hi hj;rcases hg i s hi with h1 | ⟨h1,h2⟩ <;> rcases hg j s hj with h3 | ⟨h3,h4⟩
 ·exact h i j s h1 h3
 ·subst h4;exact absurd h1 (hno i)
 ·subst h2;exact absurd h3 (hno j)
 ·omega
theorem Tz {c:Aa} {most:Nat} {s:Ac}:∀ (l:List Ae) (S:List Ac) (mv:List Int) {r:List Ac×List Int},Nd S->Ja c most s l S mv=.inr r->∃ Y,r.2=mv ++ Y/\Xr c s l S r.1 Y/\Nd r.1
 | [],S,mv,r,hN,h=>by
  unfold Ja at h;obtain rfl:=Sum.inr.inj h;exact ⟨[],by simp,⟨⟨[],by simp⟩,rfl,λj x hx=>by simp at hx,λk h1 h2=>by dsimp only at h2;omega⟩,hN⟩
 | x :: l,S,mv,r,hN,h=>by
  unfold Ja at h;by_cases h0:(aft c s x).2=0
  ·rw [if_pos h0] at h;by_cases hp:plc S (aft c s x).1 < 0
   ·rw [if_pos hp] at h;by_cases hM:S.length=most
    ·rw [if_pos hM] at h;cases h
    ·rw [if_neg hM] at h;obtain ⟨Y,e1,⟨⟨X,e2⟩,e3,e4,e5⟩,e6⟩:=Tz l _ _ (hN.put (Xm hp)) h;refine ⟨(S.length:Int) :: Y,by rw [e1];simp,⟨⟨(aft c s x).1 :: X,by rw [e2];simp⟩,by simp [e3],λj y hy=>?_,λk h1 h2=>?_⟩,e6⟩
     ·cases j with
      | zero=>
       obtain rfl:x=y:=by simpa using hy
       exact ⟨h0,S.length,rfl,by rw [e2];simp⟩
      | succ j=>
       obtain ⟨a,k,b,d⟩:=e4 j y (by simpa using hy);exact ⟨a,k,by simpa using b,d⟩
     ·by_cases hk:k=S.length
      ·subst hk;simp
      ·exact D3 _ (e5 k so_ h2)
   ·rw [if_neg hp] at h;obtain ⟨q,hq,hq2,hq3⟩:=Rb hp;obtain ⟨Y,e1,⟨⟨X,e2⟩,e3,e4,e5⟩,e6⟩:=Tz l _ _ hN h;refine ⟨(q:Int) :: Y,by rw [e1,hq2];simp,⟨⟨X,e2⟩,by simp [e3],λj y hy=>?_,λk h1 h2=>D3 _ (e5 k h1 h2)⟩,e6⟩;cases j with
    | zero=>
     obtain rfl:x=y:=by simpa using hy
     refine ⟨h0,q,rfl,?_⟩;obtain ⟨g1,g2,_⟩:=D6.1 hq3;rw [e2,DL g1,gE_ g1,← Fu.1 g2]
    | succ j=>
     obtain ⟨a,k,b,d⟩:=e4 j y (by simpa using hy);exact ⟨a,k,by simpa using b,d⟩
  ·rw [if_neg h0] at h;cases h
structure Rwm (c:Aa) (S:List Ac) (s:Ac) (mv:List Int):Prop where
 len:mv.length=(Jb s).length
 ev:∀ (j:Nat) x,(Jb s)[j]?=some x->(aft c s x).2=0/\∃ k:Nat,mv[j]?=some (k:Int)/\S[k]?=some (aft c s x).1
theorem Rwm.app {c:Aa} {S X:List Ac} {s:Ac} {mv:List Int} (h:Rwm c S s mv):Rwm c (S ++ X) s mv:=
 ⟨h.len,λj x hx=>by
  obtain ⟨a,k,b,d⟩:=h.ev j x hx;exact ⟨a,k,b,by rw [DL (DG.1 d).1];exact d⟩⟩
structure Fnd (c:Aa) (s0:Ac) (i:Nat) (S:List Ac) (M:List (List Int)):Prop where
 ml:M.length=i
 il:i<=S.length
 hd:S[0]?=some s0
 nd:Nd S
 row:∀ (j:Nat) s mv,j < i->S[j]?=some s->M[j]?=some mv->Rwm c S s mv
 par:∀ k,0 < k->k < S.length->∃ p mv,p < k/\M[p]?=some mv/\(k:Int)∈mv
theorem Xd {c:Aa} {s0:Ac} {most:Nat}:∀ (n i:Nat) (S:List Ac) (M:List (List Int)) {sp:Space},Fnd c s0 i S M->Ov c most n i S M=.inr sp->Fnd c s0 sp.States.length sp.States sp.Moves
 | 0,_,_,_,_,_,h=>by cases h
 | n + 1,i,S,M,sp,hF,h=>by
  unfold Ov at h;cases hs:S[i]? with
  | none=>
   rw [hs] at h;obtain rfl:=Sum.inr.inj h;have h1:=List.getElem?_eq_none_iff.1 hs;have h2:=hF.il;have:i=S.length:=by omega
   subst this;exact hF
  | some s=>
   rw [hs] at h;try dsimp only at h
   cases hx:Ja c most s (Jb s) S [] with
   | inl e=>rw [hx] at h;cases h
   | inr r=>
    rw [hx] at h;obtain ⟨Y,e1,⟨⟨X,e2⟩,e3,e4,e5⟩,e6⟩:=Tz _ _ _ hF.nd hx;have hil:=(DG.1 hs).1;have e1:r.2=Y:=by simpa using e1
    refine Xd n (i + 1) r.1 _ ⟨by simp [hF.ml],by rw [e2];simp;omega,?_,e6,?_,?_⟩ h
    ·rw [e2,DL om_];exact hF.hd
    ·intro j t mv hj ht hm;by_cases hji:j=i
     ·subst hji;rw [D1 (by rw [hF.ml];omega),hF.ml,HA] at hm;have hm:r.2=mv:=by simpa using hm
      rw [e2,DL hil,hs] at ht;obtain rfl:=Option.some.inj ht;rw [← hm,e1];exact ⟨e3,e4⟩
     ·have hj2:j < i:=by omega
      rw [DL (by rw [hF.ml];exact hj2)] at hm;rw [e2,DL om_] at ht;rw [e2];exact (hF.row j t mv hj2 ht hm).app
    ·intro k h1 h2;by_cases hk:k < S.length
     ·obtain ⟨p,mv,a,b,d⟩:=hF.par k h1 hk;exact ⟨p,mv,a,by rw [DL (DG.1 b).1];exact b,d⟩
     ·refine ⟨i,r.2,by omega,?_,by rw [e1];exact e5 k om_ h2⟩;rw [D1 (by rw [hF.ml];omega),hF.ml,HA];rfl
structure Sp_ (c:Aa) (s0:Ac) (sp:Space):Prop where
 al:Al c sp.States
 le:sp.States.length<=120
 fd:Fnd c s0 sp.States.length sp.States sp.Moves
theorem expF_sp {c:Aa} {held:List Bool} {sp:Space} (hb:Bd_ c) (hf:Fit c (Ff c held).1) (hq:Qt c (Ff c held).1) (h:CD c held 120=.inr sp):Sp_ c (Ff c held).1 sp:=by
 have hA:Al c [(Ff c held).1]:=λt ht=>by
  obtain rfl:t=_:=by simpa using ht
  exact ⟨hf,hq⟩
 obtain ⟨a1,a2,_⟩:=Xc FF 0 _ [] hA smp_ rfl smp_ smp_ hb h;refine ⟨a1,a2,Xd FF 0 _ [] ⟨rfl,by simp,rfl,?_,λj s mv hj=>by omega,λk h1 h2=>by simp at h2;omega⟩ h⟩;intro i j s hi hj;have h1:=(DG.1 hi).1;have h2:=(DG.1 hj).1;simp at h1 h2;omega
theorem BE {c:Aa} {s:Ac} (hb:Bd_ c) (h:Fit c s):(Jb s).length<=22:=by
 have h1:=hb.a';have h3:=hb.s;have a:=Bo (g:=Qn s) (n:=s.Ends.length);have b:=Bo (g:=Xa s) (n:=s.Timers.length);have he:=h.e;have ht:=h.t;unfold Jb;rw [DB];omega
theorem Sp_.get {c:Aa} {s0:Ac} {sp:Space} (h:Sp_ c s0 sp) {i:Nat} (hi:i < sp.States.length):∃ s mv,sp.States[i]?=some s/\sp.Moves[i]?=some mv/\Rwm c sp.States s mv/\Fit c s/\Qt c s:=by
 have hm:i < sp.Moves.length:=by rw [h.fd.ml];exact hi
 have h1:sp.States[i]?=some sp.States[i]:=gE_ hi;have h2:sp.Moves[i]?=some sp.Moves[i]:=gE_ hm;obtain ⟨hf,hq⟩:=h.al _ (DK hi);exact ⟨_,_,h1,h2,h.fd.row i _ _ hi h1 h2,hf,hq⟩
theorem Rwm.mem {c:Aa} {S:List Ac} {s:Ac} {mv:List Int} (h:Rwm c S s mv) {k:Int} (hk:k∈mv):0<=k/\k < S.length:=by
 obtain ⟨j,hj⟩:=HM hk;have hl:=(DG.1 hj).1;rw [h.len] at hl;obtain ⟨_,q,h1,h2⟩:=h.ev j _ (gE_ hl);rw [hj] at h1;obtain rfl:=Option.some.inj h1;have:=(DG.1 h2).1;omega
theorem Sp_.pos {c:Aa} {s0:Ac} {sp:Space} (h:Sp_ c s0 sp):0 < sp.States.length:=(DG.1 h.fd.hd).1
theorem Sp_.rows {c:Aa} {s0:Ac} {sp:Space} (hb:Bd_ c) (h:Sp_ c s0 sp):∀ l∈sp.Moves,l.length<=22/\∀ k∈l,0<=k/\k < sp.States.length:=by
 intro l hl;obtain ⟨i,hi⟩:=HM hl;have hil:=(DG.1 hi).1;rw [h.fd.ml] at hil;obtain ⟨s,mv,h1,h2,h3,h4,h5⟩:=h.get hil;rw [hi] at h2;obtain rfl:=Option.some.inj h2;exact ⟨by rw [h3.len];exact BE hb h4,λk hk=>h3.mem hk⟩
theorem Sp_.shp {c:Aa} {s0:Ac} {sp:Space} (hb:Bd_ c) (h:Sp_ c s0 sp):shp sp=0:=by
 have hp:=h.pos;have hl:=h.le;have hm:=h.fd.ml;unfold Pn.shp;rw [show (sp.States.length == 0)=false by rw [beq_eq_false_iff_ne];omega,cf_,show decide (sp.States.length > 16384)=false by simp;omega,cf_,show (sp.Moves.length != sp.States.length)=false by rw [hm];simp,cf_];have:sp.Moves.any (λl=>l.any (bad sp.States.length))=false:=by
  rw [EQ];intro l hl2;rw [Bool.not_eq_true,EQ];intro k hk;have:=(h.rows hb l hl2).2 k hk;unfold bad;simp;omega
 rw [this];rfl
end Go.Pn
namespace Go.Pn
open Go Go.Sort Go.Proofs
def Sb_ (s:Ab):Prop:=0<=s.Actuator/\s.Actuator<=1000
def A0 (x:Int):Int:=if x < 0 then -1 else if 0 < x then 1 else 0
def co:List Ab->List Ab->Option Int
 | a :: l,b :: m=>if sd a b=0 then co l m else some (A0 (sd a b))
 | _,_=>none
theorem CU:∀ (a b:List Ab),A0 (lcs a b)=match co a b with | some r=>r | none=>if a.length < b.length then -1 else if a.length > b.length then 1 else 0
 | [],[]=>rfl
 | [],_ :: _=>by simp [lcs,co,A0]
 | _ :: _,[]=>by simp [lcs,co,A0]
 | a :: l,b :: m=>by
  unfold lcs co;by_cases h:sd a b=0
  ·rw [if_pos h,if_pos h,CU l m];cases co l m with
   | some r=>rfl
   | none=>simp
  ·rw [if_neg h,if_neg h]
theorem Lg {v0 v1:List Ab} (hl:v0.length<=100000000):∀ (n i:Nat),i<=v0.length->v0.length - i < n ->
  ∃ k,Rl v0 v1 n i=some (match co (v0.drop i) (v1.drop i) with | some r=>.ret r | none=>.brk k)
 | 0,i,_,h=>by omega
 | n + 1,i,hi,hn=>by
  rw [Rl];by_cases hlt:i < v0.length/\i < v1.length
  ·obtain ⟨hlt,h2⟩:=hlt;rw [Aj,Aj,dt_ hlt,dt_ h2,HO,ct_];simp only [Ai,gE_ hlt,gE_ h2,ob_];rw [DH hlt,DH h2];unfold co;generalize ha:v0[i]=a;generalize hb:v1[i]=b;obtain ⟨x,p⟩:=a;obtain ⟨y,q⟩:=b;dsimp only;by_cases h3:x=y
   ·subst h3;rw [show (x != x)=false by simp,cf_];by_cases h4:p=q
    ·subst h4;rw [show (p != p)=false by simp,cf_,if_pos (Bj.2 rfl),An om_];exact Lg hl n (i + 1) om_ om_
    ·rw [show (p != q)=true by simpa using h4,ct_];refine ⟨0,?_⟩;cases p <;> cases q <;> simp_all [sd,A0]
   ·rw [show (x != y)=true by simpa using h3,ct_];refine ⟨0,?_⟩;have h5:sd ⟨x,p⟩ ⟨y,q⟩=x - y:=by unfold sd;rw [if_neg h3]
    rw [h5,if_neg om_];unfold A0;by_cases h6:x < y
    ·rw [dt_ h6,ct_,if_pos om_]
    ·rw [df_ h6,cf_,if_neg om_,if_pos om_]
  ·refine ⟨(i:Int),?_⟩;have:(decide ((i:Int) < (v0.length:Int)) && decide ((i:Int) < (v1.length:Int)))=false:=by
    rw [Aj,Aj];rcases E4 i v0.length with h | h
    ·rw [df_ (show ¬ i < v1.length from λh'=>hlt ⟨h,h'⟩),HH]
    ·rw [df_ om_,FQ]
   rw [this,cf_];have:co (v0.drop i) (v1.drop i)=none:=by
    rcases E4 i v0.length with h | h
    ·rw [DN (show v1.length<=i from Nat.le_of_not_lt λh'=>hlt ⟨h,h'⟩)];cases v0.drop i <;> rfl
    ·rw [DN h];rfl
   rw [this]
theorem BO {v0 v1:List Ab} (hl:v0.length<=10000):m77 FF v0 v1=some (A0 (lcs v0 v1)):=by
 unfold m77;obtain ⟨k,hk⟩:=Lg (v0:=v0) (v1:=v1) om_ FF 0 om_ uF;rw [n0,DM,DM] at hk;rw [hk,CU];cases co v0 v1 with
 | some r=>rfl
 | none=>
  rw [ob_];dsimp only;rcases Nat.lt_trichotomy v0.length v1.length with h | h | h
  ·rw [if_pos h,show decide ((v0.length:Int) < (v1.length:Int))=true by simp;omega];rfl
  ·rw [if_neg om_,if_neg om_,show decide ((v0.length:Int) < (v1.length:Int))=false by simp;omega,show decide ((v0.length:Int) > (v1.length:Int))=false by simp;omega];rfl
  ·rw [if_neg om_,if_pos h,show decide ((v0.length:Int) < (v1.length:Int))=false by simp;omega,show decide ((v0.length:Int) > (v1.length:Int))=true by simp;omega];rfl
end Go.Pn
namespace Go.Pn
open Go Go.Sort Go.Proofs
instance:DecidableEq Ab:=λa b=>decidable_of_iff (sd a b=0) Bj
end Go.Pn
namespace Go.Pn
open Go
theorem fi_any {α:Type} {l:List α} {q:α->Bool}:(∃ j,l.findIdx? q=some j/\l.any q=true)\/(l.findIdx? q=none/\l.any q=false):=by
 cases h:l.findIdx? q with
 | some j=>
  left;obtain ⟨h1,h2,_⟩:=D6.1 h;exact ⟨j,rfl,D7.2 ⟨_,DK h1,h2⟩⟩
 | none=>
  right;rw [EG] at h;exact ⟨rfl,EQ.2 λx hx=>by simpa using h x hx⟩
end Go.Pn
namespace Go.Pn
open Go
theorem exp_ne {c:Aa} {held:List Bool} (_:True):CD c held 120≠.inl 0:=by
 intro h3;have key:∀ (n i:Nat) (S:List Ac) (M:List (List Int)),Ov c 120 n i S M≠.inl 0:=by
  intro n
  induction n with
  | zero=>intro i S M h;cases h
  | succ n ih=>
   intro i S M h;unfold Ov at h;cases hs:S[i]? with
   | none=>rw [hs] at h;cases h
   | some s=>
    rw [hs] at h;try dsimp only at h
    have hx:∀ (l:List Ae) (S:List Ac) (mv:List Int),Ja c 120 s l S mv≠.inl 0:=by
     intro l
     induction l with
     | nil=>intro S mv h;cases h
     | cons x l ihl=>
      intro S mv h;unfold Ja at h;split at h
      ·split at h
       ·split at h
        ·cases h
        ·exact ihl _ _ h
       ·exact ihl _ _ h
      ·rename_i h0;exact h0 (Sum.inl.inj h)
    cases hr:Ja c 120 s (Jb s) S [] with
    | inl e=>
     rw [hr] at h;have:=Sum.inl.inj h;subst this;exact hx _ _ _ hr
    | inr r=>rw [hr] at h;exact ih _ _ _ h
 exact key _ _ _ _ h3
end Go.Pn
namespace Go.Pn
open Go
def frE (s t:Ac) (i:Nat):Option Ab:=if (t.Ends.getD i 0=1\/t.Ends.getD i 0=3)/\s.Ends.getD i 0≠t.Ends.getD i 0 then some ⟨(i:Int),t.Ends.getD i 0 == 1⟩ else none
def frs (s t:Ac):List Ab:=(List.range s.Ends.length).filterMap (frE s t)
theorem CX {s t:Ac} {i:Nat} (h:i < s.Ends.length) (h':i < t.Ends.length):frE s t i=if (t.Ends[i]=1\/t.Ends[i]=3)/\s.Ends[i]≠t.Ends[i] then some ⟨(i:Int),t.Ends[i] == 1⟩ else none:=by
 unfold frE;rw [DQ,DQ,gE_ h,gE_ h'];rfl
theorem Zn {s t:Ac} (he:t.Ends.length=s.Ends.length) (hl:s.Ends.length<=1000):m112 FF s t=some (frs s t):=by
 unfold m112;obtain ⟨v,hv,hh⟩:=Ok (L:=Jw s t) (mk:=λi (v:List Ab)=>((i:Int),v)) (N:=s.Ends.length) (I:=λi v=>v=(List.range i).filterMap (frE s t)) (λn i v hi hI=>by
  subst hI;have hi':i < t.Ends.length:=by omega
  refine ⟨_,rfl,?_⟩;have hle:=Bo (g:=frE s t) (n:=i);rw [Jw];simp only [Aj,dt_ hi,ct_,Ai,gE_ hi,gE_ hi',ob_];rw [An om_,Ev,CX hi hi'];have k1:(bif (t.Ends[i] == 1) then some true else some (t.Ends[i] == 3))=some (decide (t.Ends[i]=1\/t.Ends[i]=3)):=by
   by_cases a1:t.Ends[i]=1
   ·rw [show (t.Ends[i] == 1)=true by simpa using a1,dt_ (.inl a1)];rfl
   ·rw [show (t.Ends[i] == 1)=false by simpa using a1,cf_];by_cases a3:t.Ends[i]=3
    ·rw [show (t.Ends[i] == 3)=true by simpa using a3,dt_ (.inr a3)]
    ·rw [show (t.Ends[i] == 3)=false by simpa using a3,df_ om_]
  rw [k1,ob_];by_cases ha:t.Ends[i]=1\/t.Ends[i]=3
  ·rw [dt_ ha,ct_,ob_];by_cases hn:s.Ends[i]=t.Ends[i]
   ·rw [show (s.Ends[i] != t.Ends[i])=false by simpa using hn,cf_,ob_,if_neg (λh=>h.2 hn),EF]
   ·rw [show (s.Ends[i] != t.Ends[i])=true by simpa using hn,ct_,Aw so_,ob_,ob_,if_pos ⟨ha,hn⟩]
  ·rw [df_ ha,cf_,ob_,cf_,ob_,if_neg (λh=>ha h.1),EF]) (λn v _=>by
  rw [Jw];dsimp only;rw [Aj,df_ om_,cf_]) FF 0 [] om_ uF rfl
 subst hv;try dsimp only at hh
 rw [n0] at hh;rw [hh];rfl
theorem Zo {s t:Ac} (he:t.Ends.length=s.Ends.length) (hl:s.Ends.length<=1000):m110 FF s t=some (frs s t):=by
 unfold m110;obtain ⟨v,hv,hh⟩:=Ok (L:=Jx s t) (mk:=λi (v:List Ab)=>((i:Int),v)) (N:=s.Ends.length) (I:=λi v=>v=(List.range i).filterMap (frE s t)) (λn i v hi hI=>by
  subst hI;have hi':i < t.Ends.length:=by omega
  refine ⟨_,rfl,?_⟩;have hle:=Bo (g:=frE s t) (n:=i);rw [Jx];simp only [he,Aj,dt_ hi,ct_,Ai,gE_ hi,gE_ hi',ob_];rw [An om_,Ev,CX hi hi'];have k1:((t.Ends[i] != s.Ends[i]) && ((t.Ends[i] == 1) || (t.Ends[i] == 3)))=decide ((t.Ends[i]=1\/t.Ends[i]=3)/\s.Ends[i]≠t.Ends[i]):=by
   rw [EK];simp;omega
  rw [k1];by_cases ha:(t.Ends[i]=1\/t.Ends[i]=3)/\s.Ends[i]≠t.Ends[i]
  ·rw [dt_ ha,ct_,Aw so_,ob_,ob_,if_pos ha]
  ·rw [df_ ha,cf_,ob_,if_neg ha,EF]) (λn v _=>by
  rw [Jx];dsimp only;rw [he,Aj,df_ om_,cf_]) FF 0 [] om_ uF rfl
 subst hv;try dsimp only at hh
 rw [n0] at hh;rw [hh];rfl
theorem BS {c:Aa} {s t:Ac} (hb:Bd_ c) (hs:Fit c s) (ht:Fit c t):m71 FF s t=some (frs s t,0):=by
 have h6:=hb.a';have h1:=hs.e;have h2:=ht.e;unfold m71;rw [show ((s.Ends.length:Int) != (t.Ends.length:Int))=false by simp;omega,df_ om_,F9,cf_,Mn om_ om_,ob_];have e1:=Wz (L:=Vl (s.Ends ++ t.Ends)) (xs:=s.Ends ++ t.Ends) (p:=λ_ x=>some (decide (x < 0) || decide (x>=4))) (q:=λx=>decide (x < 0) || decide (x>=4)) (r:=λ_=>(([]:List Ab),(1:Int))) (λ_ _=>rfl) so_ (λ_ _ _=>rfl) FF 0 smp_ (by simp;unfold FF;omega);rw [n0,DM] at e1;rcases fi_any (l:=s.Ends ++ t.Ends) (q:=λx=>decide (x < 0) || decide (x>=4)) with ⟨j,hj,ha⟩ | ⟨hj,ha⟩
 ·exfalso;obtain ⟨x,hx,h3⟩:=D7.1 ha;have:0<=x/\x < 4:=(DS.1 hx).elim (hs.ee x) (ht.ee x);simp at h3;omega
 ·rw [hj] at e1;rw [e1,ob_];dsimp only;rw [Zo om_ om_];rfl
end Go.Pn
namespace Go.Pn
open Go
structure Sq (c:Aa) (sp:Space):Prop where
 bd:Bd_ c
 fit:∀ s∈sp.States,Fit c s
 ml:sp.Moves.length=sp.States.length
 pos:0 < sp.States.length
 le:sp.States.length<=120
 rows:∀ l∈sp.Moves,l.length<=22/\∀ k∈l,0<=k/\k < sp.States.length
theorem Sp_.sq {c:Aa} {s0:Ac} {sp:Space} (hb:Bd_ c) (h:Sp_ c s0 sp):Sq c sp:=
 ⟨hb,λs hs=>(h.al s hs).1,h.fd.ml,h.pos,h.le,h.rows hb⟩
def stw_ (sp:Space) (i:Int):Ac:=(idx sp.States i).getD default
theorem My {sp:Space} {i:Int} (h0:0<=i) (h:i < sp.States.length):idx sp.States i=some (stw_ sp i)/\stw_ sp i∈sp.States:=by
 obtain ⟨x,hx,hm⟩:=Dv (xs:=sp.States) h0 h;unfold stw_;rw [hx];exact ⟨rfl,hm⟩
def lab (sp:Space) (i to:Int):List Ab:=frs (stw_ sp i) (stw_ sp to)
section
variable {c:Aa} {sp:Space}
theorem Lf {i:Nat} {mv:List Int} (h:Sq c sp) (hi:sp.Moves[i]?=some mv):∀ (n k:Nat) (acc:List (List Ab)),k<=mv.length->acc.length<=k->mv.length - k < n ->
  Rj FF sp i n ((k:Int),acc)=some ((mv.length:Int),acc ++ (mv.drop k).map (lab sp i))
 | 0,_,_,_,_,h=>by omega
 | n + 1,k,acc,hk,ha,hn=>by
  have hil:=(DG.1 hi).1;obtain ⟨h22,hr⟩:=h.rows mv (DP hi);rw [Rj];dsimp only;rw [Ai,hi,ob_];by_cases hlt:k < mv.length
  ·obtain ⟨r1,r2⟩:=hr mv[k] (DK _);obtain ⟨e1,m1⟩:=My (sp:=sp) (i:=(i:Int)) om_ (by have:=h.ml;omega);obtain ⟨e2,m2⟩:=My (sp:=sp) r1 r2;have f1:=(h.fit _ m1).e;have f2:=(h.fit _ m2).e;have f3:=h.bd.a';rw [Aj,dt_ hlt,ct_,e1,ob_,ob_,Ai,gE_ hlt,ob_,e2,ob_,Zn om_ om_,ob_,Aw so_,ob_,An om_,
    Lf h hi n (k + 1) _ om_ so_ om_,DH hlt,DO,D2]
   rfl
  ·obtain rfl:k=mv.length:=by omega
   rw [Aj,df_ om_,cf_,FZ];simp
theorem BN {i:Nat} {mv:List Int} (h:Sq c sp) (hi:sp.Moves[i]?=some mv):m78 FF sp i=some (mv.map (lab sp i)):=by
 obtain ⟨h22,_⟩:=h.rows mv (DP hi);unfold m78;have:=Lf h hi FF 0 [] om_ smp_ uF;rw [n0,DM,FM] at this;rw [this];rfl
theorem frs_sb {s t:Ac} (hs:s.Ends.length<=6):(∀ x∈frs s t,Sb_ x)/\(frs s t).length<=6:=by
 constructor
 ·intro x hx;unfold frs at hx;obtain ⟨i,hi,he⟩:=F6.1 hx;unfold frE at he;split at he
  ·obtain rfl:=Option.some.inj he;have:=DZ.1 hi;constructor
   ·show 0<=(i:Int);omega
   ·show (i:Int)<=1000;omega
  ·cases he
 ·have:=Bo (g:=frE s t) (n:=s.Ends.length);unfold frs;omega
theorem CV (h:Sq c sp) {i to:Int} (h0:0<=i) (h1:i < sp.States.length):(∀ x∈lab sp i to,Sb_ x)/\(lab sp i to).length<=6:=by
 obtain ⟨_,m1⟩:=My (sp:=sp) h0 h1;have f1:=(h.fit _ m1).e;have f3:=h.bd.a';exact frs_sb om_
end
end Go.Pn
namespace Go.Pn
open Go
section
variable {c:Aa} {sp:Space}
theorem idx_mv (h:Sq c sp) {i:Int} (h0:0<=i) (h1:i < sp.States.length):∃ mv,idx sp.Moves i=some mv/\sp.Moves[i.toNat]?=some mv/\True/\mv.length<=22/\∀ k∈mv,0<=k/\k < sp.States.length:=by
 have hml:=h.ml;have hg:sp.Moves[i.toNat]?=some (sp.Moves[i.toNat]'om_):=gE_ om_;generalize sp.Moves[i.toNat]'om_=mv at hg;have hi:i=((i.toNat:Nat):Int):=by omega
 obtain ⟨h22,hr⟩:=h.rows mv (DP hg);refine ⟨mv,by rw [hi,Ai];exact hg,hg,trivial,h22,hr⟩
end
end Go.Pn
namespace Go.Pn
open Go Go.Sort Go.Proofs
section
variable {c:Aa} {sp:Space}
theorem B5 {α:Type} {xs:List α} {q:Nat} (h:q<=xs.length):lsl xs 0 (q:Int)=some (xs.take q):=by
 unfold lsl;rw [if_pos ⟨by omega,by omega,by omega⟩];simp
end
end Go.Pn
namespace Go.Pn
open Go Go.Sort Go.Proofs
theorem nbb {e:Int} (h:e≠0):(e != 0)=true:=by simpa using h
theorem m36_tot {c:Aa} {held:List Bool} (hb:m35 FF c held=some true) {most:Nat} (h1:1<=most) (h2:most<=16384):∃ r,m36 FF c held (most:Int)=some r:=by
 obtain ⟨b,hb',h⟩:=Pm c held;rw [hb] at hb';obtain rfl:=Option.some.inj hb';obtain ⟨hw,hs,hl,hne⟩:=h rfl;unfold m36;rcases Qk hw hs held with ⟨e,he,h3,h4,h5⟩ | ⟨hc,hll,h3,h4,h5⟩
 ·rw [h4,ob_];dsimp only;rw [nbb he,ct_];exact ⟨_,rfl⟩
 ·rw [h4,ob_];try dsimp only
  by_cases h0:(Ff c held).2=0
  ·obtain ⟨hf,hq⟩:=h5 h0;have hA:Al c [(Ff c held).1]:=λt ht=>by
    obtain rfl:t=_:=by simpa using ht
    exact ⟨hf,hq⟩
   have hx:=Df hc.rt (most:=most) h2 FF 0 [(Ff c held).1] [] hA so_ smp_ uF rfl;rw [n0] at hx;rw [h0,zf_,cf_];cases he:Ov c most FF 0 [(Ff c held).1] [] with
   | inl e=>
    rw [he] at hx;rw [hx];exact ⟨_,rfl⟩
   | inr sp=>
    rw [he] at hx;obtain ⟨z,hx⟩:=hx;rw [hx];exact ⟨_,rfl⟩
  ·rw [nbb h0,ct_];exact ⟨_,rfl⟩
theorem m9_spec (c:Aa) (held:List Bool):∃ b,m9 FF c held=some b/\(b=true->m35 FF c held=some true):=by
 obtain ⟨b,hb,_⟩:=Pm c held;unfold m9;cases b with
 | false=>
  rw [hb,ob_];exact ⟨false,rfl,λe=>by cases e⟩
 | true=>
  obtain ⟨r,hr⟩:=m36_tot hb (most:=50) om_ om_;refine ⟨r.2 != 12,?_,λ_=>hb⟩;rw [hb,ob_,nt_,cf_,show (50:Int)=((50:Nat):Int) from rfl,hr];rfl
theorem CB {c:Aa} {held:List Bool} (hb:m35 FF c held=some true):(∃ e,e≠0/\m30 FF c held=some (zsp,e)/\m44 FF c held=some (zsp,e))\/(∃ sp,Sq c sp/\(∃ s0,Sp_ c s0 sp)/\m30 FF c held=some (sp,0)/\m44 FF c held=some (sp,0)):=by
 rcases CC hb with ⟨e,he,h1,h2⟩ | ⟨sp,hc,hhl,h1,h2,h3,h4,h5,h6⟩ | ⟨hc,hhl,h0,e,h3,h1,h2⟩
 ·exact .inl ⟨e,he,h1,h2⟩
 ·have hS:=expF_sp hc.rt.bd h5 h6 h3;exact .inr ⟨sp,hS.sq hc.rt.bd,⟨_,hS⟩,h1,h2⟩
 ·by_cases he:e=0
  ·subst he;exact absurd h3 (exp_ne trivial)
  ·exact .inl ⟨e,he,h1,h2⟩
end Go.Pn
namespace Go.Pn
open Go Go.Sort Go.Proofs
theorem AJ (x y:Ab):CE x y=(x == y):=by
 rw [EK,beq_iff_eq];obtain ⟨a,b⟩:=x;obtain ⟨c,d⟩:=y;simp [CE]
theorem Mf {a b:List (List Ab)} (hl:a.length=b.length) (ha:a.length<=90000) (hx:∀ x∈a,x.length<=90000):∀ (n i:Nat),i<=a.length->a.length - i < n ->
  Tg FF a b n (i:Int)=if a.drop i=b.drop i then some (.brk (a.length:Int)) else some (.ret false)
 | 0,i,_,h=>by omega
 | n + 1,i,hi,hn=>by
  rw [Tg];by_cases hlt:i < a.length
  ·have hlt2:i < b.length:=by omega
   have da:=DH hlt;have db:=DH hlt2;have hxl:=hx _ (DK hlt);rw [Aj,dt_ hlt,ct_,Ai,gE_ hlt,ob_,Ai,gE_ hlt2,ob_,da,db];have ia:idx a (i:Int)=some a[i]:=by rw [Ai,gE_ hlt]
   have ib:idx b (i:Int)=some b[i]:=by rw [Ai,gE_ hlt2]
   generalize a[i]=x at *;generalize b[i]=y at *;by_cases hxy:x.length=y.length
   ·rw [show ((x.length:Int) != (y.length:Int))=false by rw [hxy];simp,cf_];have e1:=eqls (L:=Tf a b (i:Int)) (xs:=x) (ys:=y) (λn z=>by
     rw [Tf,ia,ob_];cases decide (z < (x.length:Int)) with
     | false=>rfl
     | true=>
      rw [ct_,ct_,ob_,ib];cases idx x z with
      | none=>rfl
      | some u=>
       rw [ob_,ob_,ob_];cases idx y z with
       | none=>rfl
       | some v=>
        rw [ob_,ob_,AJ];rfl) om_ hxy FF 0 om_ uF
    rw [n0,DM,DM] at e1;rw [e1];by_cases he:x=y
    ·rw [if_pos (by simpa using he),ob_];dsimp only;rw [An om_,Mf hl ha hx n (i + 1) om_ om_,he];simp
    ·rw [if_neg (by simpa using he),if_neg λe=>he (List.cons.inj e).1];rfl
   ·rw [show ((x.length:Int) != (y.length:Int))=true by simp;omega,ct_,if_neg λe=>hxy (by rw [(List.cons.inj e).1])]
  ·obtain rfl:i=a.length:=by omega
   rw [Aj,df_ om_,cf_,FZ,if_pos (by rw [hl,FZ])]
theorem B3 {a b:List (List Ab)} (ha:a.length<=90000) (hx:∀ x∈a,x.length<=90000):m15 FF a b=some (decide (a=b)):=by
 unfold m15;by_cases hl:a.length=b.length
 ·rw [show ((a.length:Int) != (b.length:Int))=false by rw [hl];simp,cf_];have:=Mf hl ha hx FF 0 om_ uF;rw [n0,DM,DM] at this;rw [this];by_cases he:a=b
  ·rw [if_pos he,dt_ he];rfl
  ·rw [if_neg he,df_ he];rfl
 ·rw [show ((a.length:Int) != (b.length:Int))=true by simp;omega,ct_,df_ λe=>hl (by rw [e])]
end Go.Pn
namespace Go.Pn
open Go Go.Sort Go.Proofs
theorem awkF:m10 100000=some true:=by kernel_rfl
end Go.Pn
namespace Go.Pn
open Go Go.Sort Go.Proofs
theorem Ua {α:Type}:∀ {t:List α},t≠[]->∃ u a,t=u ++ [a]
 | [],h=>(h rfl).elim
 | [a],_=>⟨[],a,rfl⟩
 | a :: b :: l,_=>by
  obtain ⟨u,c,h⟩:=Ua (t:=b :: l) smp_;exact ⟨a :: u,c,by rw [h];rfl⟩
end Go.Pn
namespace Go.Pn
open Go Go.Sort Go.Proofs
def AZ (sp:Space):Int->List Int->List (List Ab)->Prop
 | _,[],t=>t=[]
 | i,k :: p,t=>∃ mv j t',idx sp.Moves i=some mv/\idx mv k=some j/\t=(if lab sp i j=[] then t' else lab sp i j :: t')/\AZ sp j p t'
def Vp_ (sp:Space):Int->List Int->Prop
 | _,[]=>True
 | i,k :: p=>∃ mv j,idx sp.Moves i=some mv/\idx mv k=some j/\Vp_ sp j p
theorem AZ.len {sp:Space}:∀ {p:List Int} {i:Int} {t:List (List Ab)},AZ sp i p t->t.length<=p.length
 | [],_,t,h=>by
  have h:t=[]:=h;rw [h];simp
 | k :: p,i,t,⟨mv,j,t',_,_,h3,h4⟩=>by
  have:=h4.len;rw [h3];split
  ·simp;omega
  ·simp;omega
section
variable {c:Aa} {sp:Space}
def Xb (sp:Space):List (List (List Ab)):=(List.range sp.Moves.length).map λi:Nat=>(sp.Moves.getD i []).map (lab sp i)
theorem AU:(Xb sp).length=sp.Moves.length:=by simp [Xb]
theorem AV {i:Nat} {mv:List Int} (h:sp.Moves[i]?=some mv):(Xb sp)[i]?=some (mv.map (lab sp i)):=by
 have hi:=(DG.1 h).1;unfold Xb;rw [DX,ER hi,DY,DQ,h];rfl
theorem Ln {i:Nat} {mv:List Int} {z:List (List (List Ab))} (h:Sq c sp) (hi:sp.Moves[i]?=some mv):∀ (n k:Nat) (acc:List (List Ab)),k<=mv.length->acc.length<=k->mv.length - k < n ->
  Sc FF (sp,(0:Int)) ((i:Int),z) mv n ((k:Int),acc)=some (.brk ((mv.length:Int),acc ++ (mv.drop k).map (lab sp i)))
 | 0,_,_,_,_,h=>by omega
 | n + 1,k,acc,hk,ha,hn=>by
  have hil:=(DG.1 hi).1;obtain ⟨h22,hr⟩:=h.rows mv (DP hi);rw [Sc];dsimp only;by_cases hlt:k < mv.length
  ·obtain ⟨r1,r2⟩:=hr mv[k] (DK _);obtain ⟨e1,m1⟩:=My (sp:=sp) (i:=(i:Int)) om_ (by have:=h.ml;omega);obtain ⟨e2,m2⟩:=My (sp:=sp) r1 r2;rw [Aj,dt_ hlt,ct_,Ai,gE_ hlt,ob_,e1,ob_,e2,ob_,BS h.bd (h.fit _ m1) (h.fit _ m2),ob_];dsimp only;rw [zf_,cf_,Aw so_,ob_,An om_,Ln h hi n (k + 1) _ om_ so_ om_,DH hlt];rw [DO,D2];rfl
  ·obtain rfl:k=mv.length:=by omega
   rw [Aj,df_ om_,cf_,FZ];simp
theorem Lp (h:Sq c sp):∀ (n i:Nat),i<=sp.Moves.length->sp.Moves.length - i < n ->
  Sd FF (sp,(0:Int)) n ((i:Int),(Xb sp).take i)=some (.brk ((sp.Moves.length:Int),Xb sp))
 | 0,_,_,h=>by omega
 | n + 1,i,hi,hn=>by
  have hml:=h.ml;have hle:=h.le;rw [Sd];dsimp only;by_cases hlt:i < sp.Moves.length
  ·have hg:sp.Moves[i]?=some sp.Moves[i]:=gE_ hlt;obtain ⟨h22,_⟩:=h.rows _ (DP hg);have e1:=Ln (z:=(Xb sp).take i) h hg FF 0 [] om_ smp_ uF;rw [n0,DM,FM] at e1;have e2:=AV hg;have hs:i < (Xb sp).length:=by rw [AU];exact hlt
   rw [gE_ hs] at e2;have e2:=Option.some.inj e2;rw [Aj,dt_ hlt,ct_,Ai,hg,ob_,e1,ob_];dsimp only;rw [Aw so_,ob_,An om_,← e2,List.take_append_getElem hs];exact Lp h n (i + 1) om_ om_
  ·obtain rfl:i=sp.Moves.length:=by omega
   rw [Aj,df_ om_,cf_,EN (by rw [AU];exact DW _)]
theorem B0 {held:List Bool} (h:Sq c sp) (hx:m30 FF c held=some (sp,0)):m39 FF c held=some (some ⟨sp,Xb sp⟩,0):=by
 have hml:=h.ml;have hle:=h.le;unfold m39;rw [hx,ob_];dsimp only;have:=Lp h FF 0 om_ uF;rw [n0,GL] at this;rw [zf_,cf_,this];rfl
theorem Un {α:Type} {l:List α} {i:Int} {x:α} (h:idx l i=some x):0<=i/\i < l.length:=by
 unfold idx at h;split at h
 ·have:=(DG.1 h).1;omega
 ·cases h
theorem Ga (h:Sq c sp) {path:List Int} (hl:path.length<=10000):∀ (n k:Nat) (i:Int) (acc:List (List Ab)),k<=path.length->path.length - k < n->0<=i->i < sp.States.length->Vp_ sp i (path.drop k)->acc.length<=k ->
  ∃ z z' t,Sa FF (some ⟨sp,Xb sp⟩) path n (i,(k:Int),acc)=some (z,z',acc ++ t)/\AZ sp i (path.drop k) t
 | 0,_,_,_,_,h,_,_,_,_=>by omega
 | n + 1,k,i,acc,hk,hn,h0,h1,hv,ha=>by
  rw [Sa];dsimp only;by_cases hlt:k < path.length
  ·rw [DH hlt] at hv ⊢;obtain ⟨mv,j,v1,v2,v3⟩:=hv;have hi:i=((i.toNat:Nat):Int):=by omega
   have v1':sp.Moves[i.toNat]?=some mv:=by rw [hi,Ai] at v1;exact v1
   have hb:idx (Xb sp) i=some (mv.map (lab sp i)):=by
    have:=AV v1';rw [← hi] at this;rw [hi,Ai,← hi];exact this
   obtain ⟨b0,b1⟩:=Un v2;have hlb:idx (mv.map (lab sp i)) path[k]=some (lab sp i j):=by
    have e:path[k]=((path[k].toNat:Nat):Int):=by omega
    rw [e,Ai] at v2 ⊢;rw [DX,v2];rfl
   obtain ⟨j0,j1⟩:=(h.rows mv (DP v1')).2 j (Um v2);rw [Aj,dt_ hlt,ct_,Ai,gE_ hlt,ob_,ob_];dsimp only;rw [hb,ob_,hlb,ob_];by_cases he:lab sp i j=[]
   ·rw [he,show decide ((([]:List Ab).length:Int) > 0)=false from rfl,cf_,ob_,ob_];dsimp only;rw [v1,ob_,v2,ob_,An om_];obtain ⟨z,z',t,e1,e2⟩:=Ga h hl n (k + 1) j acc om_ om_ j0 j1 v3 om_;exact ⟨z,z',t,e1,mv,j,t,v1,v2,by rw [if_pos he],e2⟩
   ·have hg:decide (((lab sp i j).length:Int) > 0)=true:=by
     cases hq:lab sp i j with
     | nil=>exact (he hq).elim
     | cons y ys=>simp
    obtain ⟨_,l6⟩:=CV h (i:=i) (to:=j) h0 h1;have h78:m72 FF (lab sp i j)=some (lab sp i j):=by
     unfold m72;rw [Aw so_];rfl
    rw [hg,ct_,h78,ob_,Aw so_,ob_,ob_,ob_];dsimp only;rw [v1,ob_,v2,ob_,An om_];obtain ⟨z,z',t,e1,e2⟩:=Ga h hl n (k + 1) j (acc ++ [lab sp i j]) om_ om_ j0 j1 v3 so_;refine ⟨z,z',lab sp i j :: t,?_,mv,j,t,v1,v2,by rw [if_neg he],e2⟩;rw [e1,D2];rfl
  ·rw [Aj,df_ hlt,cf_];refine ⟨_,_,[],by rw [EF],?_⟩;rw [DN om_];rfl
end
section
variable {c d:Aa} {sa sb:Space}
end
end Go.Pn
namespace Go.Pn
open Go Go.Sort Go.Proofs
theorem BQ {f:Nat} (a b:Int):m75 f a b=some (if a < b then -1 else if b < a then 1 else 0):=by
 unfold m75 m111;simp only [bne_self_eq_false,ob_,cf_];by_cases h:a < b
 ·rw [dt_ h,ct_,if_pos h]
 ·rw [df_ h,cf_,if_neg h];by_cases h2:b < a
  ·rw [show decide (a > b)=true from dt_ h2,ct_,if_pos h2]
  ·rw [show decide (a > b)=false from df_ h2,cf_,if_neg h2]
def sdz (a b:Ab):Int:=if sd a b < 0 then -1 else if 0 < sd a b then 1 else 0
theorem Ux {a b:Ab}:sdz a b=0↔sd a b=0:=by unfold sdz; split <;> (try split) <;> omega
theorem BR {f:Nat} (a b:Ab):m74 f a b=some (sdz a b):=by
 obtain ⟨x,p⟩:=a;obtain ⟨y,q⟩:=b;unfold m74;rw [BQ,ob_];dsimp only;by_cases h:x=y
 ·subst h;cases p <;> cases q <;> simp [sdz,sd]
 ·have h0:sd ⟨x,p⟩ ⟨y,q⟩=x - y:=by unfold sd;rw [if_neg h]
  unfold sdz;rw [h0];by_cases h1:x < y
  ·rw [if_pos h1,if_pos om_];rfl
  ·rw [if_neg h1,if_pos om_,if_neg om_,if_pos om_];rfl
def clz:List Ab->List Ab->Option Int
 | [],_=>none
 | _ :: _,[]=>some 1
 | a :: l,b :: m=>if sd a b=0 then clz l m else some (sdz a b)
theorem CT:∀ (a b:List Ab),lcz a b=match clz a b with | some r=>r | none=>if a.length < b.length then -1 else 0
 | [],[]=>rfl
 | [],_ :: _=>by simp [lcz,lcs,clz]
 | _ :: _,[]=>rfl
 | a :: l,b :: m=>by
  have ih:=CT l m;unfold clz;by_cases h:sd a b=0
  ·have h1:lcz (a :: l) (b :: m)=lcz l m:=by unfold lcz;rw [show lcs (a :: l) (b :: m)=lcs l m by rw [lcs,if_pos h]]
   rw [if_pos h,h1,ih];cases clz l m with
   | some r=>rfl
   | none=>simp
  ·have h1:lcs (a :: l) (b :: m)=sd a b:=by rw [lcs,if_neg h]
   rw [if_neg h];unfold lcz sdz;rw [h1]
theorem B7 {a b:List Ab}:lcz a b=0↔a=b:=by
 rw [← Eu];unfold lcz;split <;> (try split) <;> omega
theorem Lj {f:Nat} {v0 v1:List Ab} (hl:v0.length<=100000000):∀ (n i:Nat),i<=v0.length->v0.length - i < n ->
  Rq f v0 v1 n i=some (match clz (v0.drop i) (v1.drop i) with | some r=>.ret r | none=>.brk (v0.length:Int))
 | 0,i,_,h=>by omega
 | n + 1,i,hi,hn=>by
  rw [Rq];by_cases hlt:i < v0.length
  ·rw [Aj,dt_ hlt,ct_,Ai,gE_ hlt,ob_,DH hlt];by_cases h2:i < v1.length
   ·rw [show decide ((i:Int)>=(v1.length:Int))=false by simp;omega,cf_,Ai,gE_ h2,ob_,BR,ob_,DH h2];unfold clz;by_cases h3:sd v0[i] v1[i]=0
    ·rw [Ux.2 h3,if_pos h3,zf_,cf_,An om_,Lj hl n (i + 1) om_ om_]
    ·rw [if_neg h3,show (sdz v0[i] v1[i] != 0)=true by rw [bne_iff_ne];exact λe=>h3 (Ux.1 e),ct_]
   ·rw [show decide ((i:Int)>=(v1.length:Int))=true by simp;omega,ct_,DN (by omega:v1.length<=i)];rfl
  ·obtain rfl:i=v0.length:=by omega
   rw [Aj,df_ om_,cf_,FZ];rfl
theorem BZ {v0 v1:List Ab} (hl:v0.length<=10000):m42 FF v0 v1=some (lcz v0 v1):=by
 unfold m42 m73;have:=Lj (f:=FF) (v0:=v0) (v1:=v1) om_ FF 0 om_ uF;rw [n0,DM,DM] at this;rw [this,CT];cases clz v0 v1 with
 | some r=>rfl
 | none=>
  rw [ob_];dsimp only;by_cases h:v0.length < v1.length
  ·rw [if_pos h,show decide ((v0.length:Int) < (v1.length:Int))=true by simp;omega];rfl
  ·rw [if_neg h,show decide ((v0.length:Int) < (v1.length:Int))=false by simp;omega];rfl
theorem beq0 {a b:List Ab}:(lcz a b == 0)=decide (a=b):=by rw [EK];simp [B7]
theorem Vr {v0 v1:List Ab} (hl:v0.length<=10000):m41 FF v0 v1=some (decide (v0=v1)):=by
 unfold m41;rw [BZ hl,ob_,beq0]
end Go.Pn
namespace Go.Pn
open Go Go.Sort Go.Proofs
theorem AZ.uniq {sp:Space}:∀ {p:List Int} {i:Int} {t t':List (List Ab)},AZ sp i p t->AZ sp i p t'->t=t'
 | [],_,_,_,h,h'=>h.trans h'.symm
 | _ :: _,_,_,_,⟨mv,m,t1,h1,h2,h3,h4⟩,⟨mv',m',t2,k1,k2,k3,k4⟩=>by
  rw [h1] at k1;obtain rfl:=Option.some.inj k1;rw [h2] at k2;obtain rfl:=Option.some.inj k2;rw [h3,k3,h4.uniq k4]
section
variable {c:Aa} {sp:Space}
end
end Go.Pn
namespace Go.Pn
open Go Go.Sort Go.Proofs
section
variable {c:Aa} {sp:Space} {t:List (List Ab)} {B:Nat}
def wd_ (sp:Space):Option Ag:=some ⟨sp,Xb sp⟩
end
end Go.Pn
namespace Go.Pn
open Go Go.Sort Go.Proofs
theorem dneq {α:Type} [DecidableEq α] [BEq α] [LawfulBEq α] (x y:α):(!decide (x=y))=(x != y):=by
 rw [EK];simp
theorem BY {a b:List (List Ab)} (hl:a.length<=90000) (hx:∀ x∈a,x.length<=10000):m43 FF a b=some (decide (a=b)):=by
 unfold m43;have:=AK (L:=Ry FF a b) (xs:=a) (ys:=b) (f:=FF) (λn z=>by
  rw [Ry];cases decide (z < (a.length:Int)) with
  | false=>rfl
  | true=>
   rw [ct_,ct_];cases hq:idx a z with
   | none=>rfl
   | some u=>
    rw [ob_,ob_];cases idx b z with
    | none=>rfl
    | some v=>
     rw [ob_,ob_,Vr (hx u (Um hq)),ob_,dneq]) om_ uF
 refine this.trans (congrArg some ?_);rw [EK];simp
section
variable {c:Aa} {sp:Space}
theorem Lh {i:Nat} {mv:List Int} (hi:idx sp.Moves (i:Int)=some mv) (hl:mv.length<=22) (hr:∀ k∈mv,0<=k/\k < sp.States.length):∀ (n k:Nat),k<=mv.length->mv.length - k < n->Rm sp (i:Int) n (k:Int)=some (.brk (mv.length:Int))
 | 0,_,_,h=>by omega
 | n + 1,k,hk,hn=>by
  rw [Rm,hi,ob_];by_cases hlt:k < mv.length
  ·obtain ⟨h0,h1⟩:=hr mv[k] (DK _);rw [Aj,dt_ hlt,ct_,ob_,Ai,gE_ hlt,ob_,show decide (mv[k] < 0)=false by simp;omega,cf_,ob_,Ai,gE_ hlt,ob_,ob_,show decide (mv[k]>=(sp.States.length:Int))=false by simp;omega,cf_,An om_];exact Lh hi hl hr n (k + 1) om_ om_
  ·obtain rfl:k=mv.length:=by omega
   rw [Aj,df_ om_,cf_]
theorem Li (h:Sq c sp):∀ (n i:Nat),i<=sp.Moves.length->sp.Moves.length - i < n->Ro FF sp n (i:Int)=some (.brk (sp.Moves.length:Int))
 | 0,_,_,h=>by omega
 | n + 1,i,hi,hn=>by
  have hml:=h.ml;have hle:=h.le;rw [Ro];by_cases hlt:i < sp.Moves.length
  ·obtain ⟨h1,h2⟩:=h.rows sp.Moves[i] (DK _);have hx:idx sp.Moves (i:Int)=some sp.Moves[i]:=by rw [Ai,gE_ hlt]
   have e:=Lh hx h1 h2 FF 0 om_ uF;rw [n0] at e;rw [Aj,dt_ hlt,ct_,e,ob_];dsimp only;rw [An om_];exact Li h n (i + 1) om_ om_
  ·obtain rfl:i=sp.Moves.length:=by omega
   rw [Aj,df_ om_,cf_]
theorem BP (h:Sq c sp):m76 FF sp=some 0:=by
 have hml:=h.ml;have hle:=h.le;have hp:=h.pos;have e:=Li h FF 0 om_ uF;rw [n0] at e;unfold m76;rw [show ((sp.States.length:Int) == 0)=false by rw [beq_eq_false_iff_ne];omega,cf_,show decide ((sp.States.length:Int) > 16384)=false by simp;omega,cf_,show ((sp.Moves.length:Int) != (sp.States.length:Int))=false by rw [hml];simp,cf_,e];rfl
theorem pboth (h:Sq c sp) {path:List Int} (hl:path.length<=10000):∀ (n k:Nat) (i:Int),k<=path.length->path.length - k < n->0<=i->i < sp.States.length ->
  (Oa sp path n (i,(k:Int))=some (.ret (0,6))/\Ny sp path n (i,(k:Int))=some (.ret (0,6)))\/(∃ z z',Oa sp path n (i,(k:Int))=some (.brk z)/\Ny sp path n (i,(k:Int))=some (.brk z')/\Vp_ sp i (path.drop k))
 | 0,_,_,_,h,_,_=>by omega
 | n + 1,k,i,hk,hn,h0,h1=>by
  rw [Oa,Ny];dsimp only;by_cases hlt:k < path.length
  ·obtain ⟨mv,m1,m2,m3,m4,m5⟩:=idx_mv h h0 h1;have hx:idx path (k:Int)=some path[k]:=by rw [Ai,gE_ hlt]
   rw [Aj,dt_ hlt,ct_,ct_,hx,ob_,ob_,m1,ob_,ob_,ob_,ob_,DH hlt];generalize path[k]=x;by_cases hx:x < 0
   ·rw [dt_ hx];exact .inl ⟨rfl,rfl⟩
   ·rw [df_ hx];simp only [cf_,ob_];by_cases hx2:x>=(mv.length:Int)
    ·rw [dt_ hx2];exact .inl ⟨rfl,rfl⟩
    ·rw [df_ hx2];simp only [cf_];obtain ⟨j,hj,hjm⟩:=Dv (xs:=mv) (i:=x) om_ om_;obtain ⟨j0,j1⟩:=m5 j hjm;rw [hj];simp only [ob_];rw [An om_];rcases pboth h hl n (k + 1) j om_ om_ j0 j1 with e | ⟨z,z',e,e',hv⟩
     ·exact .inl e
     ·exact .inr ⟨z,z',e,e',mv,j,m1,hj,hv⟩
  ·rw [Aj,df_ hlt,cf_,cf_];refine .inr ⟨_,_,rfl,rfl,?_⟩;rw [DN om_];trivial
theorem Fy (h:Sq c sp) {path:List Int} (hl:path.length<=10000):∀ (n k:Nat) (i:Int) (acc:List (List Ab)),k<=path.length->path.length - k < n->0<=i->i < sp.States.length->Vp_ sp i (path.drop k)->acc.length<=k ->
  ∃ z z' t,Rx FF sp path n (i,(k:Int),acc)=some (z,z',acc ++ t)/\AZ sp i (path.drop k) t
 | 0,_,_,_,_,h,_,_,_,_=>by omega
 | n + 1,k,i,acc,hk,hn,h0,h1,hv,ha=>by
  rw [Rx];dsimp only;by_cases hlt:k < path.length
  ·rw [DH hlt] at hv ⊢;obtain ⟨mv,j,v1,v2,v3⟩:=hv;have hi:i=((i.toNat:Nat):Int):=by omega
   have v1':sp.Moves[i.toNat]?=some mv:=by rw [hi,Ai] at v1;exact v1
   have hb:m78 FF sp i=some (mv.map (lab sp i)):=by
    have:=BN h v1';rw [← hi] at this;exact this
   obtain ⟨b0,b1⟩:=Un v2;have hlb:idx (mv.map (lab sp i)) path[k]=some (lab sp i j):=by
    have e:path[k]=((path[k].toNat:Nat):Int):=by omega
    rw [e,Ai] at v2 ⊢;rw [DX,v2];rfl
   obtain ⟨j0,j1⟩:=(h.rows mv (DP v1')).2 j (Um v2);have hx:idx path (k:Int)=some path[k]:=by rw [Ai,gE_ hlt]
   rw [Aj,dt_ hlt,ct_,hb,ob_,hx,ob_,hlb,ob_];by_cases he:lab sp i j=[]
   ·rw [he,show decide ((([]:List Ab).length:Int) > 0)=false from rfl,cf_,ob_,v1,ob_,ob_,v2,ob_,An om_];obtain ⟨z,z',t,e1,e2⟩:=Fy h hl n (k + 1) j acc om_ om_ j0 j1 v3 om_;exact ⟨z,z',t,e1,mv,j,t,v1,v2,by rw [if_pos he],e2⟩
   ·have hg:decide (((lab sp i j).length:Int) > 0)=true:=by
     cases hq:lab sp i j with
     | nil=>exact (he hq).elim
     | cons y ys=>simp
    rw [hg,ct_,Aw so_,ob_,ob_,v1,ob_,ob_,v2,ob_,An om_];obtain ⟨z,z',t,e1,e2⟩:=Fy h hl n (k + 1) j (acc ++ [lab sp i j]) om_ om_ j0 j1 v3 so_;refine ⟨z,z',lab sp i j :: t,?_,mv,j,t,v1,v2,by rw [if_neg he],e2⟩;rw [e1,D2];rfl
  ·rw [Aj,df_ hlt,cf_];refine ⟨_,_,[],by rw [EF],?_⟩;rw [DN om_];rfl
theorem paths {s0:Ac} {path:List Int} (h:Sq c sp) (hS:Sp_ c s0 sp) (hl:path.length<=10000) :
  (m40 FF (wd_ sp) path=some ([],6)/\m45 FF sp path=some (0,6))\/∃ t j,m40 FF (wd_ sp) path=some (t,0)/\m45 FF sp path=some (j,0)/\m47 FF sp path=some t/\AZ sp 0 path t:=by
 have hml:=h.ml;have hle:=h.le;have hpos:=h.pos;have h103:m61 FF sp=some 0:=by
  rw [BV uF om_ (λl hl=>by have:=(h.rows l hl).1;unfold FF;omega),hS.shp h.bd]
 have hb:=pboth h hl FF 0 0 om_ uF om_ om_;rw [n0,DM] at hb;unfold m40 m45 m31 wd_;rw [ob_];dsimp only;rw [h103,ob_,BP h,ob_,zf_,cf_,cf_];rcases hb with ⟨e,e'⟩ | ⟨z,z',e,e',hv⟩
 ·rw [e,e'];exact .inl ⟨rfl,rfl⟩
 ·obtain ⟨z1,z2,t,e1,e2⟩:=Ga h (path:=path) hl FF 0 0 [] om_ uF om_ om_ (by rw [DM];exact hv) smp_;obtain ⟨y1,y2,t',e3,e4⟩:=Fy h (path:=path) hl FF 0 0 [] om_ uF om_ om_ (by rw [DM];exact hv) smp_;rw [n0,FM] at e1 e3;rw [DM] at e2 e4;obtain rfl:=e4.uniq e2;refine .inr ⟨t',z'.1,?_,?_,?_,e2⟩
  ·rw [e,ob_];dsimp only;rw [ob_];dsimp only;rw [zf_,cf_,e1];rfl
  ·rw [e'];rfl
  ·unfold m47;rw [e3];rfl
theorem AZ.labs (h:Sq c sp):∀ {p:List Int} {i:Int} {t:List (List Ab)},AZ sp i p t->∀ a∈t,a.length<=6
 | [],_,t,ht=>by
  have ht:t=[]:=ht;subst ht;simp
 | k :: p,i,t,⟨mv,j,t',h1,h2,h3,h4⟩=>by
  obtain ⟨i0,i1⟩:=Un h1;have h5:=(CV (to:=j) h i0 (by have:=h.ml;omega)).2;have h6:=h4.labs h;intro a ha;rw [h3] at ha;split at ha
  ·exact h6 a ha
  ·rcases D0.1 ha with rfl | ha
   ·exact h5
   ·exact h6 a ha
end
end Go.Pn
namespace Go.Pn
open Go Go.Sort Go.Proofs
theorem awk:m10 FF=some true:=awkF
section
variable {c:Aa} {held:List Bool} {sp:Space}
theorem m39_wd (h:Sq c sp) (hx:m30 FF c held=some (sp,0)):m39 FF c held=some (wd_ sp,0):=B0 h hx
theorem m39_err {e:Int} (he:e≠0) (hx:m30 FF c held=some (sp,e)):m39 FF c held=some (none,e):=by
 unfold m39;rw [hx,ob_];dsimp only;rw [nbb he,ct_]
def Dif (t1 t2:List (List Ab)):Prop:=∃ u a b,t1=u ++ [a]/\t2=u ++ [b]/\a≠b
theorem Tu (t1 t2:List (List Ab)):t1=[]\/(∃ u a,t1=u ++ [a]/\(t2.length≠t1.length\/∃ v b,t2=v ++ [b]/\v.length=u.length)):=by
 by_cases h:t1=[]
 ·exact .inl h
 ·obtain ⟨u,a,e⟩:=Ua h;refine .inr ⟨u,a,e,?_⟩;by_cases hl:t2.length=t1.length
  ·refine .inr ?_;have h2:t2≠[]:=λe2=>by
    rw [e2] at hl;exact h (FR.1 hl.symm)
   obtain ⟨v,b,e2⟩:=Ua h2;refine ⟨v,b,e2,?_⟩;rw [e,e2] at hl;simpa using hl
  ·exact .inl hl
theorem Xe {u:List (List Ab)} {a:List Ab} (h:u.length<=10000):wr (((u ++ [a]).length:Int) - 1)=(u.length:Int):=by
 rw [DB,List.length_singleton,Aq om_ om_];omega
theorem AN {u v:List (List Ab)} {a b:List Ab} (h:v.length=u.length):Dif (u ++ [a]) (v ++ [b])↔u=v/\a≠b:=by
 constructor
 ·rintro ⟨w,x,y,h1,h2,h3⟩;obtain ⟨rfl,h4⟩:=List.append_inj' h1 rfl;obtain ⟨h6,h5⟩:=List.append_inj' h2 rfl;obtain rfl:a=x:=by simpa using h4
  obtain rfl:b=y:=by simpa using h5
  exact ⟨h6.symm,h3⟩
 ·rintro ⟨rfl,h1⟩;exact ⟨u,a,b,rfl,rfl,h1⟩
theorem Kx {u:List (List Ab)} {a:List Ab}:lsl (u ++ [a]) 0 (u.length:Int)=some u:=by
 rw [B5 smp_,HB];rfl
theorem Ky {u:List (List Ab)} {a:List Ab}:idx (u ++ [a]) (u.length:Int)=some a:=by
 rw [Ai,D1 (DW _)];simp
theorem B4 {t1 t2:List (List Ab)} (h1:t1.length<=10000) (hl:∀ a∈t1,a.length<=6) :
  ∃ d:Bool,(d=true↔Dif t1 t2)/\((bif ((decide ((wr ((t1.length:Int) - 1)) < 0)) || ((t2.length:Int) != (t1.length:Int))) then some true else (lsl t1 0 (wr ((t1.length:Int) - 1))).bind λx4=>(lsl t2 0 (wr ((t1.length:Int) - 1))).bind λx5=>(m43 FF x4 x5).bind λx6=>some (!x6)).bind λr7=>(bif r7 then some true else (idx t1 (wr ((t1.length:Int) - 1))).bind λx8=>(idx t2 (wr ((t1.length:Int) - 1))).bind λx9=>(m41 FF x8 x9).bind λx10=>some x10).bind λr11=>(bif r11 then some (15:Int) else some (0:Int)))=some (bif d then 0 else 15):=by
 rcases Tu t1 t2 with rfl | ⟨u,a,rfl,h2⟩
 ·refine ⟨false,?_,rfl⟩;simp [Dif]
 ·have hu:u.length<=10000:=by simp at h1;omega
  rw [Xe hu];rcases h2 with h2 | ⟨v,b,rfl,h2⟩
  ·refine ⟨false,?_,?_⟩
   ·simp only [Bool.false_eq_true,false_iff];rintro ⟨w,x,y,e1,e2,_⟩;rw [e1,e2] at h2;simp at h2
   ·rw [show (((t2.length:Int)) != ((u ++ [a]).length:Int))=true by rw [bne_iff_ne];omega,Bool.or_true];rfl
  ·have hla:a.length<=10000:=by
    have:=hl a smp_;omega
   have hlu:∀ x∈u,x.length<=10000:=λx hx=>by
    have:=hl x (DV _ hx);omega
   rw [show decide ((u.length:Int) < 0)=false by simp,EW,show (((v ++ [b]).length:Int) != ((u ++ [a]).length:Int))=false by simp [h2],cf_,Kx,ob_,← h2,Kx,ob_,BY om_ hlu,ob_,ob_,Ky];refine ⟨decide (u=v/\a≠b),?_,?_⟩
   ·rw [decide_eq_true_eq,AN h2]
   ·by_cases huv:u=v
    ·subst huv;rw [Ky,ob_,ob_,Vr hla,ob_];by_cases hab:a=b
     ·simp [hab]
     ·simp [hab]
    ·simp [huv]
theorem BX {t1 t2:List (List Ab)} (h1:t1.length<=10000) (hl:∀ a∈t1,a.length<=6) {v:Pair} (e1:m47 FF sp v.First=some t1) (e2:m47 FF sp v.Second=some t2) :
  ∃ d:Bool,(d=true↔Dif t1 t2)/\m46 FF sp v=some d:=by
 unfold m46;rw [e1,ob_,e2,ob_];rcases Tu t1 t2 with rfl | ⟨u,a,rfl,h2⟩
 ·refine ⟨false,?_,rfl⟩;simp [Dif]
 ·have hu:u.length<=10000:=by simp at h1;omega
  rw [Xe hu];rcases h2 with h2 | ⟨v,b,rfl,h2⟩
  ·refine ⟨false,?_,?_⟩
   ·simp only [Bool.false_eq_true,false_iff];rintro ⟨w,x,y,e1,e2,_⟩;rw [e1,e2] at h2;simp at h2
   ·rw [show (((t2.length:Int)) != ((u ++ [a]).length:Int))=true by rw [bne_iff_ne];omega,Bool.or_true];rfl
  ·have hla:a.length<=10000:=by
    have:=hl a smp_;omega
   have hlu:∀ x∈u,x.length<=90000:=λx hx=>by
    have:=hl x (DV _ hx);omega
   rw [show (((u ++ [a]).length:Int) == 0)=false by rw [beq_eq_false_iff_ne];simp;omega,EW,show (((v ++ [b]).length:Int) != ((u ++ [a]).length:Int))=false by simp [h2],cf_,Kx,ob_,← h2,Kx,ob_,B3 om_ hlu,ob_,Ky];refine ⟨decide (u=v/\a≠b),?_,?_⟩
   ·rw [decide_eq_true_eq,AN h2]
   ·by_cases huv:u=v
    ·subst huv;rw [Ky,ob_,ob_,BO hla,ob_,dt_ rfl,ct_,ob_];have:(A0 (lcs a b) != 0)=decide (a≠b):=by
      rw [EK,bne_iff_ne,decide_eq_true_eq];have h5:A0 (lcs a b)=0↔lcs a b=0:=by unfold A0; split <;> (try split) <;> omega
      rw [ne_eq,h5,Eu]
     rw [this];simp
    ·simp [huv]
theorem CG {d d':Bool} {P:Prop} (h:d=true↔P) (h':d'=true↔P):d=d':=by
 rw [EK,h,h']
theorem m11_m12 (hb:m35 FF c held=some true) {v:Pair} (h1:v.First.length<=10000) (h2:v.Second.length<=10000):∃ e,m11 FF c held v=some e/\Zj FF c held v=some e:=by
 unfold m11 Zj;rcases CB hb with ⟨e,he,k1,k2⟩ | ⟨sp,hq,⟨s0,hS⟩,k1,k2⟩
 ·rw [m39_err he k1,ob_,k2,ob_];dsimp only;rw [nbb he,ct_,ct_];exact ⟨e,rfl,rfl⟩
 ·rw [m39_wd hq k1,ob_,k2,ob_];dsimp only;rw [zf_,cf_,cf_];rcases paths hq hS h1 with ⟨a1,a2⟩ | ⟨t1,j1,a1,a2,a3,a4⟩
  ·rw [a1,a2];exact ⟨6,rfl,rfl⟩
  ·rw [a1,ob_,a2,ob_];dsimp only;rw [zf_,cf_,cf_];rcases paths hq hS h2 with ⟨b1,b2⟩ | ⟨t2,j2,b1,b2,b3,b4⟩
   ·rw [b1,b2];exact ⟨6,rfl,rfl⟩
   ·rw [b1,ob_,b2,ob_];dsimp only;rw [zf_,cf_,cf_];obtain ⟨d,d1,d2⟩:=B4 (t2:=t2) (by have:=a4.len;omega) (a4.labs hq);obtain ⟨d',d3,d4⟩:=BX (t2:=t2) (by have:=a4.len;omega) (a4.labs hq) a3 b3;obtain rfl:=CG d1 d3;rw [d4,ob_];refine ⟨_,d2,?_⟩;cases d <;> rfl
theorem m3_law (c:Aa) (held:List Bool) (v:Pair) (hv:v.First.length + v.Second.length < 4611686018427387904):m3 FF c held v=some true:=by
 obtain ⟨b,hb,hb'⟩:=m9_spec c held;unfold m3;rw [hb,ob_,Aq om_ om_];cases b with
 | false=>rw [show (!false || decide (((v.First.length:Int) + (v.Second.length:Int)) > 200))=true from rfl,ct_,awk,ob_]
 | true=>
  rw [nt_,EW];by_cases hl:((v.First.length:Int) + (v.Second.length:Int)) > 200
  ·rw [dt_ hl,ct_,awk,ob_]
  ·rw [df_ hl,cf_];obtain ⟨e,e1,e2⟩:=m11_m12 (hb' rfl) (v:=v) om_ om_;rw [e1,ob_,e2,ob_,beq_self_eq_true,ct_,awk];rfl
end
end Go.Pn

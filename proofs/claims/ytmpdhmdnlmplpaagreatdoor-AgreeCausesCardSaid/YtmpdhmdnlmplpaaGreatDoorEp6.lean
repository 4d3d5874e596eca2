import Derived.Test.YtmpdhmdnlmplpaaGreatDoorEp5
set_option synthInstance.checkSynthOrder false
set_option synthInstance.maxSize 10000
set_option synthInstance.maxHeartbeats 400000
set_option maxRecDepth 100000
set_option maxHeartbeats 4000000
set_option linter.unusedVariables false
set_option linter.unusedSimpArgs false
set_option linter.defProp false
namespace Go.Pn
open Go
theorem AW {β:Type} {L:Nat->Int->Option (Lo Int β)} {N:Nat} {Q:Nat->Bool} {r:Int->β}
  (h:∀ (n i:Nat),i < N->L (n + 1) (i:Int)=bif Q i then some (.ret (r (i:Int))) else L n ((i + 1:Nat):Int)) (h':∀ (n:Nat),L (n + 1) (N:Int)=some (.brk (N:Int))) :
  ∀ (n i:Nat),i<=N->N - i < n->(∃ k,i<=k/\k < N/\Q k=true/\L n (i:Int)=some (.ret (r (k:Int))))\/(L n (i:Int)=some (.brk (N:Int))/\∀ k,i<=k->k < N->Q k=false)
 | 0,i,_,h=>by omega
 | n + 1,i,h1,h2=>by
  by_cases hi:i < N
  ·rw [h n i hi];cases hq:Q i with
   | true=>exact .inl ⟨i,HB _,hi,hq,rfl⟩
   | false=>
    rw [cf_];rcases AW h h' n (i + 1) om_ om_ with ⟨k,h3,h4,h5,h6⟩ | ⟨h3,h4⟩
    ·exact .inl ⟨k,by omega,h4,h5,h6⟩
    ·refine .inr ⟨h3,λk hk hk2=>?_⟩;rcases LG hk with rfl | h5
     ·exact hq
     ·exact h4 k h5 hk2
  ·obtain rfl:i=N:=by omega
   exact .inr ⟨h' n,λk hk hk2=>by omega⟩
def Uk (b:UInt8):Bool:=decide (97<=b.toNat) && decide (b.toNat<=122)
def FL (b:UInt8):Bool:=decide (65<=b.toNat) && decide (b.toNat<=90)
def FR (b:UInt8):Bool:=decide (48<=b.toNat) && decide (b.toNat<=57)
def Di (b:UInt8):Bool:=Uk b || FL b || FR b || (b.toNat == 95)
def wd (s:NA):Bool:=match s.data.toList with
 | []=>false
 | b :: l=>Uk b && (b :: l).all Di
theorem Bb (s:NA):s.size=s.data.toList.length:=rfl
theorem Yd {s:NA} {i:Nat} (h:i < s.data.toList.length):Wz s (i:Int)=some s.data.toList[i]:=by
 unfold Wz;rw [if_pos om_,HO];have h1:i < s.size:=by rw [Bb];exact h
 rw [getElem?_pos s i h1];congr 1
theorem GK {s:NA} {i:Nat} (h:i < s.data.toList.length):(s.data.toList[i].toNat < 128->Utf8.decode s i=(s.data.toList[i].toNat,1))/\(128<=s.data.toList[i].toNat->128<=(Utf8.decode s i).1):=by
 have hg:s.get! (i + 0)=s.data.toList[i]:=by
  have h1:i < s.data.size:=by simpa using h
  show s.data[i + 0]! = _;rw [KU,getElem!_pos s.data i h1];simp
 constructor
 ·intro hb;unfold Utf8.decode;simp only [hg];rw [if_pos om_]
 ·intro hb;unfold Utf8.decode;simp only [hg];rw [if_neg om_];split
  ·split
   ·rename_i hx;exact hx
   ·decide
  ·split
   ·split
    ·rename_i hx;simp only [G2,decide_eq_true_eq] at hx;exact HP (by decide) hx.1
    ·decide
   ·split
    ·split
     ·rename_i hx;simp only [G2,decide_eq_true_eq] at hx;exact HP (by decide) hx.1
     ·decide
    ·decide
theorem u8n {n:Nat} (hn:n < 256):(UInt8.ofNat n).toNat=n:=by
 rw [UInt8.toNat_ofNat'];omega
theorem CT (f:Nat) (b:UInt8):PB f b=some (Di b):=by
 unfold PB Di Uk FL FR;simp only [u8n (show 97 < 256 by omega),u8n (show 122 < 256 by omega),u8n (show 65 < 256 by omega),u8n (show 90 < 256 by omega),u8n (show 48 < 256 by omega),u8n (show 57 < 256 by omega),u8n (show 95 < 256 by omega)];congr 1;rw [H8];simp;omega
theorem Tc {b:UInt8} (h:Di b=true):b.toNat<=122:=by
 unfold Di Uk FL FR at h;simp at h;omega
theorem CU {f:Nat} {s:NA} {i:Nat} (h:i < s.data.toList.length):PC f (srn s (i:Int))=some (!Di s.data.toList[i]):=by
 obtain ⟨h1,h2⟩:=GK h;unfold PC srn;rw [HO];simp only [Ik.toI];by_cases hb:s.data.toList[i].toNat < 128
 ·rw [h1 hb];dsimp only;by_cases hc:((s.data.toList[i].toNat:Nat):Int) > 122
  ·rw [dt_ hc,ct_];have:Di s.data.toList[i]=false:=by
    cases hp:Di s.data.toList[i] with
    | false=>rfl
    | true=>have:=Tc hp;omega
   rw [this];rfl
  ·rw [df_ hc,cf_];have:(Ik.ofI ((s.data.toList[i].toNat:Nat):Int):UInt8)=s.data.toList[i]:=by
    show wr8 _=_;unfold wr8;refine UInt8.toNat_inj.1 ?_;rw [UInt8.toNat_ofNat'];omega
   rw [this,CT];rfl
 ·have h3:=h2 om_;rw [dt_ so_,ct_];have:Di s.data.toList[i]=false:=by
   cases hp:Di s.data.toList[i] with
   | false=>rfl
   | true=>have:=Tc hp;omega
  rw [this];rfl
theorem Sv {α:Type} {l:List α} {p:α->Bool}:l.any p=true↔∃ i,∃ h:i < l.length,p l[i]=true:=by
 rw [HU];constructor
 ·rintro ⟨x,hx,h⟩;obtain ⟨i,hi,rfl⟩:=List.getElem_of_mem hx;exact ⟨i,hi,h⟩
 ·rintro ⟨i,hi,h⟩;exact ⟨_,G1 hi,h⟩
theorem CV {f:Nat} {s:NA} (hs:s.size < f) (hs2:s.size < 1000000):PX f s=some (s.data.toList.any λb=>!Di b):=by
 rw [Bb] at hs hs2;unfold PX PW PV;have hl:=AW (L:=Kt f s true) (N:=s.data.toList.length) (Q:=λi=>if h:i < s.data.toList.length then !Di s.data.toList[i] else false) (r:=λz=>z) (λn i hi=>by
  rw [Kt,Bb,Aj,dt_ hi,ct_,CU hi,ob_,dif_pos hi];cases hp:Di s.data.toList[i] with
  | true=>
   rw [show ((!true) == true)=false by rfl,cf_];have:snx s (i:Int)=((i + 1:Nat):Int):=by
    unfold snx;rw [if_pos (by rw [Bb];omega),HO,(GK hi).1 (by have:=Tc hp;omega)];rfl
   rw [this];rfl
  | false=>rfl) (λn=>by
  rw [Kt,Bb,Aj,df_ om_,cf_];unfold snx;rw [if_neg (by rw [Bb];omega)]) f 0 om_ om_
 rw [n0] at hl;rcases hl with ⟨k,_,hk,hq,h⟩ | ⟨h,hn⟩
 ·rw [h];rw [dif_pos hk] at hq;rw [Sv.2 ⟨k,hk,hq⟩];simp only [ob_];rw [dt_ om_]
 ·rw [h];have:(s.data.toList.any λb=>!Di b)=false:=by
   rw [M5];intro ha;obtain ⟨i,hi,h2⟩:=Sv.1 ha;have:=hn i om_ hi;rw [dif_pos hi,h2] at this;cases this
  rw [this];rfl
theorem CO {f:Nat} {s:NA} (hs:s.size < f) (hs2:s.size < 1000000):OG f s=some (wd s):=by
 rw [Bb] at hs hs2;unfold OG;have hl:=AW (L:=Kv s) (N:=s.data.toList.length) (Q:=λi=>if h:i < s.data.toList.length then (i == 0 && !Uk s.data.toList[i]) || !Di s.data.toList[i] else false) (r:=λ_=>false) (λn i hi=>by
  rw [Kv,Bb,Aj,dt_ hi,ct_];simp only [Yd hi,ob_,cs_,u8n (show 97 < 256 by omega),u8n (show 122 < 256 by omega),u8n (show 65 < 256 by omega),u8n (show 90 < 256 by omega),u8n (show 48 < 256 by omega),u8n (show 57 < 256 by omega),u8n (show 95 < 256 by omega)];rw [dif_pos hi,Am om_];congr 1;rw [H8];unfold Di Uk FL FR;simp;generalize s.data.toList[i].toNat=b;omega) (λn=>by
  rw [Kv,Bb,Aj,df_ om_,cf_]) f 0 om_ om_
 rw [n0] at hl;have hemp:(s.toList == (⟨#[]⟩:NA).toList)=(s.data.toList == []):=by
  rw [ByteArray.toList_eq,ByteArray.toList_eq]
 rcases hl with ⟨k,_,hk,hq,h⟩ | ⟨h,hn⟩
 ·rw [h,ob_];rw [dif_pos hk] at hq;dsimp only;congr 1
  symm
  unfold wd;cases hd:s.data.toList with
  | nil=>rfl
  | cons b l=>
   have hk':k < (b :: l).length:=by rw [← hd];exact hk
   have hg:s.data.toList[k]=(b :: l)[k]:=by simp [hd]
   rw [hg] at hq;dsimp only;rw [K3];rcases Bool.or_eq_true_iff.1 hq with h1 | h1
   ·left;obtain ⟨h2,h3⟩:=Bool.and_eq_true_iff.1 h1;obtain rfl:k=0:=by simpa using h2
    simpa using h3
   ·right;exact List.all_eq_false.2 ⟨_,G1 hk',by simpa using h1⟩
 ·rw [h,ob_,hemp];dsimp only;congr 1;unfold wd;cases hd:s.data.toList with
  | nil=>rfl
  | cons b l=>
   have hb:∀ (k:Nat) (hk:k < (b :: l).length),((k == 0 && !Uk (b :: l)[k]) || !Di (b :: l)[k])=false:=by
    intro k hk;have hk':k < s.data.toList.length:=by rw [hd];exact hk
    have:=hn k om_ hk';rw [dif_pos hk'] at this;have hg:s.data.toList[k]=(b :: l)[k]:=by simp [hd]
    rw [hg] at this;exact this
   have h1:=hb 0 smp_;simp at h1;dsimp only;rw [h1.1,JJ];have:(b :: l).all Di=true:=by
    rw [G5];intro x hx;obtain ⟨i,hi,rfl⟩:=List.getElem_of_mem hx;have:=hb i hi;rw [KS] at this;simpa using this.2
   rw [this];rfl
def fx (i:Nat):NA:=⟨#[UInt8.ofNat (97 + i / 2),UInt8.ofNat (48 + i % 2)]⟩
def cA (c:Aa):Nat:=c.Actuators.toNat
def cS (c:Aa):Nat:=2 * cA c + c.Inputs.length
def cL (c:Aa):Nat:=cS c + c.Signals.length
def nmF (c:Aa) (i:Nat):NA:=if i < 2 * cA c then fx i else if i < cS c then c.Inputs.getD (i - 2 * cA c) ⟨#[]⟩ else ((c.Signals[i - cS c]?).map (·.Name)).getD ⟨#[]⟩
structure Bd_ (c:Aa):Prop where
 a1:1<=c.Actuators
 a6:c.Actuators<=6
 i:c.Inputs.length<=16
 s:c.Signals.length<=16
theorem Bd_.a {c:Aa} (h:Bd_ c):c.Actuators=(cA c:Int):=by
 have:=h.a1;unfold cA;omega
theorem Bd_.a' {c:Aa} (h:Bd_ c):1<=cA c/\cA c<=6:=by
 have:=h.a1;have:=h.a6;unfold cA;omega
theorem Bd_.wa {c:Aa} (h:Bd_ c):wr ((2:Int) * c.Actuators)=((2 * cA c:Nat):Int):=by
 have:=h.a;have:=h.a';rw [As om_ om_];omega
theorem Ff {f:Nat} {c:Aa} (h:Bd_ c):NX f c=some (cS c:Int):=by
 have:=h.a';have:=h.i;unfold NX;rw [h.wa,As om_ om_];unfold cS;congr 1
theorem Jj {f:Nat} {c:Aa} (h:Bd_ c):O8 f c=some (cS c:Int):=Ff (f:=f) h
theorem Fe {f:Nat} {c:Aa} (h:Bd_ c):NM f c=some (cL c:Int):=by
 have:=h.a';have:=h.i;have:=h.s;unfold NM;have e:wr (((2 * cA c:Nat):Int) + (c.Inputs.length:Int))=((2 * cA c:Nat):Int) + (c.Inputs.length:Int):=As om_ om_;rw [h.wa,e,As om_ om_];unfold cL cS;congr 1
theorem Pv {f:Nat} {c:Aa} (h:Bd_ c):PD f c=some (cL c:Int):=by
 have:=h.a';have:=h.i;have:=h.s;unfold PD;rw [Jj h,ob_,As (by unfold cS;omega) (by unfold cS;omega)];unfold cL;congr 1
theorem A0:((List.range 12).all λi=>decide (((ssl (⟨#[97,98,99,100,101,102]⟩:NA) (wr ((i:Int).tdiv (2:Int))) (wr ((wr ((i:Int).tdiv (2:Int))) + 1))).bind λx1=>(ssl (⟨#[48,49]⟩:NA) ((i:Int).tmod (2:Int)) (wr (((i:Int).tmod (2:Int)) + 1))).bind λx2=>(cat x1 x2).bind λx3=>some x3)=some (fx i)))=true:=by kernel_rfl
theorem ref_fx:∀ i:Nat,i < 12->((ssl (⟨#[97,98,99,100,101,102]⟩:NA) (wr ((i:Int).tdiv (2:Int))) (wr ((wr ((i:Int).tdiv (2:Int))) + 1))).bind λx1=>(ssl (⟨#[48,49]⟩:NA) ((i:Int).tmod (2:Int)) (wr (((i:Int).tmod (2:Int)) + 1))).bind λx2=>(cat x1 x2).bind λx3=>some x3)=some (fx i):=λi h=>of_decide_eq_true (G5.1 A0 i (HC.2 h))
theorem A3:((List.range 12).all λi=>decide (((cat (Dx (Ik.toI (Ik.ofI (Ik.toI (wr ((97:Int) + (wr ((i:Int).tdiv (2:Int)))))):Kd .i32))) (Dx (Ik.toI (Ik.ofI (Ik.toI (wr ((48:Int) + ((i:Int).tmod (2:Int))))):Kd .i32)))).bind λx2=>some x2)=some (fx i)))=true:=by kernel_rfl
theorem pro_fx:∀ i:Nat,i < 12->((cat (Dx (Ik.toI (Ik.ofI (Ik.toI (wr ((97:Int) + (wr ((i:Int).tdiv (2:Int)))))):Kd .i32))) (Dx (Ik.toI (Ik.ofI (Ik.toI (wr ((48:Int) + ((i:Int).tmod (2:Int))))):Kd .i32)))).bind λx2=>some x2)=some (fx i):=λi h=>of_decide_eq_true (G5.1 A3 i (HC.2 h))
theorem Vz {f:Nat} {c:Aa} (h:Bd_ c) {i:Nat} (hi:i < cL c):OE f c (i:Int)=some (nmF c i):=by
 have h1:=h.a';have h2:=h.i;have h3:=h.s;have hS:cS c=2 * cA c + c.Inputs.length:=rfl;have hL:cL c=cS c + c.Signals.length:=rfl;unfold OE nmF;rw [h.wa,Aj];by_cases h4:i < 2 * cA c
 ·rw [dt_ h4,ct_,if_pos h4];exact ref_fx i om_
 ·rw [df_ h4,cf_,if_neg h4,Ff h,ob_,Aj];by_cases h5:i < cS c
  ·rw [dt_ h5,ct_,if_pos h5,As om_ om_,show (i:Int) - ((2 * cA c:Nat):Int)=((i - 2 * cA c:Nat):Int) by omega,Ai,gE_ om_];simp [gE_ (show i - 2 * cA c < c.Inputs.length by omega)]
  ·rw [df_ h5,cf_,if_neg h5,ob_,As om_ om_,show (i:Int) - (cS c:Int)=((i - cS c:Nat):Int) by omega,Ai,gE_ om_];rfl
theorem C6 {f:Nat} {c:Aa} (h:Bd_ c) {i:Nat} (hi:i < cL c):PA f c (i:Int)=some (nmF c i):=by
 have h1:=h.a';have h2:=h.i;have h3:=h.s;have hS:cS c=2 * cA c + c.Inputs.length:=rfl;have hL:cL c=cS c + c.Signals.length:=rfl;unfold PA nmF;rw [Jj h,ob_,h.wa,Aj];by_cases h4:i < 2 * cA c
 ·rw [dt_ h4,ct_,if_pos h4];exact pro_fx i om_
 ·rw [df_ h4,cf_,if_neg h4,Aj];by_cases h5:i < cS c
  ·rw [dt_ h5,ct_,if_pos h5,As om_ om_,show (i:Int) - ((2 * cA c:Nat):Int)=((i - 2 * cA c:Nat):Int) by omega,Ai,gE_ om_];simp [gE_ (show i - 2 * cA c < c.Inputs.length by omega)]
  ·rw [df_ h5,cf_,if_neg h5,As om_ om_,show (i:Int) - (cS c:Int)=((i - cS c:Nat):Int) by omega,Ai,gE_ om_];rfl
def nme (c:Aa) (i:Nat):Int:=if wd (nmF c i) then (if (nmF c i).size > 24 then 17 else if (List.range i).any (λj=>(nmF c j).data.toList == (nmF c i).data.toList) then 7 else 0) else 3
theorem Wf {f:Nat} {c:Aa} (h:Bd_ c) {i:Nat} (hi:i < cL c) (hn:(nmF c i).size<=200) (hf:600<=f):OH f c (i:Int)=some (nme c i):=by
 have h1:=h.a';have h2:=h.i;have h3:=h.s;have hS:cS c=2 * cA c + c.Inputs.length:=rfl;have hL:cL c=cS c + c.Signals.length:=rfl;unfold OH nme;rw [Vz h hi,ob_,CO om_ om_,ob_];cases hw:wd (nmF c i) with
 | false=>rfl
 | true=>
  rw [nt_,cf_,if_pos rfl];by_cases h24:(nmF c i).size > 24
  ·rw [dt_ om_,ct_,if_pos h24]
  ·rw [df_ om_,cf_,if_neg h24];have hl:=AW (L:=Kz f c (i:Int) (nmF c i)) (N:=i) (Q:=λj=>(nmF c j).data.toList == (nmF c i).data.toList) (r:=λ_=>7) (λn j hj=>by
    rw [Kz,Aj,dt_ hj,ct_,Vz h om_,ob_,ByteArray.toList_eq,ByteArray.toList_eq,Am om_]) (λn=>by
    rw [Kz,Aj,df_ om_,cf_]) f 0 om_ om_
   rw [n0] at hl;rcases hl with ⟨k,_,hk,hq,h⟩ | ⟨h,hn⟩
   ·rw [h,if_pos (HU.2 ⟨k,HC.2 hk,hq⟩)];rfl
   ·rw [h,if_neg ?_]
    ·rfl
    ·intro ha;obtain ⟨k,hk,h4⟩:=HU.1 ha;have:=hn k om_ (HC.1 hk);rw [this] at h4;cases h4
def AU (c:Aa) (i:Nat) (m:List (NA×Int)):Prop:=∀ s:NA,(mat Rb m s).isSome=(List.range i).any λj=>(nmF c j).data.toList == s.data.toList
theorem Cf {a b:NA}:Rb a b=true↔a=b:=by
 unfold Rb;obtain ⟨⟨x⟩⟩:=a;obtain ⟨⟨y⟩⟩:=b;simp
theorem Tg {m:List (NA×Int)} {k j:NA} {y:Int}:mat Rb (Dy Rb m k y) j=if j=k then some y else mat Rb m j:=by
 induction m with
 | nil=>
  show mat Rb [(k,y)] j=_;rw [Bl];by_cases h:j=k
  ·rw [if_pos (Cf.2 h),if_pos h]
  ·rw [if_neg (λe=>h (Cf.1 e)),if_neg h]
 | cons p m ih=>
  obtain ⟨k',z⟩:=p;rw [Np,Bl];by_cases h:k=k'
  ·subst h;rw [if_pos (Cf.2 rfl),Bl];by_cases h2:j=k
   ·rw [if_pos (Cf.2 h2),if_pos h2]
   ·rw [if_neg (λe=>h2 (Cf.1 e)),if_neg h2,if_neg (λe=>h2 (Cf.1 e))]
  ·rw [if_neg (λe=>h (Cf.1 e)),Bl,ih];by_cases h2:j=k'
   ·subst h2;rw [if_pos (Cf.2 rfl),if_neg (λe=>h e.symm),if_pos (Cf.2 rfl)]
   ·rw [if_neg (λe=>h2 (Cf.1 e)),if_neg (λe=>h2 (Cf.1 e))]
theorem AU.zero (c:Aa):AU c 0 []:=λs=>rfl
theorem AU.put {c:Aa} {i:Nat} {m:List (NA×Int)} (h:AU c i m) (y:Int):AU c (i + 1) (Dy Rb m (nmF c i) y):=by
 intro s;rw [Tg,List.range_succ,List.any_append];by_cases e:s=nmF c i
 ·rw [if_pos e,e];simp
 ·rw [if_neg e,h s];have:((nmF c i).data.toList == s.data.toList)=false:=by
   cases hb:((nmF c i).data.toList == s.data.toList) with
   | false=>rfl
   | true=>exact absurd (Cf.1 hb).symm e
  rw [L7,List.any_nil,KN,this,KN]
theorem Wi {f:Nat} {c:Aa} (h:Bd_ c) {i:Nat} (hn:(nmF c i).size<=200) (hf:600<=f) {m:List (NA×Int)} (hm:AU c i m) (a b c' d e) :
  ∃ m',PY f (nmF c i) a b c' d e m=some (nme c i,m')/\(nme c i=0->AU c (i + 1) m'):=by
 unfold PY nme;have hemp:((nmF c i).toList == (⟨#[]⟩:NA).toList)=((nmF c i).data.toList == []):=by
  rw [ByteArray.toList_eq,ByteArray.toList_eq]
 rw [hemp,CV om_ om_];have hwd:∀ (k:Bool->Option (Int×List (NA×Int))),((bif ((nmF c i).data.toList == []) then some true else (Wz (nmF c i) (0:Int)).bind λx1=>some (decide ((x1.toNat:Int) < (UInt8.ofNat 97).toNat))).bind λr2=>(bif r2 then some true else (Wz (nmF c i) (0:Int)).bind λx3=>some (decide ((x3.toNat:Int) > (UInt8.ofNat 122).toNat))).bind λr4=>(bif r4 then some true else (some ((nmF c i).data.toList.any λb=>!Di b)).bind λx5=>some x5).bind k)=k (!wd (nmF c i)):=by
  intro k;cases hd:(nmF c i).data.toList with
  | nil=>unfold wd;rw [hd];rfl
  | cons b l=>
   have h0:Wz (nmF c i) (0:Int)=some b:=by
    have:=Yd (s:=nmF c i) (i:=0) (by rw [hd];simp);rw [n0] at this;rw [this];simp [hd]
   unfold wd;rw [h0,hd];simp only [ob_,cs_,u8n (show 97 < 256 by omega),u8n (show 122 < 256 by omega)];congr 1;rw [H8];unfold Uk;simp only [List.all_eq_not_any_not];cases (b :: l).any (λb=>!Di b) <;> simp <;> omega
 rw [hwd];cases hw:wd (nmF c i) with
 | false=>exact ⟨m,rfl,λh=>by simp at h⟩
 | true=>
  rw [nt_,cf_,if_pos rfl];by_cases h24:(nmF c i).size > 24
  ·rw [dt_ om_,ct_,if_pos h24];exact ⟨m,rfl,λh=>by simp at h⟩
  ·rw [df_ om_,cf_,if_neg h24,hm (nmF c i)];cases hx:(List.range i).any (λj=>(nmF c j).data.toList == (nmF c i).data.toList) with
   | true=>exact ⟨m,rfl,λh=>by simp at h⟩
   | false=>exact ⟨_,rfl,λ_=>hm.put _⟩
end Go.Pn
namespace Go.Pn
open Go
def EE (E:Nat->Int):Nat->Nat->Int
 | 0,_=>0
 | k + 1,i=>if E i=0 then EE E k (i + 1) else E i
theorem Wu {E:Nat->Int}:∀ {k i:Nat},EE E k i=0->∀ j,i<=j->j < i + k->E j=0
 | 0,_,_,j,h1,h2=>by omega
 | k + 1,i,h,j,h1,h2=>by
  unfold EE at h;split at h
  ·rcases LG h1 with rfl | h3
   ·assumption
   ·exact Wu h j h3 om_
  ·contradiction
theorem fnzI {S σ β:Type} {L:Nat->S->Option (Lo S β)} {mk:Nat->σ->S} {N:Nat} {E:Nat->Int} {r:Int->β} {I:Nat->σ->Prop}
  (h:∀ (n i:Nat) s,i < N->I i s->(E i=0->∃ s',I (i + 1) s'/\L (n + 1) (mk i s)=L n (mk (i + 1) s'))/\(E i≠0->L (n + 1) (mk i s)=some (.ret (r (E i)))))
  (h':∀ (n:Nat) s,I N s->L (n + 1) (mk N s)=some (.brk (mk N s))) :
  ∀ (k n i:Nat) s,i + k=N->k < n->I i s->(EE E k i=0/\∃ s',I N s'/\L n (mk i s)=some (.brk (mk N s')))\/(EE E k i≠0/\L n (mk i s)=some (.ret (r (EE E k i))))
 | 0,0,i,s,_,h2,_=>by omega
 | 0,n + 1,i,s,h1,h2,hI=>by
  obtain rfl:i=N:=by omega
  exact .inl ⟨rfl,s,hI,h' n s hI⟩
 | k + 1,0,i,s,_,h2,_=>by omega
 | k + 1,n + 1,i,s,h1,h2,hI=>by
  obtain ⟨a,b⟩:=h n i s om_ hI;unfold EE;by_cases e:E i=0
  ·obtain ⟨s',hs,hl⟩:=a e;rw [if_pos e,hl];exact fnzI h h' k n (i + 1) s' om_ om_ hs
  ·rw [if_neg e];exact .inr ⟨e,b e⟩
def zrx (x:Expr):Bool:=((x.Op == 0) && (x.Index == 0)) && (((x.Args).length:Int) == 0)
theorem Vx {f:Nat} {x:Expr}:OW f x=some (zrx x):=rfl
theorem Wb {f:Nat} {x:Expr}:O6 f x=some (zrx x):=rfl
structure Fw (c:Aa):Prop where
 i:∀ s∈c.Inputs,s.size<=200
 n:∀ x∈c.Signals,x.Name.size<=200
 on:∀ x∈c.Signals,Lt_ x.On/\OP FF x.On=some true
 off:∀ x∈c.Signals,Lt_ x.Off/\OP FF x.Off=some true
theorem Fw.nm {c:Aa} (h:Fw c) (i:Nat):(nmF c i).size<=200:=by
 unfold nmF;split
 ·show 2<=200;omega
 ·split
  ·rw [HH];cases hx:c.Inputs[i - 2 * cA c]? with
   | none=>show 0<=200;omega
   | some s=>exact h.i s (G6 hx)
  ·cases hx:c.Signals[i - cS c]? with
   | none=>show 0<=200;omega
   | some x=>exact h.n x (G6 hx)
def gate (c:Aa) (k:Nat):Bool:=match c.Signals[k]? with | some y=>y.Kind == 0 | none=>false
def late (c:Aa) (i:Nat) (x:Ad):Bool:=(List.range c.Signals.length).any λk=>decide (i<=k) && (gate c k && occ 16 ((cS c + k:Nat):Int) x.On)
def sge (c:Aa) (i:Nat) (x:Ad):Int:=
 if nme c (cS c + i)≠0 then nme c (cS c + i) else if x.Kind < 0\/3<=x.Kind then 1 else if chE 16 (cL c) x.On≠0 then chE 16 (cL c) x.On else
 if x.Kind=1 then (if chE 16 (cL c) x.Off≠0 then chE 16 (cL c) x.Off else if x.Delay≠0 then 3 else 0)
 else if x.Kind=0 then (if late c i x=true then 9 else if (!zrx x.Off || x.Init || x.Delay != 0)=true then 3 else 0)
 else (if x.Delay < 1\/x.Delay > 1000000 then 2 else if (!zrx x.Off || x.Init)=true then 3 else 0)
theorem CN {c:Aa} (h:Bd_ c) {i:Nat} {x:Ad} (hx:c.Signals[i]?=some x) (hd:dp 16 x.On):OV FF c (i:Int)=some (late c i x):=by
 have h1:=h.a';have h2:=h.i;have h3:=h.s;have hS:cS c=2 * cA c + c.Inputs.length:=rfl;have hi:=(GZ.1 hx).1;unfold OV;have hl:=AW (L:=Ku FF c (i:Int)) (N:=c.Signals.length) (Q:=λk=>gate c k && occ 16 ((cS c + k:Nat):Int) x.On) (r:=λ_=>true) (λn k hk=>by
  rw [Ku,Aj,dt_ hk,ct_,Ai,gE_ hk,ob_,Am om_];unfold gate;rw [gE_ hk];dsimp only;cases hg:(c.Signals[k].Kind == 0) with
  | false=>rfl
  | true=>
   rw [ct_,Ai,hx,ob_,Ff h,ob_,As om_ om_,show (cS c:Int) + (k:Int)=((cS c + k:Nat):Int) by omega,Vt 16 FF _ _ hd uF];simp only [ob_,JJ]) (λn=>by
  rw [Ku,Aj,df_ om_,cf_]) FF i om_ uF
 unfold late;rcases hl with ⟨k,hk1,hk,hq,h⟩ | ⟨h,hn⟩
 ·rw [h,HU.2 ⟨k,HC.2 hk,by rw [hq,dt_ hk1];rfl⟩];rfl
 ·rw [h];have:((List.range c.Signals.length).any λk=>decide (i<=k) && (gate c k && occ 16 ((cS c + k:Nat):Int) x.On))=false:=by
   rw [JB];intro k hk;have hk:=HC.1 hk;by_cases hik:i<=k
   ·rw [hn k hik hk];simp
   ·rw [df_ hik];simp
  rw [this];rfl
theorem CZ {c:Aa} (h:Bd_ c) (hw:Fw c) {i:Nat} {x:Ad} (hx:c.Signals[i]?=some x):OX FF c (i:Int)=some (sge c i x):=by
 have h1:=h.a';have h2:=h.i;have h3:=h.s;have hS:cS c=2 * cA c + c.Inputs.length:=rfl;have hL:cL c=cS c + c.Signals.length:=rfl;have hi:=(GZ.1 hx).1;have hxm:=G6 hx;obtain ⟨on1,on2⟩:=hw.on x hxm;obtain ⟨of1,of2⟩:=hw.off x hxm;have hF:600<=FF:=by unfold FF;omega
 unfold OX sge;rw [Ai,hx,ob_,Ff h,ob_,As om_ om_,show (cS c:Int) + (i:Int)=((cS c + i:Nat):Int) by omega,Wf h om_ (hw.nm _) hF,ob_];by_cases e1:nme c (cS c + i)=0
 ·rw [e1,if_neg smp_,zf_,cf_];by_cases e2:x.Kind < 0\/3<=x.Kind
  ·rw [if_pos e2,show (decide (x.Kind < 0) || decide (x.Kind>=(3:Int)))=true by simpa using e2,ct_]
  ·rw [if_neg e2,show (decide (x.Kind < 0) || decide (x.Kind>=(3:Int)))=false by simp;omega,cf_,Fe h,ob_,Vy on1 on2 om_ om_ hF,ob_];by_cases e3:chE 16 (cL c) x.On=0
   ·rw [e3,if_neg smp_,zf_,cf_];have hk:x.Kind=0\/x.Kind=1\/x.Kind=2:=by omega
    rcases hk with k | k | k <;> rw [k]
    ·simp only [show ((0:Int) == 1)=false by rfl,show ((0:Int) == 0)=true by rfl,show ((0:Int) == 2)=false by rfl,cf_,ct_,JS,J2,JJ];rw [CN h hx on1.dp,ob_,ob_,Vx,ob_,ob_];simp only [show ¬ ((0:Int)=1) by omega,if_false,if_true];cases late c i x with
     | true=>rfl
     | false=>
      simp only [cf_];cases zrx x.Off <;> cases x.Init <;> cases (x.Delay != 0) <;> rfl
    ·simp only [show ((1:Int) == 1)=true by rfl,show ((1:Int) == 0)=false by rfl,show ((1:Int) == 2)=false by rfl,cf_,ct_,JS,J2,JJ,J3,JD,if_true];rw [ob_,Vy of1 of2 om_ om_ hF,ob_];by_cases e4:chE 16 (cL c) x.Off=0
     ·rw [e4,zf_,cf_,if_neg smp_,ob_,cf_,ob_,JD];by_cases e5:x.Delay=0
      ·rw [if_neg (by simpa using e5),e5];rfl
      ·rw [if_pos e5,show (x.Delay != 0)=true by simpa using e5];rfl
     ·rw [if_pos e4,show (chE 16 (cL c) x.Off != 0)=true by simpa using e4,ct_]
    ·simp only [show ((2:Int) == 1)=false by rfl,show ((2:Int) == 0)=false by rfl,show ((2:Int) == 2)=true by rfl,cf_,ct_,JS,J2,JJ,J3,KN,if_true,show ¬ ((2:Int)=1) by omega,show ¬ ((2:Int)=0) by omega,if_false,ob_];rw [Vx,ob_];by_cases e5:x.Delay < 1\/x.Delay > 1000000
     ·rw [if_pos e5,show (decide (x.Delay < 1) || decide (x.Delay > 1000000))=true by simpa using e5,ct_]
     ·rw [if_neg e5,show (decide (x.Delay < 1) || decide (x.Delay > 1000000))=false by simp;omega,cf_,ob_];cases zrx x.Off <;> cases x.Init <;> rfl
   ·rw [if_pos e3,show (chE 16 (cL c) x.On != 0)=true by simpa using e3,ct_]
 ·rw [if_pos e1,show (nme c (cS c + i) != 0)=true by simpa using e1,ct_]
def pr (c:Aa) (i:Nat) (k:Int):Bool:=decide (k - (cS c:Int)>=(i:Int)) && gate c (k - (cS c:Int)).toNat
theorem CW {f:Nat} {c:Aa} (h:Bd_ c) {i:Nat} {k:Int} (hk0:0<=k) (hk:k < cL c) (m:List (NA×Int)) (b:Bool) :
  P0 f k (i:Int) c.Actuators c.Inputs c.Signals c.Plus c.Minus m b=some (b || pr c i k):=by
 have h1:=h.a';have h2:=h.i;have h3:=h.s;have hS:cS c=2 * cA c + c.Inputs.length:=rfl;have hL:cL c=cS c + c.Signals.length:=rfl;unfold P0 pr;have e:(⟨c.Actuators,c.Inputs,c.Signals,c.Plus,c.Minus⟩:Aa)=c:=rfl;rw [e,Jj h,ob_,As om_ om_];cases b with
 | true=>rfl
 | false=>
  rw [cf_,JD];by_cases hg:k - (cS c:Int)>=(i:Int)
  ·obtain ⟨j,hj⟩:=MC (show 0<=k - (cS c:Int) by omega);rw [dt_ hg,ct_,hj,Ai,gE_ om_,ob_,ob_,ob_];unfold gate;rw [show ((j:Int)).toNat=j by simp,gE_ om_];rfl
  ·rw [df_ hg];rfl
theorem Vw {c:Aa} (h:Bd_ c) {i:Nat} (m:List (NA×Int)):∀ (d f:Nat) (x:Expr) (b:Bool),okE d (cL c) x->d + 300<=f ->
  P1 f x c.Actuators c.Inputs c.Signals c.Plus c.Minus m b (i:Int)=some (b || GQ d (pr c i) x)
 | 0,_,_,_,h,_=>h.elim
 | d + 1,f,x,b,ho,hf=>by
  obtain ⟨f,rfl⟩:∃ f',f=f' + 1:=⟨f - 1,by omega⟩;obtain ⟨hn,hl,ha⟩:=ho;obtain ⟨o1,o2,o3,o4,o5,i1,i2⟩:=Jb hn;unfold P1 GQ;have loop:∀ (n j:Nat) (b:Bool),j<=x.Args.length->x.Args.length - j < n ->
    Pg (P1 f) x c.Actuators c.Inputs c.Signals c.Plus c.Minus m (i:Int) n ((j:Int),b)=some ((x.Args.length:Int),b || (x.Args.drop j).any (GQ d (pr c i))):=by
   intro n
   induction n with
   | zero=>intro j _ _ h;omega
   | succ n ihn=>
    intro j b hj hnn;unfold Pg;dsimp only;by_cases h3:j < x.Args.length
    ·rw [Aj,dt_ h3,ct_,Ai,gE_ h3,ob_,Vw h m d f _ b (ha _ (G1 h3)) om_,ob_,Am om_,ihn (j + 1) _ om_ om_,G4 h3,L7,Bool.or_assoc]
    ·rw [Aj,df_ h3,cf_,HF om_];have:j=x.Args.length:=by omega
     subst this;simp
  by_cases h1:x.Op=1
  ·rw [if_pos h1,show (x.Op == 1)=true by simpa using h1,ct_,CW h i1 (i2 h1),ob_,ob_];have h3:=loop f 0 (b || pr c i x.Index) om_ om_;rw [n0,HA] at h3;rw [h3,o3 om_];simp
  ·rw [if_neg h1,show (x.Op == 1)=false by simpa using h1,cf_,ob_];have h3:=loop f 0 b om_ om_;rw [n0,HA] at h3;rw [h3];rfl
theorem late_eq {c:Aa} {i:Nat} {x:Ad} (ho:okE 16 (cL c) x.On):GQ 16 (pr c i) x.On=late c i x:=by
 have hL:cL c=cS c + c.Signals.length:=rfl;rw [H8,Ue];unfold late;rw [HU];constructor
 ·rintro ⟨k,hp,hk⟩;have hl:=F5 ho hk;unfold pr at hp;rw [G2] at hp;obtain ⟨hp1,hp2⟩:=hp;have hp1:k - (cS c:Int)>=(i:Int):=by simpa using hp1
  refine ⟨(k - (cS c:Int)).toNat,HC.2 om_,?_⟩;rw [dt_ om_,hp2,show ((cS c + (k - (cS c:Int)).toNat:Nat):Int)=k by omega,hk];rfl
 ·rintro ⟨j,hj,hq⟩;rw [G2,G2] at hq;obtain ⟨h1,h2,h3⟩:=hq;have h1:i<=j:=by simpa using h1
  refine ⟨_,?_,h3⟩;unfold pr;rw [show ((cS c + j:Nat):Int) - (cS c:Int)=(j:Int) by omega,show ((j:Int)).toNat=j by simp,h2,dt_ om_];rfl
theorem C5 {c:Aa} (h:Bd_ c) (hw:Fw c) {i:Nat} {x:Ad} (hx:c.Signals[i]?=some x) {m:List (NA×Int)} (hm:AU c (cS c + i) m) :
  ∃ m',P6 FF (i:Int) c.Actuators c.Inputs c.Signals c.Plus c.Minus m=some (sge c i x,m')/\(sge c i x=0->AU c (cS c + (i + 1)) m'):=by
 have h1:=h.a';have h2:=h.i;have h3:=h.s;have hS:cS c=2 * cA c + c.Inputs.length:=rfl;have hL:cL c=cS c + c.Signals.length:=rfl;have hi:=(GZ.1 hx).1;have hxm:=G6 hx;obtain ⟨on1,on2⟩:=hw.on x hxm;obtain ⟨of1,of2⟩:=hw.off x hxm;have hF:600<=FF:=by unfold FF;omega
 have hnm:nmF c (cS c + i)=x.Name:=by
  unfold nmF;rw [if_neg om_,if_neg om_,show cS c + i - cS c=i by omega,hx];rfl
 have e:(⟨c.Actuators,c.Inputs,c.Signals,c.Plus,c.Minus⟩:Aa)=c:=rfl;unfold P6 sge;obtain ⟨m',hm',hk'⟩:=Wi h (hw.nm (cS c + i)) hF hm c.Actuators c.Inputs c.Signals c.Plus c.Minus;rw [hnm] at hm';rw [Ai,hx,ob_,hm',ob_];dsimp only;refine ⟨m',?_,λh0=>?_⟩
 ·by_cases e1:nme c (cS c + i)=0
  ·rw [e1,if_neg smp_,zf_,cf_];by_cases e2:x.Kind < 0\/3<=x.Kind
   ·rw [if_pos e2,show (decide (x.Kind < 0) || decide (x.Kind>=(3:Int)))=true by simpa using e2,ct_]
   ·rw [if_neg e2,show (decide (x.Kind < 0) || decide (x.Kind>=(3:Int)))=false by simp;omega,cf_,e,Pv h,ob_,Pr on1 om_ om_ hF,ob_];by_cases e3:chE 16 (cL c) x.On=0
    ·rw [e3,if_neg smp_,zf_,cf_];have hok:=okE.of on1.dp e3;have hk:x.Kind=0\/x.Kind=1\/x.Kind=2:=by omega
     rcases hk with k | k | k <;> rw [k]
     ·rw [show idx (List.range 3) (0:Int)=some 0 by rfl,ob_,show ((0:Nat) == 0)=true by rfl,ct_,if_neg om_,if_pos rfl];unfold P3 P2;rw [Ai,hx,ob_,Vw h m' 16 FF x.On false hok uF,ob_,ob_,JD,late_eq hok,Wb];cases late c i x with
      | true=>rfl
      | false=>cases zrx x.Off <;> cases x.Init <;> cases (x.Delay != 0) <;> rfl
     ·rw [show idx (List.range 3) (1:Int)=some 1 by rfl,ob_,show ((1:Nat) == 0)=false by rfl,cf_,show ((1:Nat) == 1)=true by rfl,ct_,if_pos rfl];unfold P4;rw [e,Pv h,Ai,hx,ob_,ob_,Pr of1 om_ om_ hF,ob_];by_cases e4:chE 16 (cL c) x.Off=0
      ·rw [e4,zf_,cf_,if_neg smp_,ob_];by_cases e5:x.Delay=0
       ·rw [if_neg (by simpa using e5),e5];rfl
       ·rw [if_pos e5,show (x.Delay != 0)=true by simpa using e5];rfl
      ·rw [if_pos e4,show (chE 16 (cL c) x.Off != 0)=true by simpa using e4,ct_];rfl
     ·rw [show idx (List.range 3) (2:Int)=some 2 by rfl,ob_,show ((2:Nat) == 0)=false by rfl,cf_,show ((2:Nat) == 1)=false by rfl,cf_,show ((2:Nat) == 2)=true by rfl,ct_,if_neg om_,if_neg om_];unfold P5;rw [Ai,hx,ob_,Wb];by_cases e5:x.Delay < 1\/x.Delay > 1000000
      ·rw [if_pos e5,show (decide (x.Delay < 1) || decide (x.Delay > 1000000))=true by simpa using e5];rfl
      ·rw [if_neg e5,show (decide (x.Delay < 1) || decide (x.Delay > 1000000))=false by simp;omega];cases zrx x.Off <;> cases x.Init <;> rfl
    ·rw [if_pos e3,show (chE 16 (cL c) x.On != 0)=true by simpa using e3,ct_]
  ·rw [if_pos e1,show (nme c (cS c + i) != 0)=true by simpa using e1,ct_]
 ·refine hk' ?_;by_cases e1:nme c (cS c + i)=0
  ·exact e1
  ·rw [if_pos e1] at h0;exact h0
theorem C4 {f:Nat} {c:Aa} (h:Bd_ c) {k:Int}:P7 f k c=some (bad (cL c) k):=by
 unfold P7 bad;rw [Pv h];cases decide (k < 0) <;> rfl
theorem Xn {c:Aa} (h:Bd_ c) {xs:M6} (hl:xs.length < 1000):Wq FF xs c=some (xs.any (bad (cL c))):=by
 unfold Wq Zp;have h5:=BE (L:=Jm FF xs c) (xs:=xs) (p:=λ_ y=>P7 FF y c) (q:=bad (cL c)) (r:=λz=>z) (λ_ _=>rfl) om_ (λi y hy=>C4 h) FF 0 om_ uF;rw [n0,HA] at h5;rw [h5];cases h6:xs.findIdx? (bad (cL c)) with
 | none=>
  rw [H5] at h6;have:xs.any (bad (cL c))=false:=JB.2 λy hy=>by simpa using h6 y hy
  rw [this];rfl
 | some j=>
  obtain ⟨hj,hj2,_⟩:=HT.1 h6;have:xs.any (bad (cL c))=true:=HU.2 ⟨_,G1 hj,by simpa using hj2⟩;rw [this];simp
theorem Qf {p q:M6} (hp:p.length<=400000000) (hq:q.length<=400000000):PT FF [p,q]=some (p ++ q):=by
 unfold PT;have h1:Fy [p,q] FF ((0:Int),(0:Int))=some (((p.length + q.length:Nat):Int),2):=by
  show Fy [p,q] (99997 + 1 + 1 + 1) _=_;unfold Fy;rw [show decide ((0:Int) < (([p,q]:List M6).length:Int))=true by rfl,ct_,show idx [p,q] 0=some p by rfl,ob_];dsimp only;rw [As om_ om_,As om_ om_,df_ om_,cf_];unfold Fy;rw [show decide ((0:Int) + 1 < (([p,q]:List M6).length:Int))=true by rfl,ct_,show idx [p,q] (0 + 1)=some q by rfl,ob_];dsimp only;rw [As om_ om_,As om_ om_,df_ om_,cf_];unfold Fy;rw [show decide ((0:Int) + 1 + 1 < (([p,q]:List M6).length:Int))=false by rfl,cf_];congr 1;refine Prod.ext ?_ rfl;dsimp only;omega
 have h2:Fx [p,q] FF ((0:Int),[])=some ((2:Int),p ++ q):=by
  show Fx [p,q] (99997 + 1 + 1 + 1) _=_;unfold Fx app;rw [show decide ((0:Int) < (([p,q]:List M6).length:Int))=true by rfl,ct_,show idx [p,q] 0=some p by rfl,ob_,if_pos so_,ob_];dsimp only;rw [As om_ om_];unfold Fx app;rw [show decide ((0:Int) + 1 < (([p,q]:List M6).length:Int))=true by rfl,ct_,show idx [p,q] (0 + 1)=some q by rfl,ob_,if_pos so_,ob_];dsimp only;rw [As om_ om_];unfold Fx;rw [show decide ((0:Int) + 1 + 1 < (([p,q]:List M6).length:Int))=false by rfl,cf_];rfl
 rw [h1,ob_];unfold m138;rw [if_pos (by dsimp only;omega),ob_,h2];rfl
theorem Md {c:Aa} (h:Bd_ c) {xs:M6} (hl:xs.length < 1000):Ky FF c xs FF (0:Int)=if xs.any (bad (cL c)) then some (.ret 6) else some (.brk (xs.length:Int)):=by
 have h5:=BE (L:=Ky FF c xs) (xs:=xs) (p:=λ_ y=>some (bad (cL c) y)) (q:=bad (cL c)) (r:=λ_=>6) (λn z=>by
  rw [Ky];congr 1;cases hx:idx xs z with
  | none=>rfl
  | some y=>
   rw [ob_,ob_,ob_,Fe h,ob_];unfold bad;cases decide (y < 0) <;> rfl) om_ (λi y hy=>rfl) FF 0 om_ (by unfold FF; omega)
 rw [n0,HA] at h5;rw [h5];cases h6:xs.findIdx? (bad (cL c)) with
 | none=>
  rw [H5] at h6;have:xs.any (bad (cL c))=false:=JB.2 λy hy=>by simpa using h6 y hy
  rw [this];rfl
 | some j=>
  obtain ⟨hj,hj2,_⟩:=HT.1 h6;have:xs.any (bad (cL c))=true:=HU.2 ⟨_,G1 hj,by simpa using hj2⟩;rw [this];rfl
def plE (c:Aa):Int:=if (c.Plus.length:Int)≠c.Actuators\/(c.Minus.length:Int)≠c.Actuators then 8 else if (c.Plus ++ c.Minus).any (bad (cL c)) then 6 else 0
theorem CY {c:Aa} (h:Bd_ c):OY FF c=some (plE c):=by
 have h6:=h.a6;unfold OY plE;by_cases h1:(c.Plus.length:Int)≠c.Actuators\/(c.Minus.length:Int)≠c.Actuators
 ·rw [if_pos h1,show (((c.Plus.length:Int) != c.Actuators) || ((c.Minus.length:Int) != c.Actuators))=true by simpa using h1,ct_]
 ·rw [if_neg h1,show (((c.Plus.length:Int) != c.Actuators) || ((c.Minus.length:Int) != c.Actuators))=false by simp;omega,cf_];have:Fj FF c FF (0:Int)=if (c.Plus ++ c.Minus).any (bad (cL c)) then some (.ret 6) else some (.brk 2):=by
   show Fj FF c (99997 + 1 + 1 + 1) _=_;unfold Fj;rw [show decide ((0:Int) < (([c.Plus,c.Minus]:List M6).length:Int))=true by rfl,ct_,show idx [c.Plus,c.Minus] 0=some c.Plus by rfl,ob_,Md h om_,List.any_append];cases c.Plus.any (bad (cL c)) with
   | true=>rfl
   | false=>
    rw [if_neg smp_,ob_];dsimp only;rw [As om_ om_];unfold Fj;rw [show decide ((0:Int) + 1 < (([c.Plus,c.Minus]:List M6).length:Int))=true by rfl,ct_,show idx [c.Plus,c.Minus] (0 + 1)=some c.Minus by rfl,ob_,Md h om_,JD];cases c.Minus.any (bad (cL c)) with
    | true=>rfl
    | false=>
     rw [if_neg smp_,ob_];dsimp only;rw [As om_ om_];unfold Fj;rw [show decide ((0:Int) + 1 + 1 < (([c.Plus,c.Minus]:List M6).length:Int))=false by rfl,cf_];rfl
  rw [this];cases (c.Plus ++ c.Minus).any (bad (cL c)) <;> rfl
structure Rt (c:Aa):Prop where
 bd:Bd_ c
 sig:∀ x∈c.Signals,0<=x.Kind/\x.Kind < 3/\okE 16 (cL c) x.On/\(x.Kind=1->okE 16 (cL c) x.Off)
 plus:c.Plus.length=cA c
 minus:c.Minus.length=cA c
 lines:∀ l∈c.Plus ++ c.Minus,0<=l/\l < cL c
 ini:∀ x∈c.Signals,x.Kind=2->x.Init=false
theorem EJ {c:Aa} (hw:Fw c) {i:Nat} {x:Ad} (hx:c.Signals[i]?=some x) (h:sge c i x=0):(0<=x.Kind/\x.Kind < 3/\okE 16 (cL c) x.On/\(x.Kind=1->okE 16 (cL c) x.Off))/\(x.Kind=2->x.Init=false):=by
 have hxm:=G6 hx;unfold sge at h;split at h
 ·contradiction
 ·split at h
  ·omega
  ·split at h
   ·contradiction
   ·rename_i h2 h3;refine ⟨⟨by omega,by omega,okE.of (hw.on x hxm).1.dp om_,λhk=>?_⟩,λhk=>?_⟩
    ·rw [if_pos hk] at h;split at h
     ·contradiction
     ·rename_i h4;exact okE.of (hw.off x hxm).1.dp om_
    ·rw [if_neg om_,if_neg om_] at h;split at h
     ·contradiction
     ·split at h
      ·contradiction
      ·rename_i h5;cases hi:x.Init with
       | false=>rfl
       | true=>rw [hi] at h5;simp at h5
def sgE (c:Aa) (i:Nat):Int:=match c.Signals[i]? with | some x=>sge c i x | none=>0
theorem Mj {c:Aa} (h:Bd_ c):∀ (n i:Nat) (m:List (NA×Int)),i<=2 * cA c->2 * cA c - i < n->AU c i m->∃ z m',Qb FF c n ((i:Int),m)=some (z,m')/\AU c (2 * cA c) m'
 | 0,i,_,_,h,_=>by omega
 | n + 1,i,m,h1,h2,hm=>by
  have ha:=h.a';have hL:cL c=2 * cA c + c.Inputs.length + c.Signals.length:=rfl;unfold Qb;dsimp only;rw [h.wa,Aj];by_cases hi:i < 2 * cA c
  ·rw [dt_ hi,ct_,C6 h om_,ob_,Am om_];exact Mj h n (i + 1) _ om_ om_ (hm.put _)
  ·rw [df_ hi,cf_];obtain rfl:i=2 * cA c:=by omega
   exact ⟨_,m,rfl,hm⟩
theorem FT {c:Aa} (hw:Fw c) (hs:c.Signals.length<=16\/64 < c.Signals.length):∃ e,m89 FF c=some e/\OZ FF c=some e/\(e=0->Rt c):=by
 unfold m89 P8 OZ;by_cases hA:c.Actuators < 1\/c.Actuators > 6
 ·have:(decide (c.Actuators < 1) || decide (c.Actuators > 6))=true:=by simpa using hA
  rw [this];exact ⟨2,rfl,rfl,by simp⟩
 have:(decide (c.Actuators < 1) || decide (c.Actuators > 6))=false:=by simp;omega
 rw [this,cf_,cf_];by_cases hI:c.Inputs.length > 16\/c.Signals.length > 64
 ·have:(decide ((c.Inputs.length:Int) > 16) || decide ((c.Signals.length:Int) > 64))=true:=by simp;omega
  rw [this];exact ⟨5,rfl,rfl,by simp⟩
 have:(decide ((c.Inputs.length:Int) > 16) || decide ((c.Signals.length:Int) > 64))=false:=by simp;omega
 rw [this,cf_,cf_];have h:Bd_ c:=⟨by omega,by omega,by omega,by omega⟩;have ha:=h.a';have h2:=h.i;have h3:=h.s;have hS:cS c=2 * cA c + c.Inputs.length:=rfl;have hL:cL c=cS c + c.Signals.length:=rfl;have hF:600<=FF:=by unfold FF;omega
 obtain ⟨z,m1,e1,k1⟩:=Mj h FF 0 [] om_ uF (AU.zero c);rw [n0] at e1;rw [e1,ob_];dsimp only;have A1:=fnzI (L:=Lg FF c) (mk:=λi m=>((i:Int),m)) (N:=c.Inputs.length) (E:=λi=>nme c (2 * cA c + i)) (r:=λe=>Sum.inl e) (I:=λi m=>AU c (2 * cA c + i) m) (λn i m hi hm=>by
  have hnm:nmF c (2 * cA c + i)=c.Inputs[i]:=by
   unfold nmF;rw [if_neg om_,if_pos om_,show 2 * cA c + i - 2 * cA c=i by omega];simp [gE_ hi]
  obtain ⟨m',hm',hk'⟩:=Wi h (hw.nm (2 * cA c + i)) hF hm c.Actuators c.Inputs c.Signals c.Plus c.Minus;rw [hnm] at hm';rw [Lg];dsimp only;rw [Aj,dt_ hi,ct_,Ai,gE_ hi,ob_,hm',ob_];dsimp only;refine ⟨λh0=>⟨m',hk' h0,?_⟩,λh0=>?_⟩
  ·rw [h0,zf_,cf_,Am om_]
  ·rw [show (nme c (2 * cA c + i) != 0)=true by simpa using h0,ct_]) (λn m _=>by
  rw [Lg];dsimp only;rw [Aj,df_ om_,cf_]) c.Inputs.length FF 0 m1 om_ uF k1
 have B1:=fnzI (L:=Lb FF c) (mk:=λi (_:Unit)=>(i:Int)) (N:=c.Inputs.length) (E:=λi=>nme c (2 * cA c + i)) (r:=λe=>e) (I:=λ_ _=>True) (λn i _ hi _=>by
  rw [Lb,Aj,dt_ hi,ct_,h.wa,As om_ om_,show ((2 * cA c:Nat):Int) + (i:Int)=((2 * cA c + i:Nat):Int) by omega,Wf h om_ (hw.nm _) hF,ob_];refine ⟨λh0=>⟨(),trivial,?_⟩,λh0=>?_⟩
  ·rw [h0,zf_,cf_,Am om_]
  ·rw [show (nme c (2 * cA c + i) != 0)=true by simpa using h0,ct_]) (λn _ _=>by
  rw [Lb,Aj,df_ om_,cf_]) c.Inputs.length FF 0 () om_ uF trivial
 try dsimp only at A1 B1
 rw [n0] at A1 B1;generalize EE (λi=>nme c (2 * cA c + i)) c.Inputs.length 0=E1 at A1 B1;rcases A1 with ⟨z1,m2,k2,A1⟩ | ⟨z1,A1⟩
 case inr=>
  rcases B1 with ⟨z2,_⟩ | ⟨_,B1⟩
  ·exact absurd z2 z1
  rw [A1,B1];exact ⟨E1,rfl,rfl,λh=>absurd h z1⟩
 rcases B1 with ⟨_,_,_,B1⟩ | ⟨z2,_⟩
 case inr=>exact absurd z1 z2
 rw [A1,B1,ob_,ob_];dsimp only;have hget:∀ i,i < c.Signals.length->∃ x,c.Signals[i]?=some x/\sgE c i=sge c i x:=λi hi=>⟨c.Signals[i],gE_ hi,by unfold sgE;rw [gE_ hi]⟩;have A2:=fnzI (L:=Lf FF c) (mk:=λi m=>((i:Int),m)) (N:=c.Signals.length) (E:=sgE c) (r:=λe=>Sum.inl e) (I:=λi m=>AU c (cS c + i) m) (λn i m hi hm=>by
  obtain ⟨x,hx,hsg⟩:=hget i hi;obtain ⟨m',hm',hk'⟩:=C5 h hw hx hm;rw [Lf,hsg];dsimp only;rw [Aj,dt_ hi,ct_,hm',ob_];dsimp only;refine ⟨λh0=>⟨m',hk' h0,?_⟩,λh0=>?_⟩
  ·rw [h0,zf_,cf_,Am om_]
  ·rw [show (sge c i x != 0)=true by simpa using h0,ct_]) (λn m _=>by
  rw [Lf];dsimp only;rw [Aj,df_ om_,cf_]) c.Signals.length FF 0 m2 om_ uF k2
 have B2:=fnzI (L:=La FF c) (mk:=λi (_:Unit)=>(i:Int)) (N:=c.Signals.length) (E:=sgE c) (r:=λe=>e) (I:=λ_ _=>True) (λn i _ hi _=>by
  obtain ⟨x,hx,hsg⟩:=hget i hi;rw [La,Aj,dt_ hi,ct_,CZ h hw hx,ob_,hsg];refine ⟨λh0=>⟨(),trivial,?_⟩,λh0=>?_⟩
  ·rw [h0,zf_,cf_,Am om_]
  ·rw [show (sge c i x != 0)=true by simpa using h0,ct_]) (λn _ _=>by
  rw [La,Aj,df_ om_,cf_]) c.Signals.length FF 0 () om_ uF trivial
 try dsimp only at A2 B2
 rw [n0] at A2 B2;have hz:EE (sgE c) c.Signals.length 0=0->∀ j,j < c.Signals.length->sgE c j=0:=λh j hj=>Wu h j om_ om_;generalize EE (sgE c) c.Signals.length 0=E2 at A2 B2 hz;rcases A2 with ⟨z1,m3,k3,A2⟩ | ⟨z1,A2⟩
 case inr=>
  rcases B2 with ⟨z2,_⟩ | ⟨_,B2⟩
  ·exact absurd z2 z1
  rw [A2,B2];exact ⟨E2,rfl,rfl,λh=>absurd h z1⟩
 rcases B2 with ⟨_,_,_,B2⟩ | ⟨z2,_⟩
 case inr=>exact absurd z1 z2
 rw [A2,B2,ob_,ob_];dsimp only;rw [CY h];refine ⟨plE c,?_,rfl,λh0=>?_⟩
 ·unfold plE;by_cases h1:(c.Plus.length:Int)≠c.Actuators\/(c.Minus.length:Int)≠c.Actuators
  ·rw [if_pos h1,show (((c.Plus.length:Int) != c.Actuators) || ((c.Minus.length:Int) != c.Actuators))=true by simpa using h1,ct_];rfl
  ·rw [if_neg h1,show (((c.Plus.length:Int) != c.Actuators) || ((c.Minus.length:Int) != c.Actuators))=false by simp;omega,cf_];have h6:=h.a6;rw [Qf om_ om_,ob_,Xn h so_,ob_];cases (c.Plus ++ c.Minus).any (bad (cL c)) <;> rfl
 ·unfold plE at h0;split at h0
  ·contradiction
  ·split at h0
   ·contradiction
   ·rename_i h1 h2;have h6:=h.a;have hsz:∀ x∈c.Signals,(0<=x.Kind/\x.Kind < 3/\okE 16 (cL c) x.On/\(x.Kind=1->okE 16 (cL c) x.Off))/\(x.Kind=2->x.Init=false):=λx hx=>by
     obtain ⟨i,hi⟩:=K9 hx;have h5:=hz z1 i (GZ.1 hi).1;have:sge c i x=0:=by
      unfold sgE at h5;rw [hi] at h5;exact h5
     exact EJ hw hi this
    refine ⟨h,λx hx=>(hsz x hx).1,by omega,by omega,λl hl=>?_,λx hx=>(hsz x hx).2⟩
    ·have h5:(c.Plus ++ c.Minus).any (bad (cL c))=false:=by simpa using h2
     have:=JB.1 h5 l hl;unfold bad at this;simp at this;omega
theorem E6 (c:Aa):∃ b,m63 FF c=some b/\(b=true->Fw c/\(c.Signals.length<=16\/64 < c.Signals.length)):=by
 unfold m63;by_cases h1:c.Inputs.length > 32\/(c.Signals.length > 16/\c.Signals.length<=64)\/c.Signals.length > 128\/c.Plus.length > 40\/c.Minus.length > 40
 ·have:(((((decide ((c.Inputs.length:Int) > 32)) || ((decide ((c.Signals.length:Int) > 16)) && (decide ((c.Signals.length:Int)<=(64:Int))))) || (decide ((c.Signals.length:Int) > 128))) || (decide ((c.Plus.length:Int) > 40))) || (decide ((c.Minus.length:Int) > 40)))=true:=by
   simp;omega
  rw [this];exact ⟨false,rfl,by simp⟩
 ·have:(((((decide ((c.Inputs.length:Int) > 32)) || ((decide ((c.Signals.length:Int) > 16)) && (decide ((c.Signals.length:Int)<=(64:Int))))) || (decide ((c.Signals.length:Int) > 128))) || (decide ((c.Plus.length:Int) > 40))) || (decide ((c.Minus.length:Int) > 40)))=false:=by
   simp;omega
  rw [this,cf_];have h2:=BE (L:=Zb c) (xs:=c.Inputs) (p:=λ_ x=>some (decide ((x.size:Int) > 200))) (q:=λx=>decide ((x.size:Int) > 200)) (r:=λ_=>false) (λ_ _=>rfl) om_ (λ_ _ _=>rfl) FF 0 om_ uF;rw [n0,HA] at h2;cases hc:c.Inputs.findIdx? (λx=>decide ((x.size:Int) > 200)) with
  | some j=>rw [hc] at h2;rw [h2];exact ⟨false,rfl,by simp⟩
  | none=>
   rw [hc] at h2;rw [h2,ob_];dsimp only;rw [H5] at hc;have hF:600<=FF:=by unfold FF;omega
   let q:Ad->Bool:=λx=>decide ((x.Name.size:Int) > 200) || !((OP FF x.On).getD false) || !((OP FF x.Off).getD false)
   have h3:=BE (L:=Vc FF c) (xs:=c.Signals) (p:=λ_ x=>some (q x)) (q:=q) (r:=λ_=>false) (λn z=>by
    rw [Vc];congr 1;cases hx:idx c.Signals z with
    | none=>rfl
    | some x=>
     rw [ob_,ob_,ob_];obtain ⟨b1,e1,_⟩:=Jo hF x.On;obtain ⟨b2,e2,_⟩:=Jo hF x.Off;show _=bif q x then _ else _;simp only [q];rw [e1,e2];cases decide ((x.Name.size:Int) > 200) <;> cases b1 <;> cases b2 <;> rfl) om_ (λ_ _ _=>rfl) FF 0 om_ (by unfold FF; omega)
   rw [n0,HA] at h3;cases hd:c.Signals.findIdx? q with
   | some j=>rw [hd] at h3;rw [h3];exact ⟨false,rfl,by simp⟩
   | none=>
    rw [hd] at h3;rw [h3];rw [H5] at hd;refine ⟨true,rfl,λ_=>⟨⟨λs hs=>?_,λx hx=>?_,λx hx=>?_,λx hx=>?_⟩,by omega⟩⟩
    ·have:=hc s hs;simp at this;omega
    ·have:=hd x hx;simp only [q,KS,decide_eq_false_iff_not] at this;omega
    ·have:=hd x hx;simp only [q,KS,decide_eq_false_iff_not] at this;obtain ⟨b,e,hb⟩:=Jo hF x.On;have h5:=this.1.2;rw [e] at h5;have h5:b=true:=by simpa using h5
     exact ⟨hb h5,by rw [e,h5]⟩
    ·have:=hd x hx;simp only [q,KS,decide_eq_false_iff_not] at this;obtain ⟨b,e,hb⟩:=Jo hF x.Off;have h5:=this.2;rw [e] at h5;have h5:b=true:=by simpa using h5
     exact ⟨hb h5,by rw [e,h5]⟩
end Go.Pn
namespace Go.Pn
open Go
theorem Ri {S σ:Type} {L:Nat->S->Option S} {mk:Nat->σ->S} {N:Nat} {I:Nat->σ->Prop}
  (h:∀ (n i:Nat) s,i < N->I i s->∃ s',I (i + 1) s'/\L (n + 1) (mk i s)=L n (mk (i + 1) s')) (h':∀ (n:Nat) s,I N s->L (n + 1) (mk N s)=some (mk N s)) :
  ∀ (n i:Nat) s,i<=N->N - i < n->I i s->∃ s',I N s'/\L n (mk i s)=some (mk N s')
 | 0,i,_,_,h,_=>by omega
 | n + 1,i,s,h1,h2,hI=>by
  by_cases hi:i < N
  ·obtain ⟨s',h3,h4⟩:=h n i s hi hI;rw [h4];exact Ri h h' n (i + 1) s' om_ om_ h3
  ·obtain rfl:i=N:=by omega
   exact ⟨s,hI,h' n s hI⟩
def upd {α:Type} (f:Nat->α) (l:List α) (i:Nat):List α:=(List.range i).map f ++ l.drop i
theorem Ch {α:Type} {f:Nat->α} {l:List α}:upd f l 0=l:=by simp [upd]
theorem Dw {α:Type} {f:Nat->α} {l:List α}:upd f l l.length=(List.range l.length).map f:=by simp [upd]
theorem Ki {α:Type} {f:Nat->α} {l:List α} {i:Nat} (h:i<=l.length):(upd f l i).length=l.length:=by simp [upd];omega
theorem Cj {α:Type} {f:Nat->α} {l:List α} {i j:Nat} (h:i<=j):(upd f l i)[j]?=l[j]?:=by
 unfold upd;rw [HM so_,KP];congr 1;simp;omega
theorem Dv {α:Type} {f:Nat->α} {l:List α} {i:Nat} {y:α} (h:i < l.length) (hy:y=f i):(upd f l i).set i y=upd f l (i + 1):=by
 subst hy;refine JF λj=>?_;by_cases e:j=i
 ·subst e;rw [H3 (by rw [Ki om_];exact h)];unfold upd;rw [HE smp_];simp
 ·rw [JE om_];by_cases h2:j < i
  ·unfold upd;rw [HE so_,HE so_];simp [h2,show j < i + 1 by omega]
  ·rw [Cj om_,Cj om_]
structure Rc (c:Aa):Prop where
 rt:Rt c
 fw:Fw c
 ck:m89 FF c=some 0
 ck':OZ FF c=some 0
structure Fit (c:Aa) (s:Ac):Prop where
 e:s.Ends.length=cA c
 v:s.Valves.length=cA c
 i:s.Inputs.length=c.Inputs.length
 x:s.Values.length=c.Signals.length
 t:s.Timers.length=c.Signals.length
 ee:∀ a∈s.Ends,0<=a/\a < 4
 tt:∀ a∈s.Timers,0<=a/\a < 3
 k:∀ (i:Nat) x t v,c.Signals[i]?=some x->s.Timers[i]?=some t->s.Values[i]?=some v->(x.Kind≠2->t=0)/\(x.Kind=2->v=(t == 2))
def D2 (s:Ac):M7:=s.Ends.flatMap λe=>[e == 0,e == 2]
def pre (s:Ac):M7:=D2 s ++ s.Inputs
def vals (s:Ac):M7:=pre s ++ s.Values
theorem Qo {l:M6}:(l.flatMap λe=>[e == 0,e == 2]).length=2 * l.length:=by
 induction l with
 | nil=>rfl
 | cons a l ih=>rw [LJ,GY,ih];simp;omega
theorem GE:∀ {l:M6} {j:Nat},(l.flatMap λe=>[e == 0,e == 2])[j]?=(l[j / 2]?).map λe=>if j % 2=0 then e == 0 else e == 2
 | [],j=>by simp
 | a :: l,0=>by simp
 | a :: l,1=>by simp
 | a :: l,j + 2=>by
  rw [LJ];show (List.flatMap (λe=>[e == 0,e == 2]) l)[j]?=_;rw [GE,show (j + 2) / 2=j / 2 + 1 by omega,show (j + 2) % 2=j % 2 by omega];rfl
theorem Fit.pl {c:Aa} {s:Ac} (h:Fit c s):(pre s).length=cS c:=by
 unfold pre D2;rw [GY,Qo,h.e,h.i];rfl
theorem Fit.vl {c:Aa} {s:Ac} (h:Fit c s):(vals s).length=cL c:=by
 unfold vals;rw [GY,h.pl,h.x];rfl
theorem BP {l:M6} {i:Nat} (h:i < l.length):(l.take (i + 1)).flatMap (λe=>[e == 0,e == 2])=(l.take i).flatMap (λe=>[e == 0,e == 2]) ++ [l[i] == 0,l[i] == 2]:=by
 rw [KQ,gE_ h,List.flatMap_append];simp
theorem Ph {c:Aa} {s:Ac} (hb:Bd_ c) (h1:s.Ends.length=cA c) (h2:s.Inputs.length<=1000) (h3:s.Values.length<=1000):NO FF c s=some (vals s):=by
 have ha:=hb.a';unfold NO;obtain ⟨acc,he,hl⟩:=Ri (L:=Db c s) (mk:=λi acc=>((i:Int),acc)) (N:=cA c) (I:=λi acc=>acc=(s.Ends.take i).flatMap λe=>[e == 0,e == 2]) (λn i acc hi hI=>by
  subst hI;refine ⟨_,rfl,?_⟩;rw [Db];dsimp only;have hlen:((s.Ends.take i).flatMap λe=>[e == 0,e == 2]).length<=1000:=by rw [Qo,JV];omega
  unfold app;rw [hb.a,Aj,dt_ hi,ct_,Ai,gE_ om_,ob_,ob_,if_pos (by simp only [JW,MN];omega),ob_,Am om_,BP om_]) (λn acc _=>by
  rw [Db];dsimp only;rw [hb.a,Aj,df_ om_,cf_]) FF 0 [] om_ uF rfl
 subst he;try dsimp only at hl
 rw [n0] at hl;rw [hl,ob_];dsimp only;rw [H2 om_];have h4:(s.Ends.flatMap λe=>[e == 0,e == 2]).length<=1000:=by rw [Qo];omega
 unfold app;rw [if_pos om_,ob_,if_pos (by rw [GY];omega),ob_];rfl
theorem CJ:∀ {c:Aa} {s:Ac} {n z},Ck c s n z=Db c s n z:=by
 intro c s n
 induction n with
 | zero=>intro z;rfl
 | succ n ih=>intro z;rw [Ck,Db];simp only [ih]
theorem Pi {c:Aa} {s:Ac} (hb:Bd_ c) (h1:s.Ends.length=cA c) (h2:s.Inputs.length<=1000) (h3:s.Values.length<=1000):Sj FF c s=some (vals s):=by
 rw [← Ph hb h1 h2 h3];unfold Sj NO;simp only [CJ]
theorem Mc {s:Ac} (h1:s.Ends.length<=1000):Ef s FF ((0:Int),[])=some ((s.Ends.length:Int),D2 s):=by
 obtain ⟨acc,he,hl⟩:=Ri (L:=Ef s) (mk:=λi acc=>((i:Int),acc)) (N:=s.Ends.length) (I:=λi acc=>acc=(s.Ends.take i).flatMap λe=>[e == 0,e == 2]) (λn i acc hi hI=>by
  subst hI;refine ⟨_,rfl,?_⟩;rw [Ef];dsimp only;have hlen:((s.Ends.take i).flatMap λe=>[e == 0,e == 2]).length<=10000:=by rw [Qo,JV];omega
  unfold app;rw [Aj,dt_ hi,ct_,Ai,gE_ om_,ob_,if_pos (by simp only [JW,MN];omega),ob_,Am om_,BP om_]) (λn acc _=>by
  rw [Ef];dsimp only;rw [Aj,df_ om_,cf_]) FF 0 [] om_ uF rfl
 subst he;try dsimp only at hl
 rw [n0] at hl;rw [hl,H2 om_];rfl
theorem CS {s:Ac} (h1:s.Ends.length<=1000) (h2:s.Inputs.length<=1000) (h3:s.Values.length<=1000):QC FF s=some (vals s):=by
 unfold QC;rw [Mc h1,ob_];dsimp only;have h4:(D2 s).length<=10000:=by unfold D2;rw [Qo];omega
 unfold app;rw [if_pos om_,ob_,if_pos (by rw [GY];omega),ob_];rfl
theorem CA {p q r:M7} (hp:p.length<=1000000) (hq:q.length<=1000000) (hr:r.length<=1000000):QW FF [p,q,r]=some (p ++ q ++ r):=by
 unfold QW;have h1:Ed [p,q,r] FF ((0:Int),(0:Int))=some (((p.length + q.length + r.length:Nat):Int),3):=by
  show Ed [p,q,r] (99996 + 1 + 1 + 1 + 1) _=_;unfold Ed;rw [show decide ((0:Int) < (([p,q,r]:List M7).length:Int))=true by rfl,ct_,show idx [p,q,r] 0=some p by rfl,ob_];dsimp only;rw [As om_ om_,As om_ om_,df_ om_,cf_];unfold Ed;rw [show decide ((0:Int) + 1 < (([p,q,r]:List M7).length:Int))=true by rfl,ct_,show idx [p,q,r] (0 + 1)=some q by rfl,ob_];dsimp only;rw [As om_ om_,As om_ om_,df_ om_,cf_];unfold Ed;rw [show decide ((0:Int) + 1 + 1 < (([p,q,r]:List M7).length:Int))=true by rfl,ct_,show idx [p,q,r] (0 + 1 + 1)=some r by rfl,ob_];dsimp only;rw [As om_ om_,As om_ om_,df_ om_,cf_];unfold Ed;rw [show decide ((0:Int) + 1 + 1 + 1 < (([p,q,r]:List M7).length:Int))=false by rfl,cf_];congr 1;refine Prod.ext ?_ rfl;dsimp only;omega
 have h2:Ec [p,q,r] FF ((0:Int),[])=some ((3:Int),p ++ q ++ r):=by
  show Ec [p,q,r] (99996 + 1 + 1 + 1 + 1) _=_;unfold Ec app;rw [show decide ((0:Int) < (([p,q,r]:List M7).length:Int))=true by rfl,ct_,show idx [p,q,r] 0=some p by rfl,ob_,if_pos so_,ob_];dsimp only;rw [As om_ om_];unfold Ec app;rw [show decide ((0:Int) + 1 < (([p,q,r]:List M7).length:Int))=true by rfl,ct_,show idx [p,q,r] (0 + 1)=some q by rfl,ob_,if_pos so_,ob_];dsimp only;rw [As om_ om_];unfold Ec app;rw [show decide ((0:Int) + 1 + 1 < (([p,q,r]:List M7).length:Int))=true by rfl,ct_,show idx [p,q,r] (0 + 1 + 1)=some r by rfl,ob_,if_pos so_,ob_];dsimp only;rw [As om_ om_];unfold Ec;rw [show decide ((0:Int) + 1 + 1 + 1 < (([p,q,r]:List M7).length:Int))=false by rfl,cf_];rfl
 rw [h1,ob_];unfold m273;rw [if_pos (by dsimp only;omega),ob_,h2];rfl
theorem A6:∀ {s:Ac} {n z},Oy s.Ends n z=Ef s n z:=by
 intro s n
 induction n with
 | zero=>intro z;rfl
 | succ n ih=>intro z;rw [Oy,Ef];simp only [ih]
theorem Vp {s:Ac} (h1:s.Ends.length<=1000) (h2:s.Inputs.length<=1000) (h3:s.Values.length<=1000) (a b c d e f):RA FF a b c d e f s.Ends s.Valves s.Inputs s.Values s.Timers=some (vals s):=by
 unfold RA;rw [A6,Mc h1,ob_];dsimp only;have h4:(D2 s).length<=10000:=by unfold D2;rw [Qo];omega
 rw [CA om_ om_ om_,ob_];rfl
theorem Mz {xs:M6} (h:xs.length<=1000):m33 FF xs=some xs:=by
 unfold m33 app;rw [if_pos so_];rfl
theorem Dm {xs:M7} (h:xs.length<=1000):QA FF xs=some xs:=by
 unfold QA app;rw [if_pos so_];rfl
def tup (s:Ac):M6×M7×M7×M7×M6:=(s.Ends,s.Valves,s.Inputs,s.Values,s.Timers)
theorem Dn {s:Ac} (h:Smst s 1000):NU FF s=some (tup s):=by
 obtain ⟨h1,h2,h3,h4,h5⟩:=h;unfold NU app;rw [if_pos so_,ob_,if_pos so_,ob_,if_pos so_,ob_,if_pos so_,ob_,if_pos so_,ob_];rfl
theorem Pb {s:Ac} (h:Smst s 1000):QO FF s=some (tup s):=by
 obtain ⟨h1,h2,h3,h4,h5⟩:=h;unfold QO;rw [Mz h1,ob_,Dm h2,ob_,Dm h3,ob_,Dm h4,ob_,Mz h5,ob_];rfl
theorem Wg {s:Ac} (h:Smst s 1000):QM FF s=some (tup s):=Pb h
theorem Fit.sm {c:Aa} {s:Ac} (hb:Bd_ c) (h:Fit c s):Smst s 1000:=by
 have h1:=hb.a';have h2:=hb.i;have h3:=hb.s;obtain ⟨a1,a2,a3,a4,a5⟩:=h;constructor <;> omega
def Qn (c:Aa) (p:M7) (i:Nat) (v:M7):M7:=match c.Signals[i]? with
 | some x=>if x.Kind=0 then v.set i (ev 16 (p ++ v) x.On) else v
 | none=>v
def Eu (c:Aa) (s:Ac):Nat->M7
 | 0=>s.Values
 | i + 1=>Qn c (pre s) i (Eu c s i)
def Au (c:Aa) (s:Ac):Ac:=⟨s.Ends,s.Valves,s.Inputs,Eu c s c.Signals.length,s.Timers⟩
theorem Eo {c:Aa} {s:Ac}:∀ {i:Nat},(Eu c s i).length=s.Values.length
 | 0=>rfl
 | i + 1=>by
  unfold Eu Qn;split
  ·split
   ·rw [J8,Eo]
   ·exact Eo
  ·exact Eo
theorem BS {p v:M7} {i:Nat} {b:Bool}:(p ++ v).set (p.length + i) b=p ++ v.set i b:=by
 rw [List.set_append];rw [if_neg om_];congr 2;omega
theorem Wd {c:Aa} {s:Ac} (hc:Rt c) (h:Fit c s):N0 FF c s=some (Au c s):=by
 have hb:=hc.bd;have h1:=hb.a';have h2:=hb.i;have h3:=hb.s;unfold N0;rw [Dn (h.sm hb),ob_];obtain ⟨v,he,hl⟩:=Ri (L:=Fh FF c (tup s)) (mk:=λi v=>((i:Int),v)) (N:=c.Signals.length) (I:=λi v=>v=Eu c s i) (λn i v hi hI=>by
  subst hI;refine ⟨_,rfl,?_⟩;have hx:c.Signals[i]?=some c.Signals[i]:=gE_ hi;have hvl:=Eo (c:=c) (s:=s) (i:=i);rw [Fh];dsimp only;rw [Aj,dt_ hi,ct_,Ai,hx,ob_,Am om_];show _=Fh FF c (tup s) n (((i + 1:Nat):Int),Qn c (pre s) i (Eu c s i));unfold Qn;rw [hx];dsimp only;by_cases hk:c.Signals[i].Kind=0
  ·rw [if_pos hk,show (c.Signals[i].Kind == 0)=true by simpa using hk,ct_,ob_];obtain ⟨_,_,ho,_⟩:=hc.sig _ (G1 hi);have hv:vals ⟨(tup s).1,(tup s).2.1,(tup s).2.2.1,Eu c s i,(tup s).2.2.2.2⟩=pre s ++ Eu c s i:=rfl;rw [Ph hb (by show s.Ends.length=_;exact h.e) (by show s.Inputs.length<=_;rw [h.i];omega) (by show (Eu c s i).length<=_;rw [hvl,h.x];omega),hv,ob_,Ji 16 FF _ _ (by rw [GY,h.pl,hvl,h.x];exact ho) uF,ob_,Ai,gE_ (by rw [hvl,h.x];exact hi),ob_,ob_];simp
  ·rw [if_neg hk,show (c.Signals[i].Kind == 0)=false by simpa using hk,cf_,ob_]) (λn v _=>by
  rw [Fh];dsimp only;rw [Aj,df_ om_,cf_]) FF 0 s.Values om_ uF rfl
 subst he;try dsimp only at hl
 rw [n0] at hl;show ((Fh FF c (tup s) FF ((0:Int),s.Values)).bind _)=_;rw [hl];rfl
theorem CC {c:Aa} {s:Ac} (hc:Rt c) (h:Fit c s):RF FF c.Actuators (cS c:Int) c.Inputs c.Signals c.Plus c.Minus s.Ends s.Valves s.Inputs s.Values s.Timers=some (Eu c s c.Signals.length):=by
 have hb:=hc.bd;have h1:=hb.a';have h2:=hb.i;have h3:=hb.s;obtain ⟨s1,s2,s3,s4,s5⟩:=h.sm hb;unfold RF;rw [Vp s1 s3 s4,ob_];obtain ⟨v,he,hl⟩:=Ri (L:=Hi FF (cS c:Int) c.Signals) (mk:=λi (v:M7×M7)=>((i:Int),v.1,v.2)) (N:=c.Signals.length) (I:=λi v=>v=(Eu c s i,pre s ++ Eu c s i)) (λn i v hi hI=>by
  subst hI;refine ⟨_,rfl,?_⟩;have hx:c.Signals[i]?=some c.Signals[i]:=gE_ hi;have hvl:=Eo (c:=c) (s:=s) (i:=i);have hS:cS c=2 * cA c + c.Inputs.length:=rfl;rw [Hi];dsimp only;rw [Aj,dt_ hi,ct_,Ai,hx,ob_,Am om_,As om_ om_];show _=Hi FF (cS c:Int) c.Signals n (((i + 1:Nat):Int),Qn c (pre s) i (Eu c s i),pre s ++ Qn c (pre s) i (Eu c s i));unfold Qn;rw [hx];dsimp only;by_cases hk:c.Signals[i].Kind=0
  ·rw [if_pos hk,show (c.Signals[i].Kind == 0)=true by simpa using hk,ct_];obtain ⟨_,_,ho,_⟩:=hc.sig _ (G1 hi);rw [Jh 16 FF _ _ (by rw [GY,h.pl,hvl,h.x];exact ho) uF,ob_,Ai,gE_ (by rw [hvl,h.x];exact hi),ob_,show (cS c:Int) + (i:Int)=((cS c + i:Nat):Int) by omega,Ai,gE_ (by rw [GY,h.pl,hvl,h.x];omega),ob_,ob_];dsimp only;rw [show ((cS c + i:Nat):Int).toNat=(pre s).length + i by rw [h.pl];omega,BS];simp
  ·rw [if_neg hk,show (c.Signals[i].Kind == 0)=false by simpa using hk,cf_,ob_]) (λn v _=>by
  rw [Hi];dsimp only;rw [Aj,df_ om_,cf_]) FF 0 (s.Values,vals s) om_ uF rfl
 subst he;try dsimp only at hl
 rw [n0] at hl;rw [hl];rfl
theorem okE.che:∀ {d:Nat} {n:Int} {x:Expr},okE d n x->chE d n x=0
 | 0,_,_,h=>h.elim
 | d + 1,n,x,h=>by
  unfold chE;rw [if_pos h.1];have:∀ l:List Expr,(∀ y∈l,okE d n y)->fnz (l.map (chE d n))=0:=by
   intro l
   induction l with
   | nil=>intro _;rfl
   | cons y l ih=>
    intro hl;rw [HD];unfold fnz;rw [if_pos (hl y smp_).che];exact ih λz hz=>hl z (by simp [hz])
  exact this _ h.2.2
theorem CR {n:Nat} {ls:M7} {x:Expr} (hx:Lt_ x) (ho:okE 16 n x) (hl:ls.length=n) (hn:n<=256):QJ FF x ls=some (ev 16 ls x,0):=by
 subst hl;unfold QJ;rw [Pr hx om_ om_ uF,ho.che,ob_,zf_,cf_,Vv 16 FF _ _ ho uF];rfl
theorem C3 {c:Aa} {s:Ac} (hc:Rt c) (hw:Fw c) (h:Fit c s):QK FF c s=some (tup (Au c s)):=by
 have hb:=hc.bd;have h1:=hb.a';have h2:=hb.i;have h3:=hb.s;obtain ⟨s1,s2,s3,s4,s5⟩:=h.sm hb;unfold QK;rw [Mz s1,ob_,Dm s2,ob_,Dm s3,ob_,Dm s4,ob_,Mz s5,ob_,CS s1 s3 s4,ob_];have hS:cS c=2 * cA c + c.Inputs.length:=rfl;have hL:cL c=cS c + c.Signals.length:=rfl;obtain ⟨v,he,hl⟩:=Ri (L:=Ht FF c) (mk:=λi (v:M7×M7)=>((i:Int),v.1,v.2)) (N:=c.Signals.length) (I:=λi v=>v=(Eu c s i,pre s ++ Eu c s i)) (λn i v hi hI=>by
  subst hI;refine ⟨_,rfl,?_⟩;have hx:c.Signals[i]?=some c.Signals[i]:=gE_ hi;have hvl:=Eo (c:=c) (s:=s) (i:=i);rw [Ht];dsimp only;rw [Aj,dt_ hi,ct_,Ai,hx,ob_,Jj hb,Am om_];show _=Ht FF c n (((i + 1:Nat):Int),Qn c (pre s) i (Eu c s i),pre s ++ Qn c (pre s) i (Eu c s i));unfold Qn;rw [hx];dsimp only;by_cases hk:c.Signals[i].Kind=0
  ·rw [if_pos hk,show (c.Signals[i].Kind == 0)=true by simpa using hk,ct_];obtain ⟨_,_,ho,_⟩:=hc.sig _ (G1 hi);rw [CR (hw.on _ (G1 hi)).1 ho (by rw [GY,h.pl,hvl,h.x];rfl) om_,ob_,ob_,Ai,gE_ (by rw [hvl,h.x];exact hi),ob_,As om_ om_,show (cS c:Int) + (i:Int)=((cS c + i:Nat):Int) by omega,Ai,gE_ (by rw [GY,h.pl,hvl,h.x];omega),ob_,ob_];dsimp only;rw [show ((cS c + i:Nat):Int).toNat=(pre s).length + i by rw [h.pl];omega,BS];simp
  ·rw [if_neg hk,show (c.Signals[i].Kind == 0)=false by simpa using hk,cf_,ob_]) (λn v _=>by
  rw [Ht];dsimp only;rw [Aj,df_ om_,cf_]) FF 0 (s.Values,vals s) om_ uF rfl
 subst he;try dsimp only at hl
 rw [n0] at hl;rw [show vals (⟨s.Ends,s.Valves,s.Inputs,s.Values,s.Timers⟩:Ac)=vals s from rfl,hl];rfl
def ofb (ls:M7) (x:Ad):Bool:=(x.Kind == 1) && ev 16 ls x.Off
def chg (ls:M7) (x:Ad) (v:Bool) (t:Int):Bool×Int:=
 if x.Kind=1 then (if ev 16 ls x.On=ofb ls x then (v,t) else (ev 16 ls x.On,t))
 else if x.Kind=2 then (if ev 16 ls x.On=false then (false,0) else if t=0 then (v,1) else (v,t)) else (v,t)
def Gk (c:Aa) (g:Ac) (i:Nat):Bool×Int:=match c.Signals[i]? with
 | some x=>chg (vals g) x (g.Values.getD i false) (g.Timers.getD i 0)
 | none=>(false,0)
def nxtS (c:Aa) (g:Ac):Ac:=⟨g.Ends,g.Valves,g.Inputs,(List.range g.Values.length).map λi=>(Gk c g i).1,(List.range g.Timers.length).map λi=>(Gk c g i).2⟩
def Kl (c:Aa) (s:Ac):Ac:=nxtS c (Au c s)
theorem Gb {c:Aa} {s:Ac} (h:Fit c s):Fit c (Au c s):=by
 refine ⟨h.e,h.v,h.i,Eo.trans h.x,h.t,h.ee,h.tt,?_⟩;intro i x t v hx ht hv;refine ⟨λhk=>?_,λhk=>?_⟩
 ·have hi:i < s.Values.length:=by rw [h.x];exact (GZ.1 hx).1
  exact (h.k i x t _ hx ht (gE_ hi)).1 hk
 ·-- the value of a timer is not a gate's
  have key:∀ n,(Eu c s n)[i]?=s.Values[i]?:=by
   intro n
   induction n with
   | zero=>rfl
   | succ n ih=>
    unfold Eu Qn;cases hy:c.Signals[n]? with
    | none=>exact ih
    | some y=>
     dsimp only;split
     ·rename_i h0;have:n≠i:=λe=>by subst e;rw [hx] at hy;cases hy;omega
      rw [JE this];exact ih
     ·exact ih
  have hv':(Eu c s c.Signals.length)[i]?=some v:=hv;rw [key] at hv';exact (h.k i x t v hx ht hv').2 hk
theorem GL {ls:M7} {x:Ad} {v:Bool} {t:Int} (h0:0<=t/\t < 3) (h:(x.Kind≠2->t=0)/\(x.Kind=2->v=(t == 2))) :
  (0<=(chg ls x v t).2/\(chg ls x v t).2 < 3)/\(x.Kind≠2->(chg ls x v t).2=0)/\(x.Kind=2->(chg ls x v t).1=((chg ls x v t).2 == 2)):=by
 unfold chg;by_cases h1:x.Kind=1
 ·rw [if_pos h1];split
  ·exact ⟨h0,h⟩
  ·exact ⟨h0,h.1,λh2=>by omega⟩
 ·rw [if_neg h1];by_cases h2:x.Kind=2
  ·rw [if_pos h2];split
   ·exact ⟨by simp,λh3=>absurd h2 h3,λ_=>rfl⟩
   ·split
    ·rename_i ht;refine ⟨by simp,λh3=>absurd h2 h3,λ_=>?_⟩;have:=h.2 h2;rw [ht] at this;exact this
    ·exact ⟨h0,h⟩
  ·rw [if_neg h2];exact ⟨h0,h⟩
theorem EQ {c:Aa} {g:Ac} (h:Fit c g):Fit c (nxtS c g):=by
 have hget:∀ (i:Nat) x,c.Signals[i]?=some x->∃ v t,g.Values[i]?=some v/\g.Timers[i]?=some t/\Gk c g i=chg (vals g) x v t:=by
  intro i x hx;have hi:=(GZ.1 hx).1;have h1:i < g.Values.length:=by rw [h.x];exact hi
  have h2:i < g.Timers.length:=by rw [h.t];exact hi
  refine ⟨g.Values[i],g.Timers[i],gE_ h1,gE_ h2,?_⟩;unfold Gk;rw [hx];simp [gE_ h1,gE_ h2]
 refine ⟨h.e,h.v,h.i,by simp [nxtS,h.x],by simp [nxtS,h.t],h.ee,?_,?_⟩
 ·intro a ha;obtain ⟨i,hi,rfl⟩:=H6.1 ha;have hi:i < c.Signals.length:=by have:=HC.1 hi;rw [h.t] at this;exact this
  obtain ⟨v,t,h1,h2,h3⟩:=hget i _ (gE_ hi);rw [h3];exact (GL (h.tt t (G6 h2)) (h.k i _ t v (gE_ hi) h2 h1)).1
 ·intro i x t v hx ht hv;obtain ⟨v0,t0,h1,h2,h3⟩:=hget i x hx;have hi:=(GZ.1 hx).1;have ht':((List.range g.Timers.length).map λi=>(Gk c g i).2)[i]?=some t:=ht;have hv':((List.range g.Values.length).map λi=>(Gk c g i).1)[i]?=some v:=hv;rw [HJ,JC (by rw [h.t];exact hi)] at ht';rw [HJ,JC (by rw [h.x];exact hi)] at hv';have ht':=Option.some.inj ht';have hv':=Option.some.inj hv';dsimp only at ht' hv';rw [h3] at ht' hv';subst ht';subst hv';exact (GL (h.tt t0 (G6 h2)) (h.k i x t0 v0 hx h2 h1)).2
theorem Td {c:Aa} {s:Ac} (h:Fit c s):Fit c (Kl c s):=EQ (Gb h)
theorem Vo {c:Aa} {x:Ad} {ls:M7} (hl:ls.length=cL c) (ho:okE 16 (cL c) x.On) (hf:x.Kind=1->okE 16 (cL c) x.Off):NS FF x ls=some (ev 16 ls x.On,ofb ls x):=by
 unfold NS ofb;rw [Ji 16 FF _ _ (by rw [hl];exact ho) uF,ob_];by_cases hk:x.Kind=1
 ·rw [show (x.Kind == 1)=true by simpa using hk,ct_,Ji 16 FF _ _ (by rw [hl];exact hf hk) uF];rfl
 ·rw [show (x.Kind == 1)=false by simpa using hk];rfl
theorem CB {c:Aa} {g:Ac} (hc:Rt c) (h:Fit c g) {i:Nat} {x:Ad} (hx:c.Signals[i]?=some x):∃ s' b,NW FF c g (i:Int)=some (s',b)/\s'.Values[i]?=some (Gk c g i).1/\s'.Timers[i]?=some (Gk c g i).2:=by
 have hb:=hc.bd;have h1:=hb.a';have h2:=hb.i;have h3:=hb.s;have hi:=(GZ.1 hx).1;obtain ⟨k0,k3,ho,hf⟩:=hc.sig x (G6 hx);have hv0:i < g.Values.length:=by rw [h.x];exact hi
 have ht0:i < g.Timers.length:=by rw [h.t];exact hi
 have hv:g.Values[i]?=some g.Values[i]:=gE_ hv0;have ht:g.Timers[i]?=some g.Timers[i]:=gE_ ht0;generalize g.Values[i]=v at hv;generalize g.Timers[i]=t at ht;have hci:Gk c g i=chg (vals g) x v t:=by
  unfold Gk;rw [hx];simp [hv,ht]
 unfold NW;rw [Dn (h.sm hb),ob_,Ai,hx,ob_,Pi hb h.e (by rw [h.i];omega) (by rw [h.x];omega),ob_,Vo h.vl ho hf,ob_,hci];unfold tup chg;dsimp only;simp only [Ai,hv,ht,ob_,HO];have hvl:i < g.Values.length:=by rw [h.x];exact hi
 have htl:i < g.Timers.length:=by rw [h.t];exact hi
 have hk:x.Kind=0\/x.Kind=1\/x.Kind=2:=by omega
 rcases hk with k | k | k <;> rw [k]
 ·simp only [show ((0:Int) == 1)=false by rfl,show ((0:Int) == 2)=false by rfl,JS,cf_,ob_,show ¬ ((0:Int)=1) by omega,show ¬ ((0:Int)=2) by omega,if_false];exact ⟨_,_,rfl,hv,ht⟩
 ·simp only [show ((1:Int) == 1)=true by rfl,show ((1:Int) == 2)=false by rfl,JJ,JS,cf_,ob_,if_true];by_cases e:ev 16 (vals g) x.On=ofb (vals g) x
  ·rw [if_pos e,e];simp only [bne_self_eq_false,cf_];exact ⟨_,_,rfl,hv,ht⟩
  ·rw [if_neg e,show (ev 16 (vals g) x.On != ofb (vals g) x)=true by simpa using e,ct_];exact ⟨_,_,rfl,by dsimp only;rw [H3 hvl],ht⟩
 ·simp only [show ((2:Int) == 1)=false by rfl,show ((2:Int) == 2)=true by rfl,JJ,JS,cf_,ct_,ob_,show ¬ ((2:Int)=1) by omega,if_false,if_true];cases ev 16 (vals g) x.On with
  | false=>
   simp only [J2,ct_,if_true];exact ⟨_,_,rfl,by dsimp only;rw [H3 hvl],by dsimp only;rw [H3 htl]⟩
  | true=>
   simp only [J3,cf_,show ¬ (true=false) by simp,if_false];by_cases e:t=0
   ·rw [if_pos e,show (t == 0)=true by simpa using e,ct_];exact ⟨_,_,rfl,hv,by dsimp only;rw [H3 htl];rfl⟩
   ·rw [if_neg e,show (t == 0)=false by simpa using e,cf_];exact ⟨_,_,rfl,hv,ht⟩
def onPi (c:Aa) (g:Ac) (i:Nat) (x:Int):Prop:=∃ j sig,j < i/\c.Signals[j]?=some sig/\x=((cS c + j:Nat):Int)/\(ev 16 (vals g) sig.On && ofb (vals g) sig)=true
def onP (c:Aa) (s:Ac) (x:Int):Prop:=onPi c (Au c s) c.Signals.length x
theorem Ut {c:Aa} {g:Ac} {x:Int}:¬ onPi c g 0 x:=λ⟨j,_,h,_⟩=>by omega
theorem Uu {c:Aa} {g:Ac} {i:Nat} {x:Int} (hi:i < c.Signals.length):onPi c g (i + 1) x↔onPi c g i x\/(x=((cS c + i:Nat):Int)/\(ev 16 (vals g) c.Signals[i].On && ofb (vals g) c.Signals[i])=true):=by
 constructor
 ·rintro ⟨j,sig,h1,h2,h3,h4⟩;by_cases h:j=i
  ·subst h;rw [gE_ hi] at h2;cases h2;exact .inr ⟨h3,h4⟩
  ·exact .inl ⟨j,sig,by omega,h2,h3,h4⟩
 ·rintro (⟨j,sig,h1,h2,h3,h4⟩ | ⟨h3,h4⟩)
  ·exact ⟨j,sig,by omega,h2,h3,h4⟩
  ·exact ⟨i,_,by omega,gE_ hi,h3,h4⟩
theorem onP_lt {c:Aa} {s:Ac} {x:Int} (h:onP c s x):∃ k:Nat,x=k/\k < cL c:=by
 obtain ⟨j,_,h1,_,h3,_⟩:=h;exact ⟨_,h3,by have hL:cL c=cS c + c.Signals.length:=rfl;omega⟩
theorem B6 {l:M6} {x y:Int} {b:Bool} {p:Int->Prop} (h:∀ x,x∈l↔p x):x∈(if b=true then l ++ [y] else l)↔p x\/(x=y/\b=true):=by
 cases b
 ·rw [if_neg smp_,h];simp
 ·rw [if_pos rfl,G9,h];simp
theorem CD {c:Aa} {s:Ac} (hc:Rt c) (h:Fit c s):∃ l,N2 FF c s=some (Kl c s,l)/\l.length<=c.Signals.length/\∀ x,x∈l↔onP c s x:=by
 have hb:=hc.bd;have h1:=hb.a';have h2:=hb.i;have h3:=hb.s;have hg:=Gb h;have hS:cS c=2 * cA c + c.Inputs.length:=rfl;unfold N2;rw [Wd hc h,ob_,Dn (hg.sm hb),ob_];generalize hgg:Au c s=g at hg;have hvl:g.Values.length=c.Signals.length:=hg.x;have htl:g.Timers.length=c.Signals.length:=hg.t;obtain ⟨v,he,hl⟩:=Ri (L:=Hj FF c g) (mk:=λi (v:M7×M6×M6)=>((i:Int),v.1,v.2.1,v.2.2)) (N:=c.Signals.length) (I:=λi v=>v.1=upd (λi=>(Gk c g i).1) g.Values i/\v.2.1=upd (λi=>(Gk c g i).2) g.Timers i/\v.2.2.length<=i/\∀ x,x∈v.2.2↔onPi c g i x) (λn i v hi hI=>by
  obtain ⟨V,T,l⟩:=v;obtain ⟨rfl,rfl,hll,hmm⟩:=hI;have hx:c.Signals[i]?=some c.Signals[i]:=gE_ hi;obtain ⟨_,_,ho,hf⟩:=hc.sig _ (G1 hi);obtain ⟨s',b,e1,e2,e3⟩:=CB hc hg hx;have e4:(upd (λi=>(Gk c g i).1) g.Values i)[i]?=some g.Values[i]:=by rw [Cj (HB i)];exact gE_ om_
  have e5:(upd (λi=>(Gk c g i).2) g.Timers i)[i]?=some g.Timers[i]:=by rw [Cj (HB i)];exact gE_ om_
  refine ⟨(upd (λi=>(Gk c g i).1) g.Values (i + 1),upd (λi=>(Gk c g i).2) g.Timers (i + 1),if (ev 16 (vals g) c.Signals[i].On && ofb (vals g) c.Signals[i])=true then l ++ [((cS c + i:Nat):Int)] else l),⟨rfl,rfl,?_⟩,?_⟩
  ·dsimp only at hll hmm ⊢;refine ⟨by split <;> (try simp) <;> omega,λx=>?_⟩
   rw [B6 hmm,Uu hi]
  ·rw [Hj];dsimp only at hll ⊢;rw [Aj,dt_ hi,ct_,e1,ob_];dsimp only;rw [Ai,e2,ob_,Ai,e3,ob_,Ai,e4,ob_,Ai,e5,ob_,Ai,hx,ob_,Pi hb hg.e (by rw [hg.i];omega) om_,ob_,Vo hg.vl ho hf,ob_];dsimp only;unfold NZ;rw [Ff hb,ob_,As om_ om_,show (cS c:Int) + (i:Int)=((cS c + i:Nat):Int) by omega,Am om_,HO,Dv om_ rfl,Dv om_ rfl];cases ev 16 (vals g) c.Signals[i].On && ofb (vals g) c.Signals[i] with
   | true=>
    unfold app;rw [ct_,ob_,if_pos so_];rfl
   | false=>rfl) (λn v _=>by
  rw [Hj];dsimp only;rw [Aj,df_ om_,cf_]) FF 0 (g.Values,g.Timers,[]) om_ uF ⟨Ch.symm,Ch.symm,by simp,λx=>by simp [Ut]⟩
 obtain ⟨V,T,l⟩:=v;obtain ⟨rfl,rfl,hll,hmm⟩:=he;try dsimp only at hl hll hmm
 rw [n0] at hl;show ∃ l,((Hj FF c g FF ((0:Int),g.Values,g.Timers,[])).bind _)=_/\_;rw [hl];refine ⟨l,?_,hll,by unfold onP;rw [hgg];exact hmm⟩;unfold Kl nxtS;rw [hgg,ob_];dsimp only;have e1:upd (λi=>(Gk c g i).1) g.Values c.Signals.length=(List.range g.Values.length).map λi=>(Gk c g i).1:=by rw [← hvl];exact Dw
 have e2:upd (λi=>(Gk c g i).2) g.Timers c.Signals.length=(List.range g.Timers.length).map λi=>(Gk c g i).2:=by rw [← htl];exact Dw
 rw [e1,e2];rfl
theorem CF {c:Aa} {s:Ac} (hc:Rt c) (h:Fit c s):∃ l,RG FF c.Actuators (cS c:Int) c.Inputs c.Signals c.Plus c.Minus s.Ends s.Valves s.Inputs s.Values s.Timers=some (!sst s (Kl c s),l,(Kl c s).Values,(Kl c s).Timers)/\l.length<=c.Signals.length/\∀ x,x∈l↔onP c s x:=by
 have hb:=hc.bd;have h1:=hb.a';have h2:=hb.i;have h3:=hb.s;have hg:=Gb h;have hS:cS c=2 * cA c + c.Inputs.length:=rfl;obtain ⟨s1,s2,s3,s4,s5⟩:=hg.sm hb;unfold RG Q6;rw [show (⟨s.Ends,s.Valves,s.Inputs,s.Values,s.Timers⟩:Ac)=s from rfl,Pb (h.sm hb),ob_,CC hc h,ob_];have h318:=Vp (s:=Au c s) s1 s3 s4 c.Actuators (cS c:Int) c.Inputs c.Signals c.Plus c.Minus;rw [show (Au c s).Ends=s.Ends from rfl,show (Au c s).Valves=s.Valves from rfl,show (Au c s).Inputs=s.Inputs from rfl,show (Au c s).Timers=s.Timers from rfl,show (Au c s).Values=Eu c s c.Signals.length from rfl] at h318;rw [h318,ob_,ob_];have hvl:(Eu c s c.Signals.length).length=c.Signals.length:=hg.x;have htl:s.Timers.length=c.Signals.length:=hg.t;obtain ⟨v,he,hl⟩:=Ri (L:=Ks FF (cS c:Int) c.Signals (vals (Au c s))) (mk:=λi (v:M7×M6×M6)=>((i:Int),v.1,v.2.1,v.2.2)) (N:=c.Signals.length) (I:=λi v=>v.1=upd (λi=>(Gk c (Au c s) i).1) (Eu c s c.Signals.length) i/\v.2.1=upd (λi=>(Gk c (Au c s) i).2) s.Timers i/\v.2.2.length<=i/\∀ x,x∈v.2.2↔onPi c (Au c s) i x) (λn i v hi hI=>by
  obtain ⟨V,T,l⟩:=v;obtain ⟨rfl,rfl,hll,hmm⟩:=hI;have hx:c.Signals[i]?=some c.Signals[i]:=gE_ hi;obtain ⟨k0,k3,ho,hf⟩:=hc.sig _ (G1 hi);have e4:(upd (λi=>(Gk c (Au c s) i).1) (Eu c s c.Signals.length) i)[i]?=some (Eu c s c.Signals.length)[i]:=by rw [Cj (HB i)];exact gE_ om_
  have e5:(upd (λi=>(Gk c (Au c s) i).2) s.Timers i)[i]?=some s.Timers[i]:=by rw [Cj (HB i)];exact gE_ om_
  have hci:Gk c (Au c s) i=chg (vals (Au c s)) c.Signals[i] (Eu c s c.Signals.length)[i] s.Timers[i]:=by
   unfold Gk;rw [hx];simp [Au,gE_ (show i < (Eu c s c.Signals.length).length by omega),gE_ (show i < s.Timers.length by omega)]
  have hbody:∃ b,(((bif (c.Signals[i].Kind.toNat) == 0 then Q3 FF (⟨(Eu c s c.Signals.length)[i],s.Timers[i],false⟩:Af) (ev 16 (vals (Au c s)) c.Signals[i].On) (ofb (vals (Au c s)) c.Signals[i]) else bif (c.Signals[i].Kind.toNat) == 1 then Q4 FF (⟨(Eu c s c.Signals.length)[i],s.Timers[i],false⟩:Af) (ev 16 (vals (Au c s)) c.Signals[i].On) (ofb (vals (Au c s)) c.Signals[i]) else bif (c.Signals[i].Kind.toNat) == 2 then Q5 FF (⟨(Eu c s c.Signals.length)[i],s.Timers[i],false⟩:Af) (ev 16 (vals (Au c s)) c.Signals[i].On) (ofb (vals (Au c s)) c.Signals[i]) else none)))=some (⟨(Gk c (Au c s) i).1,(Gk c (Au c s) i).2,b⟩:Af)/\b=(ev 16 (vals (Au c s)) c.Signals[i].On && ofb (vals (Au c s)) c.Signals[i]):=by
   rw [hci];have hk:c.Signals[i].Kind=0\/c.Signals[i].Kind=1\/c.Signals[i].Kind=2:=by omega
   unfold chg;rcases hk with k | k | k <;> rw [k]
   ·exact ⟨false,rfl,by unfold ofb;rw [k];simp⟩
   ·rw [show ((1:Int).toNat == 0)=false by rfl,show ((1:Int).toNat == 1)=true by rfl,cf_,ct_,if_pos rfl];unfold Q4;cases ev 16 (vals (Au c s)) c.Signals[i].On <;> cases ofb (vals (Au c s)) c.Signals[i] <;> exact ⟨_,rfl,rfl⟩
   ·rw [show ((2:Int).toNat == 0)=false by rfl,show ((2:Int).toNat == 1)=false by rfl,show ((2:Int).toNat == 2)=true by rfl,cf_,cf_,ct_,if_neg om_,if_pos rfl];unfold Q5;cases ev 16 (vals (Au c s)) c.Signals[i].On with
    | false=>exact ⟨_,rfl,rfl⟩
    | true=>
     rw [nt_,cf_,if_neg smp_];by_cases e:s.Timers[i]=0
     ·rw [if_pos e,show (s.Timers[i] == 0)=true by simpa using e];exact ⟨_,rfl,by unfold ofb;rw [k];rfl⟩
     ·rw [if_neg e,show (s.Timers[i] == 0)=false by simpa using e];exact ⟨_,rfl,by unfold ofb;rw [k];rfl⟩
  obtain ⟨b,hbody,hbe⟩:=hbody;refine ⟨(upd (λi=>(Gk c (Au c s) i).1) (Eu c s c.Signals.length) (i + 1),upd (λi=>(Gk c (Au c s) i).2) s.Timers (i + 1),if b=true then l ++ [((cS c + i:Nat):Int)] else l),⟨rfl,rfl,?_⟩,?_⟩
  ·dsimp only at hll hmm ⊢;refine ⟨by split <;> (try simp) <;> omega,λx=>?_⟩
   rw [B6 hmm,Uu hi,← hbe]
  ·rw [Ks];dsimp only at hll ⊢;have hr3:idx (List.range 3) c.Signals[i].Kind=some c.Signals[i].Kind.toNat:=by
    have hk:c.Signals[i].Kind=0\/c.Signals[i].Kind=1\/c.Signals[i].Kind=2:=by omega
    rcases hk with k | k | k <;> rw [k] <;> rfl
   have hoff:(bif (c.Signals[i].Kind == 1) then (Q1 FF (c.Signals[i].Off) (vals (Au c s))).bind λx19=>some x19 else some false)=some (ofb (vals (Au c s)) c.Signals[i]):=by
    unfold ofb;by_cases hk:c.Signals[i].Kind=1
    ·rw [show (c.Signals[i].Kind == 1)=true by simpa using hk,ct_,Jh 16 FF _ _ (by rw [hg.vl];exact hf hk) uF];rfl
    ·rw [show (c.Signals[i].Kind == 1)=false by simpa using hk];rfl
   rw [Aj,dt_ hi,ct_,Ai,hx,ob_,hr3,ob_,Ai,e4,ob_,Ai,e5,ob_,Jh 16 FF _ _ (by rw [hg.vl];exact ho) uF,ob_,hoff,ob_,hbody,ob_,ob_,ob_];dsimp only;rw [As om_ om_,show (cS c:Int) + (i:Int)=((cS c + i:Nat):Int) by omega,Am om_,HO,Dv om_ rfl,Dv om_ rfl];cases b with
   | true=>
    unfold app;rw [ct_,if_pos so_];rfl
   | false=>rfl) (λn v _=>by
  rw [Ks];dsimp only;rw [Aj,df_ om_,cf_]) FF 0 (Eu c s c.Signals.length,s.Timers,[]) om_ uF ⟨Ch.symm,Ch.symm,by simp,λx=>by simp [Ut]⟩
 obtain ⟨V,T,l⟩:=v;obtain ⟨rfl,rfl,hll,hmm⟩:=he;try dsimp only at hl hll hmm
 rw [n0] at hl;rw [hl,ob_];dsimp only;have e1:upd (λi=>(Gk c (Au c s) i).1) (Eu c s c.Signals.length) c.Signals.length=(Kl c s).Values:=by
  unfold Kl nxtS;dsimp only
  conv=>lhs;rw [show c.Signals.length=(Eu c s c.Signals.length).length from hvl.symm]
  rw [show (Au c s).Values=Eu c s c.Signals.length from rfl,hvl];rw [← hvl,hvl];have:=Dw (f:=λi=>(Gk c (Au c s) i).1) (l:=Eu c s c.Signals.length);rw [hvl] at this;exact this
 have e2:upd (λi=>(Gk c (Au c s) i).2) s.Timers c.Signals.length=(Kl c s).Timers:=by
  have:=Dw (f:=λi=>(Gk c (Au c s) i).2) (l:=s.Timers);rw [htl] at this;rw [this];unfold Kl nxtS;dsimp only;rw [show (Au c s).Timers=s.Timers from rfl,htl]
 rw [e1,e2];refine ⟨l,?_,hll,hmm⟩;have e3:(⟨s.Ends,s.Valves,s.Inputs,(Kl c s).Values,(Kl c s).Timers⟩:Ac)=Kl c s:=rfl;unfold tup;dsimp only;rw [e3,Pu (n:=1000) (h.sm hb) uF om_];rfl
end Go.Pn
namespace Go.Pn
open Go
theorem Aq {α:Type} {xs ys:List α} (h:xs.length + ys.length<=1073741824):app xs ys=some (xs ++ ys):=if_pos h
def stl (c:Aa):Nat->Ac->Option Ac
 | 0,_=>none
 | k + 1,s=>if sst s (Kl c s)=true then some s else stl c k (Kl c s)
structure Kp (s t:Ac):Prop where
 e:t.Ends=s.Ends
 v:t.Valves=s.Valves
 i:t.Inputs=s.Inputs
theorem Ln {c:Aa}:∀ {k:Nat} {s t:Ac},Fit c s->stl c k s=some t->Fit c t/\Kp s t/\sst t (Kl c t)=true
 | 0,_,_,_,h=>by cases h
 | k + 1,s,t,hf,h=>by
  unfold stl at h;split at h
  ·rename_i h1;obtain rfl:=Option.some.inj h;exact ⟨hf,⟨rfl,rfl,rfl⟩,h1⟩
  ·obtain ⟨h1,⟨h2,h3,h4⟩,h5⟩:=Ln (Td hf) h;exact ⟨h1,⟨h2,h3,h4⟩,h5⟩
def Cs (l:M6) (p:Int->Prop):Prop:=l.Pairwise (· < ·)/\∀ x,x∈l↔p x
theorem Cs.eq {l l':M6} {p:Int->Prop} (h:Cs l p) (h':Cs l' p):l=l':=Rl h.1 h'.1 λk=>(h.2 k).trans (h'.2 k).symm
theorem Cs.iff {l:M6} {p q:Int->Prop} (h:Cs l p) (e:∀ x,p x↔q x):Cs l q:=⟨h.1,λx=>(h.2 x).trans (e x)⟩
theorem Cs.nil {p:Int->Prop} (h:∀ x,¬ p x):Cs [] p:=⟨.nil,λx=>by simp [h x]⟩
theorem Cs.snoc {l:M6} {p:Int->Prop} {y:Int} (h:Cs l p) (hy:∀ x,p x->x < y):Cs (l ++ [y]) λx=>p x\/x=y:=
 ⟨List.pairwise_append.2 ⟨h.1,by simp,λa ha b hb=>by
  obtain rfl:b=y:=by simpa using hb
  exact hy a ((h.2 a).1 ha)⟩,λx=>by rw [G9,h.2];simp⟩
theorem BC {zs:M6} (h:zs.Pairwise (·<=·)):Cs (Lib.compact zs) (·∈zs):=by
 have hle:∀ i j,(_:i<=j)->(hj:j < zs.length)->zs[i]'om_<=zs[j]:=λi j hij hj=>by
  by_cases e:i=j
  ·subst e;exact L6 _
  ·exact J4.1 h i j om_ hj om_
 have hd:∀ i,(hi:i < zs.length)->zs.toArray[i]! = zs[i]:=λi hi=>by simp [hi]
 unfold Lib.compact Lib.compactUpTo;constructor
 ·rw [List.pairwise_map];refine (List.Pairwise.filter _ List.pairwise_lt_range).imp_of_mem λ{a b} ha hb hab=>?_;obtain ⟨ha1,_⟩:=KJ.1 ha;obtain ⟨hb1,hb2⟩:=KJ.1 hb;have ha1:=HC.1 ha1;have hb1:=HC.1 hb1;have hk:zs.toArray[b]! ≠ zs.toArray[b - 1]!:=(of_decide_eq_true hb2).resolve_left om_;rw [hd b hb1,hd (b - 1) om_] at hk;rw [hd a ha1,hd b hb1];have h1:=hle a (b - 1) om_ om_;have h2:=hle (b - 1) b om_ hb1;omega
 ·intro x;constructor
  ·intro hx;obtain ⟨i,hi,rfl⟩:=H6.1 hx;have hi:=HC.1 (KJ.1 hi).1;rw [hd i hi];exact G1 hi
  ·intro hx;cases hf:zs.findIdx? (· == x) with
   | none=>
    rw [H5] at hf;have:=hf x hx;simp at this
   | some i=>
    obtain ⟨hi,h1,h2⟩:=HT.1 hf;have h1:zs[i]=x:=by simpa using h1
    refine H6.2 ⟨i,KJ.2 ⟨List.mem_range.2 hi,dt_ ?_⟩,by rw [hd i hi,h1]⟩;by_cases h0:i=0
    ·exact .inl h0
    ·right;rw [hd i hi,hd (i - 1) om_,h1];have:=h2 (i - 1) om_;exact λe=>this (by simp [← e])
theorem Yc {l:M6} (h:l.length<=900000000):∃ r1 r2,m82 FF l=some r1/\m208 FF r1=some r2/\r2.length<=l.length/\Cs r2 (·∈l):=by
 have hl:(isort l).length=l.length:=(isort_perm l).length_eq;refine ⟨isort l,Lib.compact (isort l),by unfold m82;rw [if_pos om_],by unfold m208;rw [if_pos om_],by rw [← hl];exact compact_le _,?_⟩;have hs:=isort_pw l;exact (BC hs).iff λx=>(isort_perm l).mem_iff
def AV (c:Aa):Nat->Ac->Int->Prop
 | 0,_,_=>False
 | k + 1,s,x=>onP c s x\/(sst s (Kl c s)=false/\AV c k (Kl c s) x)
def mgP (m:List (Int×Bool)) (x:Int):Prop:=(mat Dr m x).getD false=true
theorem Vs (x6:Ac×M6) (hl:x6.2.length<=1000) (m:List (Int×Bool)):∃ z m',Hl x6 FF ((0:Int),m)=some (z,m')/\∀ x,mgP m' x↔mgP m x\/x∈x6.2:=by
 obtain ⟨v,hv,h⟩:=Ri (L:=Hl x6) (mk:=λi (m:List (Int×Bool))=>((i:Int),m)) (N:=x6.2.length) (I:=λi v=>∀ x,mgP v x↔mgP m x\/x∈x6.2.take i) (λn i v hi hI=>by
  refine ⟨Dy Dr v x6.2[i] true,λx=>?_,?_⟩
  ·have h1:mgP (Dy Dr v x6.2[i] true) x↔x=x6.2[i]\/mgP v x:=by
    unfold mgP;rw [mat_put];split
    ·rename_i e;simp [e]
    ·rename_i e;simp [e]
   rw [h1,hI,KQ,gE_ hi,G9];simp only [Option.toList_some,KE];constructor
   ·rintro (h | h | h)
    ·exact .inr (.inr h)
    ·exact .inl h
    ·exact .inr (.inl h)
   ·rintro (h | h | h)
    ·exact .inr (.inl h)
    ·exact .inr (.inr h)
    ·exact .inl h
  ·rw [Hl];dsimp only;rw [Aj,dt_ hi,ct_,Ai,gE_ hi,ob_,Am om_]) (λn m _=>by
  rw [Hl];dsimp only;rw [Aj,df_ om_,cf_]) FF 0 m om_ uF (λx=>by simp)
 try dsimp only at h
 rw [n0] at h;rw [LM] at hv;exact ⟨_,_,h,hv⟩
theorem Vr {c:Aa} (hb:Bd_ c) (o:Int×List (Int×Bool)):∃ z l,Hk FF c o FF ((0:Int),[])=some (z,l)/\l.length<=cL c/\Cs l λx=>∃ k:Nat,x=k/\k < cL c/\mgP o.2 x:=by
 have h1:=hb.a';have h2:=hb.i;have h3:=hb.s;have hS:cS c=2 * cA c + c.Inputs.length:=rfl;have hL:cL c=cS c + c.Signals.length:=rfl;obtain ⟨v,⟨hv,hw⟩,h⟩:=Ri (L:=Hk FF c o) (mk:=λi (m:M6)=>((i:Int),m)) (N:=cL c) (I:=λi l=>l.length<=i/\Cs l λx=>∃ k:Nat,x=k/\k < i/\mgP o.2 x) (λn i m hi hI=>by
  obtain ⟨hI,hC⟩:=hI;rw [Hk];dsimp only;rw [Fe hb,ob_,Aj,dt_ hi,ct_,Am om_];cases hm:(mat Dr o.2 (i:Int)).getD false with
  | true=>
   unfold app;rw [ct_,if_pos so_];refine ⟨m ++ [(i:Int)],⟨by simp;omega,(hC.snoc (y:=(i:Int)) λx ⟨k,hk,hk2,_⟩=>by omega).iff λx=>?_⟩,rfl⟩;constructor
   ·rintro (⟨k,a1,a2,a3⟩ | rfl)
    ·exact ⟨k,a1,by omega,a3⟩
    ·exact ⟨i,rfl,by omega,hm⟩
   ·rintro ⟨k,rfl,a2,a3⟩;by_cases e:k=i
    ·subst e;exact .inr rfl
    ·exact .inl ⟨k,rfl,by omega,a3⟩
  | false=>
   refine ⟨m,⟨by omega,hC.iff λx=>?_⟩,rfl⟩;constructor
   ·rintro ⟨k,a1,a2,a3⟩;exact ⟨k,a1,by omega,a3⟩
   ·rintro ⟨k,rfl,a2,a3⟩;by_cases e:k=i
    ·subst e;unfold mgP at a3;rw [hm] at a3;cases a3
    ·exact ⟨k,rfl,by omega,a3⟩) (λn m _=>by
  rw [Hk];dsimp only;rw [Fe hb,ob_,Aj,df_ om_,cf_]) FF 0 [] om_ uF ⟨by simp,Cs.nil λx ⟨k,_,h,_⟩=>by omega⟩
 try dsimp only at h
 rw [n0] at h;exact ⟨_,_,h,hv,hw⟩
theorem Ma {c:Aa} (hc:Rt c):∀ (k n j:Nat) (s:Ac) (m:List (Int×Bool)),j + k=65->k < n->Fit c s ->
  match stl c k s with
  | some t=>∃ l z,Hm FF c n ((j:Int),s,m)=some (.ret (t,l,z,true))/\l.length<=100/\Cs l λx=>(∃ k:Nat,x=k/\k < cL c/\mgP m x)\/AV c k s x
  | none=>∃ q,Hm FF c n ((j:Int),s,m)=some (.brk q)
 | _,0,_,_,_,_,h,_=>by omega
 | 0,n + 1,j,s,m,h1,h2,hf=>by
  unfold stl Hm;dsimp only;rw [show decide ((j:Int)<=64)=false by simp;omega,cf_];exact ⟨_,rfl⟩
 | k + 1,n + 1,j,s,m,h1,h2,hf=>by
  have hb:=hc.bd;have h3:=hb.s;have hS:cS c=2 * cA c + c.Inputs.length:=rfl;have hL:cL c=cS c + c.Signals.length:=rfl;obtain ⟨l,e1,hl,hmm⟩:=CD hc hf;obtain ⟨z,m',e2,hm'⟩:=Vs (Kl c s,l) (by dsimp only;omega) m;dsimp only at hm';have hin:∀ x:Int,(∃ k:Nat,x=k/\k < cL c/\mgP m' x)↔(∃ k:Nat,x=k/\k < cL c/\mgP m x)\/onP c s x:=λx=>by
   constructor
   ·rintro ⟨k,a1,a2,a3⟩;rcases (hm' x).1 a3 with h | h
    ·exact .inl ⟨k,a1,a2,h⟩
    ·exact .inr ((hmm x).1 h)
   ·rintro (⟨k,a1,a2,a3⟩ | h)
    ·exact ⟨k,a1,a2,(hm' x).2 (.inl a3)⟩
    ·obtain ⟨k,a1,a2⟩:=onP_lt h;exact ⟨k,a1,a2,(hm' x).2 (.inr ((hmm x).2 h))⟩
  have ho:=Td hf;unfold stl Hm;dsimp only;rw [show decide ((j:Int)<=64)=true by simp;omega,ct_,e1,ob_,e2,ob_,Qg (n:=1000) (ho.sm hb) uF om_,ob_,show sst (Kl c s) s=sst s (Kl c s) from Sy];cases hs:sst s (Kl c s) with
  | true=>
   obtain ⟨z2,l2,e3,hl2,hC⟩:=Vr hb (z,m');rw [if_pos rfl,ct_,e3,ob_];have:=hb.a';have:=hb.i;refine ⟨l2,(j:Int),rfl,by omega,hC.iff λx=>?_⟩;rw [hin,AV,hs];simp
  | false=>
   rw [if_neg smp_,cf_,Am om_];have ih:=Ma hc k n (j + 1) (Kl c s) m' om_ om_ ho;cases hst:stl c k (Kl c s) with
   | none=>rw [hst] at ih;exact ih
   | some t=>
    rw [hst] at ih;obtain ⟨l',z',e4,hl',hC⟩:=ih;refine ⟨l',z',e4,hl',hC.iff λx=>?_⟩;rw [hin,AV,hs];simp [or_assoc]
theorem CM {c:Aa} {s:Ac} (hc:Rt c) (hf:Fit c s):match stl c 65 s with
  | some t=>∃ l,N4 FF c s=some (t,l,true)/\l.length<=100/\Cs l (AV c 65 s)
  | none=>∃ a l,N4 FF c s=some (a,l,false):=by
 have h:=Ma hc 65 FF 0 s [] om_ uF hf;rw [n0] at h;unfold N4 N3;cases hs:stl c 65 s with
 | none=>rw [hs] at h;obtain ⟨q,h⟩:=h;rw [h];exact ⟨_,_,rfl⟩
 | some t=>
  rw [hs] at h;obtain ⟨l,z,h,hl,hC⟩:=h;rw [h];refine ⟨l,rfl,hl,hC.iff λx=>?_⟩;constructor
  ·rintro (⟨_,_,_,h⟩ | h)
   ·cases h
   ·exact h
  ·exact .inr
theorem Mb {c:Aa} (hc:Rt c):∀ (k n j:Nat) (s:Ac) (q:M6),j + k=65->k < n->Fit c s->q.length<=16 * j ->
  match stl c k s with
  | some t=>∃ l z,Hn FF c.Actuators (cS c:Int) c.Inputs c.Signals c.Plus c.Minus s.Ends s.Valves s.Inputs n ((j:Int),s.Values,s.Timers,q)=some (.ret (z,0,t.Values,t.Timers,l))/\l.length<=2000/\Cs l λx=>x∈q\/AV c k s x
  | none=>∃ q',Hn FF c.Actuators (cS c:Int) c.Inputs c.Signals c.Plus c.Minus s.Ends s.Valves s.Inputs n ((j:Int),s.Values,s.Timers,q)=some (.brk q')
 | _,0,_,_,_,_,h,_,_=>by omega
 | 0,n + 1,j,s,q,h1,h2,hf,hq=>by
  unfold stl Hn;dsimp only;rw [show decide ((j:Int)<=64)=false by simp;omega,cf_];exact ⟨_,rfl⟩
 | k + 1,n + 1,j,s,q,h1,h2,hf,hq=>by
  have hb:=hc.bd;have h3:=hb.s;obtain ⟨l,e1,hl,hmm⟩:=CF hc hf;have ho:=Td hf;unfold stl Hn;dsimp only;rw [show decide ((j:Int)<=64)=true by simp;omega,ct_,e1,ob_];dsimp only;rw [Aq om_,ob_];cases hs:sst s (Kl c s) with
  | true=>
   obtain ⟨r1,r2,e2,e3,l3,hC⟩:=Yc (l:=q ++ l) so_;rw [if_pos rfl,show (!(!true))=true by rfl,ct_,e2,ob_,e3,ob_];have hse:=Gy.1 hs;rw [← hse];refine ⟨r2,(j:Int),rfl,by rw [GY] at l3;omega,hC.iff λx=>?_⟩;rw [G9,hmm,AV,hs];simp
  | false=>
   rw [if_neg smp_,show (!(!false))=false by rfl,cf_,Am om_];have ih:=Mb hc k n (j + 1) (Kl c s) (q ++ l) om_ om_ ho (by rw [GY];omega);cases hst:stl c k (Kl c s) with
   | none=>rw [hst] at ih;exact ih
   | some t=>
    rw [hst] at ih;obtain ⟨l',z',e4,hl',hC⟩:=ih;refine ⟨l',z',e4,hl',hC.iff λx=>?_⟩;rw [G9,hmm,AV,hs];simp [or_assoc]
theorem Qi {xs:M6} {k:Int} (hl:xs.length<=1000):So FF xs k=some (xs.any λx=>decide (x < 0) || decide (x>=k)):=by
 unfold So Zo;have h5:=BE (L:=Jl FF xs k) (xs:=xs) (p:=λ_ y=>QQ FF y k) (q:=λx=>decide (x < 0) || decide (x>=k)) (r:=λz=>z) (λ_ _=>rfl) om_ (λi y hy=>rfl) FF 0 om_ uF;rw [n0,HA] at h5;rw [h5];cases h6:xs.findIdx? (λx=>decide (x < 0) || decide (x>=k)) with
 | none=>
  rw [H5] at h6;have:(xs.any λx=>decide (x < 0) || decide (x>=k))=false:=JB.2 λy hy=>by simpa using h6 y hy
  rw [this];rfl
 | some j=>
  obtain ⟨hj,hj2,_⟩:=HT.1 h6;have:(xs.any λx=>decide (x < 0) || decide (x>=k))=true:=HU.2 ⟨_,G1 hj,by simpa using hj2⟩;rw [this];simp
def tbad (c:Aa) (s:Ac) (i:Nat):Bool:=match c.Signals[i]?,s.Timers[i]?,s.Values[i]? with
 | some x,some t,some v=>(x.Kind != 2 && t != 0) || (x.Kind == 2 && v != (t == 2))
 | _,_,_=>false
def DZ (c:Aa) (s:Ac):Int:=
 if (s.Ends.length:Int)≠c.Actuators\/(s.Valves.length:Int)≠c.Actuators\/s.Inputs.length≠c.Inputs.length\/s.Values.length≠c.Signals.length\/s.Timers.length≠c.Signals.length then 8
 else if (s.Ends.any λx=>decide (x < 0) || decide (x>=4))=true then 1
 else if (s.Timers.any λx=>decide (x < 0) || decide (x>=3))=true then 1
 else if (List.range c.Signals.length).any (tbad c s)=true then 14 else 0
theorem FG {c:Aa} {s:Ac}:(((((((s.Ends.length:Int) != c.Actuators) || ((s.Valves.length:Int) != c.Actuators)) || ((s.Inputs.length:Int) != (c.Inputs.length:Int))) || ((s.Values.length:Int) != (c.Signals.length:Int))) || ((s.Timers.length:Int) != (c.Signals.length:Int))))=decide ((s.Ends.length:Int)≠c.Actuators\/(s.Valves.length:Int)≠c.Actuators\/s.Inputs.length≠c.Inputs.length\/s.Values.length≠c.Signals.length\/s.Timers.length≠c.Signals.length):=by
 rw [H8];simp only [KM,bne_iff_ne,ne_eq,decide_eq_true_eq,Int.natCast_inj,or_assoc]
theorem CQ {c:Aa} {s:Ac} (hb:Bd_ c):QR FF c s=some (DZ c s):=by
 have h1:=hb.a6;have h2:=hb.i;have h3:=hb.s;unfold QR DZ;rw [FG];by_cases hl:(s.Ends.length:Int)≠c.Actuators\/(s.Valves.length:Int)≠c.Actuators\/s.Inputs.length≠c.Inputs.length\/s.Values.length≠c.Signals.length\/s.Timers.length≠c.Signals.length
 ·rw [if_pos hl,dt_ hl];rfl
 ·rw [if_neg hl,df_ hl,cf_];have hl:(s.Ends.length:Int)=c.Actuators/\(s.Valves.length:Int)=c.Actuators/\s.Inputs.length=c.Inputs.length/\s.Values.length=c.Signals.length/\s.Timers.length=c.Signals.length:=by omega
  rw [show NC FF (4:Int)=some 4 from rfl,show NC FF (3:Int)=some 3 from rfl,ob_,Qi om_,ob_,ob_,Qi om_];cases (s.Ends.any λx=>decide (x < 0) || decide (x>=4)) with
  | true=>rfl
  | false=>
   rw [cf_,ob_,ob_,if_neg smp_];cases (s.Timers.any λx=>decide (x < 0) || decide (x>=3)) with
   | true=>rfl
   | false=>
    rw [cf_,if_neg smp_];have hs:=AW (L:=Kx c s) (N:=c.Signals.length) (Q:=tbad c s) (r:=λ_=>14) (λn i hi=>by
     have e1:c.Signals[i]?=some c.Signals[i]:=gE_ hi;have e2:s.Timers[i]?=some s.Timers[i]:=gE_ om_;have e3:s.Values[i]?=some s.Values[i]:=gE_ om_;rw [Kx];unfold tbad;rw [hl.2.2.2.2,Aj,dt_ hi,ct_,Ai,Ai,Ai,e1,e2,e3,ob_,ob_,ob_,Am om_];dsimp only;cases hk:(c.Signals[i].Kind == 2) with
     | true=>
      have hk':(c.Signals[i].Kind != 2)=false:=by show (!(c.Signals[i].Kind == 2))=false;rw [hk];rfl
      rw [hk'];cases (s.Values[i] != (s.Timers[i] == 2)) <;> rfl
     | false=>
      have hk':(c.Signals[i].Kind != 2)=true:=by show (!(c.Signals[i].Kind == 2))=true;rw [hk];rfl
      rw [hk'];cases (s.Timers[i] != 0) <;> rfl) (λn=>by
     rw [Kx,hl.2.2.2.2,Aj,df_ om_,cf_]) FF 0 om_ uF
    rw [n0] at hs;rcases hs with ⟨k,_,hk,hq,h⟩ | ⟨h,hn⟩
    ·rw [h,if_pos (HU.2 ⟨k,HC.2 hk,hq⟩)];rfl
    ·rw [h,if_neg ?_]
     ·rfl
     ·intro ha;obtain ⟨k,hk,h4⟩:=HU.1 ha;have:=hn k om_ (HC.1 hk);rw [this] at h4;cases h4
theorem Gc {c:Aa} {s:Ac} (hb:Bd_ c):DZ c s=0↔Fit c s:=by
 have ha:=hb.a;unfold DZ;constructor
 ·intro h;split at h
  ·contradiction
  ·rename_i h1;split at h
   ·contradiction
   ·rename_i h2;split at h
    ·contradiction
    ·rename_i h3;split at h
     ·contradiction
     ·rename_i h4;refine ⟨by omega,by omega,by omega,by omega,by omega,λa ha=>?_,λa ha=>?_,λi x t v hx ht hv=>?_⟩
      ·have:=JB.1 (by simpa using h2:(s.Ends.any λx=>decide (x < 0) || decide (x>=4))=false) a ha;simp at this;omega
      ·have:=JB.1 (by simpa using h3:(s.Timers.any λx=>decide (x < 0) || decide (x>=3))=false) a ha;simp at this;omega
      ·have hb:tbad c s i=false:=by
        cases hq:tbad c s i with
        | false=>rfl
        | true=>exact absurd (HU.2 ⟨i,HC.2 (GZ.1 hx).1,hq⟩) h4
       unfold tbad at hb;rw [hx,ht,hv] at hb;dsimp only at hb;rw [KS,K3,K3] at hb;obtain ⟨h5,h6⟩:=hb;refine ⟨λhk=>?_,λhk=>?_⟩
       ·rcases h5 with h5 | h5
        ·exact absurd (by simpa using h5) hk
        ·simpa using h5
       ·rcases h6 with h6 | h6
        ·simp [hk] at h6
        ·simpa using h6
 ·intro h;obtain ⟨a1,a2,a3,a4,a5,a6,a7,a8⟩:=h;rw [if_neg om_,if_neg,if_neg,if_neg]
  ·intro hx;obtain ⟨i,hi,hq⟩:=HU.1 hx;have hi:=HC.1 hi;have e1:c.Signals[i]?=some c.Signals[i]:=gE_ hi;have e2:s.Timers[i]?=some s.Timers[i]:=gE_ om_;have e3:s.Values[i]?=some s.Values[i]:=gE_ om_;unfold tbad at hq;rw [e1,e2,e3] at hq;dsimp only at hq;obtain ⟨k1,k2⟩:=a8 i _ _ _ e1 e2 e3;by_cases hk:c.Signals[i].Kind=2
   ·rw [k2 hk] at hq;simp [hk] at hq
   ·rw [k1 hk] at hq;simp [hk] at hq
  ·intro hx;obtain ⟨a,ha,hq⟩:=HU.1 hx;have:=a7 a ha;simp at hq;omega
  ·intro hx;obtain ⟨a,ha,hq⟩:=HU.1 hx;have:=a6 a ha;simp at hq;omega
theorem Jk {c:Aa} {s:Ac} (hc:Rc c):QS FF c s=some (DZ c s):=by
 unfold QS;rw [hc.ck,ob_,zf_,cf_,CQ hc.rt.bd];rfl
abbrev z0:Ac:=⟨[],[],[],[],[]⟩
theorem CP {c:Aa} {s:Ac} (hc:Rc c) (hf:Fit c s):match stl c 65 s with
  | some t=>∃ l,RJ FF c s=some (t,0,l)/\l.length<=2000/\Cs l (AV c 65 s)
  | none=>RJ FF c s=some (z0,21,[]):=by
 have hb:=hc.rt.bd;have h1:=hb.a';have h2:=hb.i;have h3:=hb.s;have hS:cS c=2 * cA c + c.Inputs.length:=rfl;have h:=Mb hc.rt 65 FF 0 s [] om_ uF hf smp_;rw [n0] at h;unfold RJ QU;rw [Jk hc,(Gc hb).2 hf,ob_,zf_,cf_,Pb (hf.sm hb),ob_,ob_];dsimp only;rw [zf_,cf_,hb.wa,As om_ om_,show ((2 * cA c:Nat):Int) + (c.Inputs.length:Int)=(cS c:Int) by omega];unfold RH tup;dsimp only;cases hs:stl c 65 s with
 | none=>rw [hs] at h;obtain ⟨q,h⟩:=h;rw [h];rfl
 | some t=>
  rw [hs] at h;obtain ⟨l,z,h,hl,hC⟩:=h;obtain ⟨_,⟨k1,k2,k3⟩,_⟩:=Ln hf hs;rw [h];refine ⟨l,?_,hl,hC.iff λx=>by simp⟩;rw [ob_,ob_];dsimp only;rw [zf_,cf_,← k1,← k2,← k3]
def lin (s:Ac) (k:Int):Bool:=(vals s).getD k.toNat false
def vlv (c:Aa) (s:Ac) (i:Nat):Bool:=if lin s (c.Plus.getD i 0)=lin s (c.Minus.getD i 0) then s.Valves.getD i false else lin s (c.Plus.getD i 0)
def Gn (v:Bool) (e:Int):Int:=if v=true then (if e=2\/e=1 then e else 1) else (if e=0\/e=3 then e else 3)
def rnd (c:Aa) (s:Ac):Ac:=⟨(List.range s.Ends.length).map λi=>Gn (vlv c s i) (s.Ends.getD i 0),(List.range s.Valves.length).map (vlv c s),s.Inputs,s.Values,s.Timers⟩
theorem Tb {c:Aa} {s:Ac} (h:Fit c s):Fit c (rnd c s):=by
 refine ⟨by simp [rnd,h.e],by simp [rnd,h.v],h.i,h.x,h.t,?_,h.tt,h.k⟩;intro a ha;obtain ⟨i,hi,rfl⟩:=H6.1 ha;have hi:=HC.1 hi;have:=h.ee s.Ends[i] (G1 hi);rw [HH,gE_ hi,K6];generalize s.Ends[i]=e at this;unfold Gn;split <;> split <;> omega
theorem EG {c:Aa} {s:Ac} (h:Fit c s) (k:Nat) (hk:k < cL c):∃ b,(vals s)[k]?=some b/\lin s (k:Int)=b:=by
 have:k < (vals s).length:=by rw [h.vl];exact hk
 exact ⟨(vals s)[k],gE_ this,by unfold lin;simp [gE_ this]⟩
theorem Wa {c:Aa} {s:Ac} (hb:Bd_ c) (h:Fit c s) {k:Nat} (hk:k < cL c):RK FF c s (k:Int)=some (lin s (k:Int)):=by
 have h1:=hb.a';have h2:=hb.i;have h3:=hb.s;have hS:cS c=2 * cA c + c.Inputs.length:=rfl;have hL:cL c=cS c + c.Signals.length:=rfl;have hel:(D2 s).length=2 * cA c:=by unfold D2;rw [Qo,h.e]
 unfold RK lin;rw [hb.wa,Aj,HO,HH];by_cases h4:k < 2 * cA c
 ·rw [dt_ h4,ct_];have hdiv:(k:Int).tdiv 2=((k / 2:Nat):Int):=by
   rw [Int.tdiv_eq_ediv_of_nonneg om_];omega
  have hmod:(k:Int).tmod 2=((k % 2:Nat):Int):=by
   rw [Int.tmod_eq_emod_of_nonneg om_];omega
  have hv:(vals s)[k]?=(D2 s)[k]?:=by
   unfold vals pre;rw [HN,HE om_]
  have hk2:k / 2 < s.Ends.length:=by rw [h.e];omega
  have he:s.Ends[k / 2]?=some s.Ends[k / 2]:=gE_ hk2;rw [hdiv,hmod,As om_ om_,Ai,he,ob_,hv];unfold D2;rw [GE,he];have hm2:k % 2=0\/k % 2=1:=by omega
  rcases hm2 with e | e <;> rw [e] <;> rfl
 ·rw [df_ h4,cf_,As om_ om_,show (k:Int) - ((2 * cA c:Nat):Int)=((k - 2 * cA c:Nat):Int) by omega,Aj];by_cases h5:k - 2 * cA c < s.Inputs.length
  ·rw [dt_ h5,ct_,Ai,gE_ h5,ob_];unfold vals pre;rw [HN,HM om_,hel,HE h5,gE_ h5];rfl
  ·rw [df_ h5,cf_,As (by have:=h.i;omega) om_,show ((k - 2 * cA c:Nat):Int) - (s.Inputs.length:Int)=((k - 2 * cA c - s.Inputs.length:Nat):Int) by omega,Ai];have h6:k - 2 * cA c - s.Inputs.length < s.Values.length:=by have:=h.i;have:=h.x;omega
   rw [gE_ h6,ob_];unfold vals pre;rw [HN,HM om_,hel,HM om_,gE_ h6];rfl
end Go.Pn
namespace Go.Pn
open Go
theorem BV {c:Aa} (hc:Rt c) {i:Nat} (hi:i < cA c):∃ p m:Nat,c.Plus[i]?=some (p:Int)/\c.Minus[i]?=some (m:Int)/\p < cL c/\m < cL c/\c.Plus.getD i 0=(p:Int)/\c.Minus.getD i 0=(m:Int):=by
 have h1:i < c.Plus.length:=by rw [hc.plus];exact hi
 have h2:i < c.Minus.length:=by rw [hc.minus];exact hi
 have h3:=hc.lines c.Plus[i] (HK _ (G1 h1));have h4:=hc.lines c.Minus[i] (HG _ (G1 h2));have e1:((c.Plus[i].toNat:Nat):Int)=c.Plus[i]:=by omega
 have e2:((c.Minus[i].toNat:Nat):Int)=c.Minus[i]:=by omega
 refine ⟨c.Plus[i].toNat,c.Minus[i].toNat,?_,?_,by omega,by omega,?_,?_⟩
 ·rw [gE_ h1,e1]
 ·rw [gE_ h2,e2]
 ·rw [HH,gE_ h1,e1];rfl
 ·rw [HH,gE_ h2,e2];rfl
theorem endn_eq (v:Bool) (e:Int):(bif (e != (bif v then ((2:Int),(1:Int)) else ((0:Int),(3:Int))).1) && (e != (bif v then ((2:Int),(1:Int)) else ((0:Int),(3:Int))).2) then (bif v then ((2:Int),(1:Int)) else ((0:Int),(3:Int))).2 else e)=Gn v e:=by
 unfold Gn;cases v with
 | true=>
  simp only [ct_,if_true];by_cases h:e=2
  ·simp [h]
  ·by_cases h1:e=1
   ·simp [h1]
   ·rw [show (e != 2)=true by simpa using h,show (e != 1)=true by simpa using h1,if_neg om_];rfl
 | false=>
  simp only [cf_];by_cases h:e=0
  ·simp [h]
  ·by_cases h1:e=3
   ·simp [h1]
   ·rw [show (e != 0)=true by simpa using h,show (e != 3)=true by simpa using h1];simp [h,h1]
def rnPi (c:Aa) (t:Ac) (i:Nat) (x:Int):Prop:=∃ j:Nat,j < i/\x=((cL c + j:Nat):Int)/\(lin t (c.Plus.getD j 0) && lin t (c.Minus.getD j 0))=true
def rnP (c:Aa) (t:Ac) (x:Int):Prop:=rnPi c t (cA c) x
theorem Nm {c:Aa} {t:Ac} {i:Nat} {x:Int}:rnPi c t (i + 1) x↔rnPi c t i x\/(x=((cL c + i:Nat):Int)/\(lin t (c.Plus.getD i 0) && lin t (c.Minus.getD i 0))=true):=by
 constructor
 ·rintro ⟨j,h1,h2,h3⟩;by_cases h:j=i
  ·subst h;exact .inr ⟨h2,h3⟩
  ·exact .inl ⟨j,by omega,h2,h3⟩
 ·rintro (⟨j,h1,h2,h3⟩ | ⟨h2,h3⟩)
  ·exact ⟨j,by omega,h2,h3⟩
  ·exact ⟨i,by omega,h2,h3⟩
theorem Uo {c:Aa} {t:Ac} {x:Int}:¬ rnPi c t 0 x:=λ⟨_,h,_⟩=>by omega
theorem Wh {c:Aa} {s:Ac} (hc:Rc c) (hf:Fit c s):match stl c 65 s with
  | some t=>∃ l,RL FF c s=some (rnd c t,0,l)/\l.length<=3000/\∀ x,x∈l↔AV c 65 s x\/rnP c t x
  | none=>RL FF c s=some (z0,21,[]):=by
 have hb:=hc.rt.bd;have h1:=hb.a';have h2:=hb.i;have h3:=hb.s;have hS:cS c=2 * cA c + c.Inputs.length:=rfl;have hL:cL c=cS c + c.Signals.length:=rfl;have h:=CP hc hf;unfold RL;cases hs:stl c 65 s with
 | none=>rw [hs] at h;rw [h];rfl
 | some t=>
  rw [hs] at h;obtain ⟨l0,h,hl0,hC0⟩:=h;obtain ⟨ht,_,_⟩:=Ln hf hs;rw [h,ob_];dsimp only;rw [zf_,cf_,Wg (ht.sm hb),ob_];have hel:=ht.e;have hvl:=ht.v;obtain ⟨v,hI,hl⟩:=Ri (L:=Hs FF c (t,0,l0)) (mk:=λi (v:M6×M6×M7)=>((i:Int),v.1,v.2.1,v.2.2)) (N:=cA c) (I:=λi v=>(v.1.length<=2000 + i/\∀ x,x∈v.1↔AV c 65 s x\/rnPi c t i x)/\v.2.1=upd (λi=>Gn (vlv c t i) (t.Ends.getD i 0)) t.Ends i/\v.2.2=upd (vlv c t) t.Valves i) (λn i v hi hI=>by
   obtain ⟨l,E,V⟩:=v;obtain ⟨⟨hll,hmm⟩,rfl,rfl⟩:=hI;obtain ⟨p,m,e1,e2,hp,hm,g1,g2⟩:=BV hc.rt hi;have e4:(upd (λi=>Gn (vlv c t i) (t.Ends.getD i 0)) t.Ends i)[i]?=some t.Ends[i]:=by rw [Cj (HB i)];exact gE_ om_
   have e5:(upd (vlv c t) t.Valves i)[i]?=some t.Valves[i]:=by rw [Cj (HB i)];exact gE_ om_
   have e6:t.Ends.getD i 0=t.Ends[i]:=by rw [HH,gE_ om_];rfl
   have e7:t.Valves.getD i false=t.Valves[i]:=by rw [HH,gE_ om_];rfl
   have hsetE:∀ y,y=Gn (vlv c t i) (t.Ends.getD i 0)->(upd (λi=>Gn (vlv c t i) (t.Ends.getD i 0)) t.Ends i).set i y=upd (λi=>Gn (vlv c t i) (t.Ends.getD i 0)) t.Ends (i + 1):=λy hy=>Dv om_ hy;have hsetV:∀ y,y=vlv c t i->(upd (vlv c t) t.Valves i).set i y=upd (vlv c t) t.Valves (i + 1):=λy hy=>Dv om_ hy;have hkeep:vlv c t i=t.Valves[i]->upd (vlv c t) t.Valves i=upd (vlv c t) t.Valves (i + 1):=λhy=>by
    rw [← hsetV t.Valves[i] hy.symm];refine JF λj=>?_;by_cases hj:j=i
    ·subst hj;rw [H3 (by rw [Ki om_];omega),e5]
    ·rw [JE om_]
   have hkeepE:Gn (vlv c t i) (t.Ends.getD i 0)=t.Ends[i]->upd (λi=>Gn (vlv c t i) (t.Ends.getD i 0)) t.Ends i=upd (λi=>Gn (vlv c t i) (t.Ends.getD i 0)) t.Ends (i + 1):=λhy=>by
    rw [← hsetE t.Ends[i] hy.symm];refine JF λj=>?_;by_cases hj:j=i
    ·subst hj;rw [H3 (by rw [Ki om_];omega),e4]
    ·rw [JE om_]
   have hvi:vlv c t i=if lin t (p:Int)=lin t (m:Int) then t.Valves[i] else lin t (p:Int):=by
    unfold vlv;rw [g1,g2,e7]
   -- the valve
   have hV:∀ (k:(M6×M7)->Option (Int×M6×M6×M7)),((bif (lin t (p:Int) && lin t (m:Int)) then (app l ([(wr ((wr ((wr ((wr ((2:Int) * (c).Actuators)) + (((c).Inputs).length:Int))) + (((c).Signals).length:Int))) + (i:Int)))]:M6)).bind λx16=>some (x16,(upd (vlv c t) t.Valves i)) else (bif (lin t (p:Int) || lin t (m:Int)) then (idx (upd (vlv c t) t.Valves i) (i:Int)).bind λx19=>some ((upd (vlv c t) t.Valves i).set ((i:Int)).toNat (lin t (p:Int))) else some (upd (vlv c t) t.Valves i)).bind λz18=>some (l,z18)).bind k)=k ((if (lin t (p:Int) && lin t (m:Int))=true then l ++ [((cL c + i:Nat):Int)] else l),upd (vlv c t) t.Valves (i + 1)):=by
    intro k;have w1:wr (((2 * cA c:Nat):Int) + (c.Inputs.length:Int))=((cS c:Nat):Int):=by rw [As om_ om_];omega
    have w2:wr (((cS c:Nat):Int) + (c.Signals.length:Int))=((cL c:Nat):Int):=by rw [As om_ om_];omega
    have w3:wr (((cL c:Nat):Int) + (i:Int))=((cL c + i:Nat):Int):=by rw [As om_ om_];omega
    rw [hb.wa,w1,w2,w3,Ai,e5,HO];dsimp only at hll;cases hP:lin t (p:Int) with
    | true=>
     cases hM:lin t (m:Int) with
     | true=>
      unfold app;rw [Bool.and_self,ct_,if_pos so_,hkeep (by rw [hvi,hP,hM];simp)];rfl
     | false=>
      rw [hsetV true (by rw [hvi,hP,hM];simp)];rfl
    | false=>
     cases hM:lin t (m:Int) with
     | true=>
      rw [hsetV false (by rw [hvi,hP,hM];simp)];rfl
     | false=>
      rw [hkeep (by rw [hvi,hP,hM];simp)];rfl
   refine ⟨((if (lin t (p:Int) && lin t (m:Int))=true then l ++ [((cL c + i:Nat):Int)] else l),upd (λi=>Gn (vlv c t i) (t.Ends.getD i 0)) t.Ends (i + 1),upd (vlv c t) t.Valves (i + 1)),⟨?_,rfl,rfl⟩,?_⟩
   ·dsimp only at hll hmm ⊢;refine ⟨by split <;> (try simp) <;> omega,λx=>?_⟩
    rw [B6 hmm,Nm,g1,g2,or_assoc]
   ·rw [Hs];dsimp only;rw [hb.a,Aj,dt_ hi,ct_,Ai,e1,ob_,Wa hb ht hp,ob_,Ai,e2,ob_,Wa hb ht hm,ob_,← hb.a,hV];dsimp only;have e8:(upd (vlv c t) t.Valves (i + 1))[i]?=some (vlv c t i):=by
     rw [← hsetV _ rfl,H3 (by rw [Ki om_];omega)]
    rw [Ai,e4,ob_,Ai,e8,ob_,cs_,ob_,ob_,Am om_];have hE:((bif (t.Ends[i] != (bif vlv c t i then ((2:Int),(1:Int)) else ((0:Int),(3:Int))).1) && (t.Ends[i] != (bif vlv c t i then ((2:Int),(1:Int)) else ((0:Int),(3:Int))).2) then some ((upd (λi=>Gn (vlv c t i) (t.Ends.getD i 0)) t.Ends i).set ((i:Int)).toNat (bif vlv c t i then ((2:Int),(1:Int)) else ((0:Int),(3:Int))).2) else some (upd (λi=>Gn (vlv c t i) (t.Ends.getD i 0)) t.Ends i)))=some (upd (λi=>Gn (vlv c t i) (t.Ends.getD i 0)) t.Ends (i + 1)):=by
     have hq:=endn_eq (vlv c t i) t.Ends[i];rw [HO];cases hcnd:(t.Ends[i] != (bif vlv c t i then ((2:Int),(1:Int)) else ((0:Int),(3:Int))).1) && (t.Ends[i] != (bif vlv c t i then ((2:Int),(1:Int)) else ((0:Int),(3:Int))).2) with
     | true=>
      rw [hcnd,ct_] at hq;rw [ct_,hsetE _ (by rw [e6,← hq])]
     | false=>
      rw [hcnd,cf_] at hq;rw [cf_,hkeepE (by rw [e6,← hq])]
    rw [hE,ob_]) (λn v _=>by
   rw [Hs];dsimp only;rw [hb.a,Aj,df_ om_,cf_]) FF 0 (l0,t.Ends,t.Valves) om_ uF ⟨⟨by dsimp only;omega,λx=>by simp [hC0.2 x,Uo]⟩,Ch.symm,Ch.symm⟩
  obtain ⟨l,E,V⟩:=v;obtain ⟨⟨hll,hmm⟩,rfl,rfl⟩:=hI;try dsimp only at hl hll hmm
  rw [n0] at hl;refine ⟨l,?_,by omega,hmm⟩;show ((Hs FF c (t,0,l0) FF ((0:Int),l0,t.Ends,t.Valves)).bind _)=_;rw [hl,ob_];unfold rnd tup;dsimp only;have e1:=Dw (f:=λi=>Gn (vlv c t i) (t.Ends.getD i 0)) (l:=t.Ends);have e2:=Dw (f:=vlv c t) (l:=t.Valves);rw [hel] at e1;rw [hvl] at e2;rw [e1,e2,hel,hvl]
theorem We {a b:M6} (h:a.length + b.length < 50000) {p q:Int->Prop} (ha:Cs a p) (hb:Cs b q):∃ l,NF FF a b=some l/\l.length<=a.length + b.length/\Cs l λx=>p x\/q x:=by
 have sa:∀ i j,(_:i < j)->(hj:j < a.length)->a[i]'om_ < a[j]:=λi j hij hj=>J4.1 ha.1 i j om_ hj hij;have sb:∀ i j,(_:i < j)->(hj:j < b.length)->b[i]'om_ < b[j]:=λi j hij hj=>J4.1 hb.1 i j om_ hj hij;have key:∀ (n i j:Nat) (l:M6),i<=a.length->j<=b.length->(a.length - i) + (b.length - j) < n->l.length<=i + j->l.Pairwise (· < ·)->(∀ x,x∈l↔x∈a.take i\/x∈b.take j)->(∀ x∈l,(∀ h:i < a.length,x < a[i])/\∀ h:j < b.length,x < b[j]) ->
   ∃ z1 z2 l',Fi a b n ((i:Int),(j:Int),l)=some (z1,z2,l')/\l'.length<=a.length + b.length/\l'.Pairwise (· < ·)/\∀ x,x∈l'↔x∈a\/x∈b:=by
  intro n
  induction n with
  | zero=>intro i j l _ _ h;omega
  | succ n ih=>
   intro i j l hi hj hn hl hp hm hlt;have snoc:∀ y,(∀ x∈l,x < y)->(l ++ [y]).Pairwise (· < ·):=λy hy=>LR.2 ⟨hp,by simp,λu hu v hv=>by
    obtain rfl:v=y:=by simpa using hv
    exact hy u hu⟩
   have ta:(h:i < a.length)->∀ x,x∈a.take (i + 1)↔x∈a.take i\/x=a[i]:=λh x=>by rw [KQ,gE_ h,G9];simp
   have tb:(h:j < b.length)->∀ x,x∈b.take (j + 1)↔x∈b.take j\/x=b[j]:=λh x=>by rw [KQ,gE_ h,G9];simp
   rw [Fi];dsimp only;rw [Aj,Aj];by_cases h1:i < a.length
   ·have ea:a[i]?=some a[i]:=gE_ h1;by_cases h2:j < b.length
    ·have eb:b[j]?=some b[j]:=gE_ h2;simp only [dt_ h1,dt_ h2,Bool.or_self,ct_,Ai,ea,eb,ob_,Er,show (j == b.length)=false by rw [beq_eq_false_iff_ne];omega,show (i == a.length)=false by rw [beq_eq_false_iff_ne];omega,cf_];rw [Aq so_,Aq so_];by_cases h3:a[i] < b[j]
     ·simp only [dt_ h3,ct_,ob_];rw [Am om_];refine ih (i + 1) j _ om_ hj om_ so_ (snoc _ λx hx=>(hlt x hx).1 h1) (λx=>?_) (λx hx=>?_)
      ·rw [G9,KE,hm,ta h1];exact or_right_comm
      ·rcases G9.1 hx with hx | hx
       ·exact ⟨λh=>LL ((hlt x hx).1 h1) (sa i (i + 1) om_ h),(hlt x hx).2⟩
       ·obtain rfl:x=a[i]:=by simpa using hx
        exact ⟨λh=>sa i (i + 1) om_ h,λ_=>h3⟩
     ·by_cases h4:b[j] < a[i]
      ·simp only [df_ h3,dt_ h4,ct_,cf_,ob_];rw [Am om_];refine ih i (j + 1) _ hi om_ om_ so_ (snoc _ λx hx=>(hlt x hx).2 h2) (λx=>?_) (λx hx=>?_)
       ·rw [G9,KE,hm,tb h2];exact or_assoc
       ·rcases G9.1 hx with hx | hx
        ·exact ⟨(hlt x hx).1,λh=>LL ((hlt x hx).2 h2) (sb j (j + 1) om_ h)⟩
        ·obtain rfl:x=b[j]:=by simpa using hx
         exact ⟨λ_=>h4,λh=>sb j (j + 1) om_ h⟩
      ·have h5:a[i]=b[j]:=by omega
       simp only [df_ h3,df_ h4,cf_,ob_];rw [Am om_,Am om_];refine ih (i + 1) (j + 1) _ om_ om_ om_ so_ (snoc _ λx hx=>(hlt x hx).1 h1) (λx=>?_) (λx hx=>?_)
       ·rw [G9,KE,hm,ta h1,tb h2,← h5];exact or_or_distrib_right
       ·rcases G9.1 hx with hx | hx
        ·exact ⟨λh=>LL ((hlt x hx).1 h1) (sa i (i + 1) om_ h),λh=>LL ((hlt x hx).2 h2) (sb j (j + 1) om_ h)⟩
        ·obtain rfl:x=a[i]:=by simpa using hx
         exact ⟨λh=>sa i (i + 1) om_ h,λh=>by rw [h5];exact sb j (j + 1) om_ h⟩
    ·have hjb:j=b.length:=by omega
     simp only [dt_ h1,MD,ct_,Ai,ea,ob_,Er,show (j == b.length)=true by rw [beq_iff_eq];omega];rw [Aq so_,ob_,ob_,Am om_];refine ih (i + 1) j _ om_ hj om_ so_ (snoc _ λx hx=>(hlt x hx).1 h1) (λx=>?_) (λx hx=>?_)
     ·rw [G9,KE,hm,ta h1];exact or_right_comm
     ·rcases G9.1 hx with hx | hx
      ·exact ⟨λh=>LL ((hlt x hx).1 h1) (sa i (i + 1) om_ h),λh=>by omega⟩
      ·obtain rfl:x=a[i]:=by simpa using hx
       exact ⟨λh=>sa i (i + 1) om_ h,λh=>by omega⟩
   ·by_cases h2:j < b.length
    ·have eb:b[j]?=some b[j]:=gE_ h2;simp only [df_ h1,dt_ h2,JD,ct_,cf_,Ai,eb,ob_,Er,show (j == b.length)=false by rw [beq_eq_false_iff_ne];omega,show (i == a.length)=true by rw [beq_iff_eq];omega];rw [Aq so_,ob_,ob_,Am om_];refine ih i (j + 1) _ hi om_ om_ so_ (snoc _ λx hx=>(hlt x hx).2 h2) (λx=>?_) (λx hx=>?_)
     ·rw [G9,KE,hm,tb h2];exact or_assoc
     ·rcases G9.1 hx with hx | hx
      ·exact ⟨λh=>by omega,λh=>LL ((hlt x hx).2 h2) (sb j (j + 1) om_ h)⟩
      ·obtain rfl:x=b[j]:=by simpa using hx
       exact ⟨λh=>by omega,λh=>sb j (j + 1) om_ h⟩
    ·rw [df_ h1,df_ h2,Bool.or_self,cf_];refine ⟨_,_,l,rfl,by omega,hp,λx=>?_⟩;rw [hm,H2 om_,H2 om_]
 obtain ⟨z1,z2,l',e,e1,e2,e3⟩:=key FF 0 0 [] om_ om_ uF smp_ .nil smp_ smp_;have e:Fi a b FF ((0:Int),(0:Int),[])=some (z1,z2,l'):=e;unfold NF;rw [e];exact ⟨l',rfl,e1,e2,λx=>by rw [e3,ha.2,hb.2]⟩
theorem Zx {c:Aa} {s:Ac} (h:Fit c s) {k:Nat} (hk:k < cL c):idx (vals s) (k:Int)=some (lin s (k:Int)):=by
 obtain ⟨b,h1,h2⟩:=EG h k hk;rw [Ai,h1,h2]
theorem CL {c:Aa} {t:Ac} (hc:Rt c) (ht:Fit c t):∃ l,N5 FF c t=some (⟨t.Ends,(List.range t.Valves.length).map (vlv c t),t.Inputs,t.Values,t.Timers⟩,l)/\l.length<=10/\Cs l (rnP c t):=by
 have hb:=hc.bd;have h1:=hb.a';have h2:=hb.i;have h3:=hb.s;have hS:cS c=2 * cA c + c.Inputs.length:=rfl;have hL:cL c=cS c + c.Signals.length:=rfl;have hvl:=ht.v;unfold N5;rw [Dn (ht.sm hb),ob_,Ph hb ht.e (by rw [ht.i];omega) (by rw [ht.x];omega),ob_];obtain ⟨v,hI,hl⟩:=Ri (L:=Hp FF c (vals t)) (mk:=λi (v:M7×M6)=>((i:Int),v.1,v.2)) (N:=cA c) (I:=λi v=>(v.2.length<=i/\Cs v.2 (rnPi c t i))/\v.1=upd (vlv c t) t.Valves i) (λn i v hi hI=>by
  obtain ⟨V,l⟩:=v;obtain ⟨⟨hll,hC⟩,rfl⟩:=hI;obtain ⟨p,m,e1,e2,hp,hm,g1,g2⟩:=BV hc hi;have e5:(upd (vlv c t) t.Valves i)[i]?=some t.Valves[i]:=by rw [Cj (HB i)];exact gE_ om_
  have e7:t.Valves.getD i false=t.Valves[i]:=by rw [HH,gE_ om_];rfl
  have hsetV:∀ y,y=vlv c t i->(upd (vlv c t) t.Valves i).set i y=upd (vlv c t) t.Valves (i + 1):=λy hy=>Dv om_ hy;have hkeep:vlv c t i=t.Valves[i]->upd (vlv c t) t.Valves i=upd (vlv c t) t.Valves (i + 1):=λhy=>by
   rw [← hsetV t.Valves[i] hy.symm];refine JF λj=>?_;by_cases hj:j=i
   ·subst hj;rw [H3 (by rw [Ki om_];omega),e5]
   ·rw [JE om_]
  have hvi:vlv c t i=if lin t (p:Int)=lin t (m:Int) then t.Valves[i] else lin t (p:Int):=by
   unfold vlv;rw [g1,g2,e7]
  dsimp only at hll hC;refine ⟨(upd (vlv c t) t.Valves (i + 1),if (lin t (p:Int) && lin t (m:Int))=true then l ++ [((cL c + i:Nat):Int)] else l),⟨?_,rfl⟩,?_⟩
  ·dsimp only;refine ⟨by split <;> (try simp) <;> omega,?_⟩
   cases hpm:lin t (p:Int) && lin t (m:Int) with
   | true=>
    rw [if_pos rfl];refine (hC.snoc λx ⟨j,h1,h2,_⟩=>by omega).iff λx=>?_;rw [Nm,g1,g2,hpm];simp
   | false=>
    rw [if_neg smp_];refine hC.iff λx=>?_;rw [Nm,g1,g2,hpm];simp
  ·rw [Hp];dsimp only;rw [hb.a,Aj,dt_ hi,ct_,Ai,e1,ob_,Zx ht hp,ob_,Ai,e2,ob_,Zx ht hm,ob_,Fe hb,ob_,As om_ om_,show (cL c:Int) + (i:Int)=((cL c + i:Nat):Int) by omega,Ai,e5,ob_,Am om_,HO];cases hP:lin t (p:Int) with
   | true=>
    cases hM:lin t (m:Int) with
    | true=>
     unfold app;rw [Bool.and_self,ct_,if_pos so_,hkeep (by rw [hvi,hP,hM];simp)];rfl
    | false=>
     rw [hsetV true (by rw [hvi,hP,hM];simp)];rfl
   | false=>
    cases hM:lin t (m:Int) with
    | true=>
     rw [hsetV false (by rw [hvi,hP,hM];simp)];rfl
    | false=>
     rw [hkeep (by rw [hvi,hP,hM];simp)];rfl) (λn v _=>by
  rw [Hp];dsimp only;rw [hb.a,Aj,df_ om_,cf_]) FF 0 (t.Valves,[]) om_ uF ⟨⟨by simp,Cs.nil λ_=>Uo⟩,Ch.symm⟩
 obtain ⟨V,l⟩:=v;obtain ⟨⟨hll,hC⟩,rfl⟩:=hI;try dsimp only at hl hll hC
 rw [n0] at hl;refine ⟨l,?_,by omega,hC⟩;show ((Hp FF c (vals t) FF ((0:Int),t.Valves,[])).bind _)=_;rw [hl,ob_];have e2:=Dw (f:=vlv c t) (l:=t.Valves);rw [hvl] at e2;unfold tup;dsimp only;rw [e2,hvl]
theorem CK {c:Aa} {t:Ac} (hb:Bd_ c) (ht:Fit c t) (V:M7) (hV:V.length=cA c):N6 FF ⟨t.Ends,V,t.Inputs,t.Values,t.Timers⟩=some ⟨(List.range t.Ends.length).map λi=>Gn (V.getD i false) (t.Ends.getD i 0),V,t.Inputs,t.Values,t.Timers⟩:=by
 have h1:=hb.a';have hel:=ht.e;have hsm:Smst (⟨t.Ends,V,t.Inputs,t.Values,t.Timers⟩:Ac) 1000:=by
  have:=ht.sm hb;exact ⟨this.e,by show V.length<=1000;omega,this.i,this.x,this.t⟩
 unfold N6;rw [Dn hsm,ob_];obtain ⟨v,hI,hl⟩:=Ri (L:=Ho ⟨t.Ends,V,t.Inputs,t.Values,t.Timers⟩) (mk:=λi (v:M6)=>((i:Int),v)) (N:=cA c) (I:=λi v=>v=upd (λi=>Gn (V.getD i false) (t.Ends.getD i 0)) t.Ends i) (λn i v hi hI=>by
  subst hI;have e4:(upd (λi=>Gn (V.getD i false) (t.Ends.getD i 0)) t.Ends i)[i]?=some t.Ends[i]:=by rw [Cj (HB i)];exact gE_ om_
  have e6:t.Ends.getD i 0=t.Ends[i]:=by rw [HH,gE_ om_];rfl
  have e7:V.getD i false=V[i]:=by rw [HH,gE_ om_];rfl
  have hee:=ht.ee t.Ends[i] (G1 om_);have hsetE:∀ y,y=Gn (V.getD i false) (t.Ends.getD i 0)->(upd (λi=>Gn (V.getD i false) (t.Ends.getD i 0)) t.Ends i).set i y=upd (λi=>Gn (V.getD i false) (t.Ends.getD i 0)) t.Ends (i + 1):=λy hy=>Dv om_ hy;have hkeepE:Gn (V.getD i false) (t.Ends.getD i 0)=t.Ends[i]->upd (λi=>Gn (V.getD i false) (t.Ends.getD i 0)) t.Ends i=upd (λi=>Gn (V.getD i false) (t.Ends.getD i 0)) t.Ends (i + 1):=λhy=>by
   rw [← hsetE t.Ends[i] hy.symm];refine JF λj=>?_;by_cases hj:j=i
   ·subst hj;rw [H3 (by rw [Ki om_];omega),e4]
   ·rw [JE om_]
  refine ⟨_,rfl,?_⟩;rw [Ho];dsimp only;have eV:V[i]?=some V[i]:=gE_ om_;have eE:t.Ends[i]?=some t.Ends[i]:=gE_ om_;rw [hel,Aj,dt_ hi,ct_];simp only [Ai,eV,eE,e4,ob_,HO];rw [Am om_];rw [e6,e7] at hsetE hkeepE;generalize t.Ends[i]=e at hee hsetE hkeepE e4;cases hv:V[i] with
  | true=>
   rw [hv] at hsetE hkeepE;by_cases h0:e=0
   ·rw [show (e == 0)=true by simpa using h0];simp only [ct_,ob_,J3,cf_];rw [hsetE 1 (by unfold Gn;rw [if_pos rfl,if_neg om_])]
   ·by_cases h3:e=3
    ·rw [show (e == 0)=false by simpa using h0,show (e == 3)=true by simpa using h3];simp only [ct_,ob_,J3,cf_];rw [hsetE 1 (by unfold Gn;rw [if_pos rfl,if_neg om_])]
    ·rw [show (e == 0)=false by simpa using h0,show (e == 3)=false by simpa using h3];simp only [ct_,ob_,J3,cf_];rw [hkeepE (by unfold Gn;rw [if_pos rfl,if_pos om_])]
  | false=>
   rw [hv] at hsetE hkeepE;simp only [cf_,ob_,J2,ct_];by_cases h0:e=2
   ·rw [show (e == 2)=true by simpa using h0];simp only [ct_,ob_];rw [e4,ob_,ob_,hsetE 3 (by unfold Gn;rw [if_neg smp_,if_neg om_])]
   ·by_cases h3:e=1
    ·rw [show (e == 2)=false by simpa using h0,show (e == 1)=true by simpa using h3];simp only [ct_,ob_,cf_];rw [e4,ob_,ob_,hsetE 3 (by unfold Gn;rw [if_neg smp_,if_neg om_])]
    ·rw [show (e == 2)=false by simpa using h0,show (e == 1)=false by simpa using h3];simp only [cf_,ob_];rw [hkeepE (by unfold Gn;rw [if_neg smp_,if_pos om_])]) (λn v _=>by
  rw [Ho];dsimp only;rw [hel,Aj,df_ om_,cf_]) FF 0 t.Ends om_ uF Ch.symm
 subst hI;try dsimp only at hl
 rw [n0] at hl;show ((Ho ⟨t.Ends,V,t.Inputs,t.Values,t.Timers⟩ FF ((0:Int),t.Ends)).bind _)=_;rw [hl,ob_];have e2:=Dw (f:=λi=>Gn (V.getD i false) (t.Ends.getD i 0)) (l:=t.Ends);rw [hel] at e2;unfold tup;dsimp only;rw [e2,hel]
theorem CX {c:Aa} {s:Ac} (hc:Rt c) (hf:Fit c s):match stl c 65 s with
  | some t=>∃ l,N7 FF c s=some (rnd c t,l,true)/\l.length<=110/\Cs l λx=>AV c 65 s x\/rnP c t x
  | none=>∃ a l,N7 FF c s=some (a,l,false):=by
 have hb:=hc.bd;have h:=CM hc hf;unfold N7;cases hs:stl c 65 s with
 | none=>rw [hs] at h;obtain ⟨a,l,h⟩:=h;rw [h];exact ⟨_,_,rfl⟩
 | some t=>
  rw [hs] at h;obtain ⟨l,h,hl,hC⟩:=h;obtain ⟨ht,_,_⟩:=Ln hf hs;obtain ⟨l2,h2,hl2,hC2⟩:=CL hc ht;obtain ⟨l3,h3,hl3,hC3⟩:=We (a:=l) (b:=l2) om_ hC hC2;rw [h,ob_];dsimp only;rw [nt_,cf_,h2,ob_];dsimp only;rw [CK hb ht _ (by simp [ht.v]),ob_,h3,ob_];refine ⟨l3,?_,by omega,hC3⟩;congr 2;unfold rnd;congr 1;refine List.map_congr_left λi hi=>?_;have hi:=HC.1 hi;rw [ht.e] at hi;rw [HH,HJ,JC (by rw [ht.v];exact hi)];rfl
def rst (c:Aa):Nat->Ac->Option Ac
 | 0,_=>none
 | k + 1,s=>match stl c 65 s with
  | none=>none
  | some t=>if sst (rnd c t) s=true then some s else rst c k (rnd c t)
def Qt (c:Aa) (s:Ac):Prop:=∃ t,stl c 65 s=some t/\sst (rnd c t) s=true
theorem Yi {c:Aa}:∀ {k:Nat} {s t:Ac},Fit c s->rst c k s=some t->Fit c t/\t.Inputs=s.Inputs/\Qt c t
 | 0,_,_,_,h=>by cases h
 | k + 1,s,t,hf,h=>by
  unfold rst at h;cases hs:stl c 65 s with
  | none=>rw [hs] at h;cases h
  | some u=>
   rw [hs] at h;try dsimp only at h
   obtain ⟨hu,hk,_⟩:=Ln hf hs;split at h
   ·rename_i h1;obtain rfl:=Option.some.inj h;exact ⟨hf,rfl,u,hs,h1⟩
   ·obtain ⟨h1,h2,h3⟩:=Yi (Tb hu) h;exact ⟨h1,h2.trans hk.i,h3⟩
def Yj (c:Aa):Nat->Ac->Int->Prop
 | 0,_,_=>False
 | k + 1,s,x=>match stl c 65 s with
  | none=>False
  | some t=>(AV c 65 s x\/rnP c t x)\/(sst (rnd c t) s=false/\Yj c k (rnd c t) x)
theorem C2 {a b:M6} (h:a.length + b.length<=400000000):∃ l,RN FF a b=some l/\l.length<=a.length + b.length/\Cs l λx=>x∈a\/x∈b:=by
 unfold RN;obtain ⟨r1,r2,e2,e3,l3,hC⟩:=Yc (l:=a ++ b) so_;rw [Qf om_ om_,ob_,e2,ob_,e3];exact ⟨r2,rfl,by rw [GY] at l3;omega,hC.iff λx=>G9⟩
theorem Fn {c:Aa} (hc:Rc c):∀ (k n j:Nat) (s:Ac) (q:M6),j + k=65->k < n->Fit c s->q.length<=3000 * j ->
  match rst c k s with
  | some t=>∃ l,Cc FF c n ((j:Int),s,q)=some (.ret (t,0,l))/\l.length<=200000/\Cs l λx=>x∈q\/Yj c k s x
  | none=>Cc FF c n ((j:Int),s,q)=some (.ret (z0,21,[]))\/∃ q',Cc FF c n ((j:Int),s,q)=some (.brk q')
 | _,0,_,_,_,_,h,_,_=>by omega
 | 0,n + 1,j,s,q,h1,h2,hf,hq=>by
  unfold rst Cc;dsimp only;rw [show decide ((j:Int) < 65)=false by simp;omega,cf_];exact .inr ⟨_,rfl⟩
 | k + 1,n + 1,j,s,q,h1,h2,hf,hq=>by
  have hb:=hc.rt.bd;have h:=Wh hc hf;unfold rst Cc;dsimp only;rw [show decide ((j:Int) < 65)=true by simp;omega,ct_];cases hs:stl c 65 s with
  | none=>rw [hs] at h;rw [h];exact .inl rfl
  | some t=>
   rw [hs] at h;obtain ⟨l,h,hl,hmm⟩:=h;obtain ⟨ht,_,_⟩:=Ln hf hs;have hr:=Tb ht;obtain ⟨l2,e2,hl2,hC2⟩:=C2 (a:=q) (b:=l) om_;rw [h,ob_];dsimp only;rw [zf_,cf_,e2,ob_,Pu (n:=1000) (hr.sm hb) uF om_,ob_];cases hq2:sst (rnd c t) s with
   | true=>
    rw [if_pos rfl,ct_,Gy.1 hq2];refine ⟨l2,rfl,by omega,hC2.iff λx=>?_⟩;rw [hmm,Yj,hs];dsimp only;rw [hq2];simp
   | false=>
    rw [if_neg smp_,cf_,Am om_];have ih:=Fn hc k n (j + 1) (rnd c t) l2 om_ om_ hr om_;cases hst:rst c k (rnd c t) with
    | none=>rw [hst] at ih;exact ih
    | some u=>
     rw [hst] at ih;obtain ⟨l',e4,hl',hC⟩:=ih;refine ⟨l',e4,hl',hC.iff λx=>?_⟩;rw [hC2.2];show (x∈q\/x∈l)\/Yj c k (rnd c t) x↔_;rw [hmm,Yj,hs];dsimp only;rw [hq2];simp [or_assoc]
theorem DC {c:Aa} {s:Ac} (hc:Rc c) (hf:Fit c s):match rst c 65 s with
  | some t=>∃ l,RP FF c s=some (t,0,l)/\l.length<=200000/\Cs l (Yj c 65 s)
  | none=>RP FF c s=some (z0,21,[]):=by
 have h:=Fn hc 65 FF 0 s [] om_ uF hf smp_;rw [n0] at h;unfold RP;rw [Jk hc,(Gc hc.rt.bd).2 hf,ob_,zf_,cf_];cases hs:rst c 65 s with
 | none=>
  rw [hs] at h;rcases h with h | ⟨q,h⟩ <;> rw [h] <;> rfl
 | some t=>rw [hs] at h;obtain ⟨l,h,hl,hC⟩:=h;rw [h];exact ⟨l,rfl,hl,hC.iff λx=>by simp⟩
theorem Wn {c:Aa}:∀ {n z},Cm FF c n z=(Cc FF c n z).map λo=>match o with | .brk q=>.brk q | .ret r=>.ret (r.1,r.2.2,r.2.1):=by
 intro n
 induction n with
 | zero=>intro z;rfl
 | succ n ih=>
  intro z;rw [Cm,Cc];cases decide (z.1 < 65) with
  | false=>rfl
  | true=>
   rw [ct_,ct_];cases RL FF c z.2.1 with
   | none=>rfl
   | some x=>
    rw [ob_,ob_];cases x.2.1 != 0 with
    | true=>rfl
    | false=>
     rw [cf_,cf_];cases RN FF z.2.2 x.2.2 with
     | none=>rfl
     | some y=>
      rw [ob_,ob_];cases Q8 FF x.1 z.2.1 with
      | none=>rfl
      | some b=>
       rw [ob_,ob_];cases b with
       | true=>rfl
       | false=>rw [cf_,cf_];exact ih
theorem Xm {c:Aa} {s:Ac} (hc:Rc c) (hf:Fit c s):match rst c 65 s with
  | some t=>∃ l,Sk FF c s=some (t,l,0)/\l.length<=200000/\Cs l (Yj c 65 s)
  | none=>Sk FF c s=some (z0,[],21):=by
 have h:=Fn hc 65 FF 0 s [] om_ uF hf smp_;rw [n0] at h;unfold Sk;rw [Jk hc,(Gc hc.rt.bd).2 hf,ob_,zf_,cf_,Wn];cases hs:rst c 65 s with
 | none=>
  rw [hs] at h;rcases h with h | ⟨q,h⟩ <;> rw [h] <;> rfl
 | some t=>rw [hs] at h;obtain ⟨l,h,hl,hC⟩:=h;rw [h];exact ⟨l,rfl,hl,hC.iff λx=>by simp⟩
theorem Mf {c:Aa} (hc:Rt c):∀ (k n j:Nat) (s:Ac) (q:M6),j + k=65->k < n->Fit c s->q.length<=110 * j->∀ {p:Int->Prop},Cs q p ->
  match rst c k s with
  | some t=>∃ l,Fk FF c n (q,(j:Int),s)=some (.ret (t,l,true))/\Cs l λx=>p x\/Yj c k s x
  | none=>(∃ a l,Fk FF c n (q,(j:Int),s)=some (.ret (a,l,false)))\/∃ q',Fk FF c n (q,(j:Int),s)=some (.brk q')
 | _,0,_,_,_,_,h,_,_,_,_=>by omega
 | 0,n + 1,j,s,q,h1,h2,hf,hq,p,hp=>by
  unfold rst Fk;dsimp only;rw [show decide ((j:Int)<=64)=false by simp;omega,cf_];exact .inr ⟨_,rfl⟩
 | k + 1,n + 1,j,s,q,h1,h2,hf,hq,p,hp=>by
  have hb:=hc.bd;have h:=CX hc hf;unfold rst Fk;dsimp only;rw [show decide ((j:Int)<=64)=true by simp;omega,ct_];cases hs:stl c 65 s with
  | none=>rw [hs] at h;obtain ⟨a,l,h⟩:=h;rw [h];exact .inl ⟨_,_,rfl⟩
  | some t=>
   rw [hs] at h;obtain ⟨l,h,hl,hC⟩:=h;obtain ⟨ht,_,_⟩:=Ln hf hs;have hr:=Tb ht;obtain ⟨l2,e2,hl2,hC2⟩:=We (a:=q) (b:=l) om_ hp hC;rw [h,ob_];dsimp only;rw [nt_,cf_,e2,ob_,Qg (n:=1000) (hf.sm hb) uF om_,ob_,show sst s (rnd c t)=sst (rnd c t) s from Sy];cases hq2:sst (rnd c t) s with
   | true=>
    rw [if_pos rfl,ct_];refine ⟨l2,rfl,hC2.iff λx=>?_⟩;rw [Yj,hs];dsimp only;rw [hq2];simp
   | false=>
    rw [if_neg smp_,cf_,Am om_];have ih:=Mf hc k n (j + 1) (rnd c t) l2 om_ om_ hr om_ hC2;cases hst:rst c k (rnd c t) with
    | none=>rw [hst] at ih;exact ih
    | some u=>
     rw [hst] at ih;obtain ⟨l',e4,hC⟩:=ih;refine ⟨l',e4,hC.iff λx=>?_⟩;rw [Yj,hs];dsimp only;rw [hq2];simp [or_assoc]
theorem Wk {c:Aa} {s:Ac} (hc:Rt c) (hf:Fit c s):match rst c 65 s with
  | some t=>∃ l,N8 FF c s=some (t,l,true)/\Cs l (Yj c 65 s)
  | none=>∃ a l,N8 FF c s=some (a,l,false):=by
 have h:=Mf hc 65 FF 0 s [] om_ uF hf smp_ (Cs.nil (p:=λ_=>False) λ_ h=>h);rw [n0] at h;unfold N8;cases hs:rst c 65 s with
 | none=>
  rw [hs] at h;rcases h with ⟨a,l,h⟩ | ⟨q,h⟩ <;> rw [h] <;> exact ⟨_,_,rfl⟩
 | some t=>rw [hs] at h;obtain ⟨l,h,hC⟩:=h;rw [h];exact ⟨l,rfl,hC.iff λx=>by simp⟩
theorem DJ {c:Aa} {s:Ac} (hc:Rt c) (hf:Fit c s):match rst c 65 s with
  | some t=>∃ l,OA FF c s=some (t,l,0)/\Cs l (Yj c 65 s)
  | none=>OA FF c s=some (z0,[],21):=by
 have h:=Wk hc hf;unfold OA;cases hs:rst c 65 s with
 | none=>rw [hs] at h;obtain ⟨a,l,h⟩:=h;rw [h];rfl
 | some t=>rw [hs] at h;obtain ⟨l,h,hC⟩:=h;rw [h];exact ⟨_,rfl,hC⟩
def qtE (c:Aa) (s:Ac):Int:=if DZ c s=0 then (match stl c 65 s with | some t=>if sst (rnd c t) s=true then 0 else 14 | none=>14) else DZ c s
theorem Wm {c:Aa} {s:Ac} (hc:Rc c):RR FF c s=some (qtE c s):=by
 unfold RR RQ qtE;rw [Jk hc,ob_];by_cases h0:DZ c s=0
 ·have hf:=(Gc hc.rt.bd).1 h0;have h:=Wh hc hf;rw [if_pos h0,h0,zf_,cf_];cases hs:stl c 65 s with
  | none=>rw [hs] at h;rw [h];rfl
  | some t=>
   rw [hs] at h;obtain ⟨l,h,hl⟩:=h;obtain ⟨ht,_,_⟩:=Ln hf hs;rw [h,ob_];dsimp only;rw [show ((0:Int) == 0)=true by rfl,ct_,Pu (n:=1000) ((Tb ht).sm hc.rt.bd) uF om_];cases sst (rnd c t) s <;> rfl
 ·rw [if_neg h0,show (DZ c s != 0)=true by simpa using h0,ct_,ob_];dsimp only;rw [show (DZ c s != 0)=true by simpa using h0,ct_]
theorem Yn {c:Aa} {s:Ac} (hb:Bd_ c):qtE c s=0↔Fit c s/\Qt c s:=by
 unfold qtE Qt;rw [← Gc hb];by_cases h0:DZ c s=0
 ·rw [if_pos h0];cases stl c 65 s with
  | none=>simp
  | some t=>simp [h0]
 ·rw [if_neg h0];simp [h0]
def act (s:Ac) (x:Ae):Option Ac:=
 if x.Kind=0 then (match idx s.Ends x.Index with
  | some e=>if e=1 then some { s with Ends:=s.Ends.set x.Index.toNat 2 } else if e=3 then some { s with Ends:=s.Ends.set x.Index.toNat 0 } else none
  | none=>none)
 else if x.Kind=1 then (match idx s.Timers x.Index with
  | some t=>if t=1 then some { s with Values:=s.Values.set x.Index.toNat true,Timers:=s.Timers.set x.Index.toNat 2 } else none
  | none=>none)
 else (match idx s.Inputs x.Index with
  | some v=>if v=x.Value then none else some { s with Inputs:=s.Inputs.set x.Index.toNat x.Value }
  | none=>none)
def aft (c:Aa) (s:Ac) (x:Ae):Ac×Int:=
 if x.Kind < 0\/3<=x.Kind then (z0,1) else match act s x with
  | none=>(z0,14)
  | some s'=>match rst c 65 s' with
   | none=>(z0,21)
   | some t=>(t,0)
theorem Xj {α:Type} {l:List α} {i:Nat} {y a:α} (h:a∈l.set i y):a∈l\/a=y:=by
 rcases List.mem_or_eq_of_mem_set h with h | h
 ·exact .inl h
 ·exact .inr h
theorem Uf {c:Aa} {s s':Ac} {x:Ae} (h:Fit c s) (ha:act s x=some s'):Fit c s':=by
 unfold act at ha;split at ha
 ·split at ha
  ·rename_i e he;split at ha
   ·obtain rfl:=Option.some.inj ha;exact ⟨(J8 ..).trans h.e,h.v,h.i,h.x,h.t,λa ha=>(Xj ha).elim (h.ee a) (λe=>by omega),h.tt,h.k⟩
   ·split at ha
    ·obtain rfl:=Option.some.inj ha;exact ⟨(J8 ..).trans h.e,h.v,h.i,h.x,h.t,λa ha=>(Xj ha).elim (h.ee a) (λe=>by omega),h.tt,h.k⟩
    ·cases ha
  ·cases ha
 ·split at ha
  ·split at ha
   ·rename_i t ht;split at ha
    ·rename_i h1;obtain rfl:=Option.some.inj ha;obtain ⟨i0,i1,i2⟩:=Ax ht;refine ⟨h.e,h.v,h.i,(J8 ..).trans h.x,(J8 ..).trans h.t,h.ee,λa ha=>(Xj ha).elim (h.tt a) (λe=>by omega),?_⟩;intro i y t' v' hy ht' hv';dsimp only at ht' hv';by_cases e:i=x.Index.toNat
     ·subst e;rw [H3 om_] at ht';rw [H3 (by have:=h.x;have:=h.t;omega)] at hv';obtain rfl:=Option.some.inj ht';obtain rfl:=Option.some.inj hv';refine ⟨λhk=>?_,λ_=>rfl⟩;have hlt:x.Index.toNat < s.Values.length:=by rw [h.x,← h.t];exact (GZ.1 i2).1
      have hvo:s.Values[x.Index.toNat]?=some s.Values[x.Index.toNat]:=gE_ hlt;have:=(h.k _ y t _ hy i2 hvo).1 hk;omega
     ·rw [JE om_] at ht' hv';exact h.k i y t' v' hy ht' hv'
    ·cases ha
   ·cases ha
  ·split at ha
   ·split at ha
    ·cases ha
    ·obtain rfl:=Option.some.inj ha;exact ⟨h.e,h.v,(J8 ..).trans h.i,h.x,h.t,h.ee,h.tt,h.k⟩
   ·cases ha
def afP (c:Aa) (s:Ac) (x:Ae) (y:Int):Prop:=(aft c s x).2=0/\∃ s',act s x=some s'/\Yj c 65 s' y
theorem DB {c:Aa} {s:Ac} {x:Ae} (hc:Rc c) (hf:Fit c s):∃ l,RY FF c s x=some ((aft c s x).1,l,(aft c s x).2)/\l.length<=200000/\Cs l (afP c s x):=by
 have hb:=hc.rt.bd;unfold RY afP aft;rw [Wg (hf.sm hb),ob_];by_cases hk:x.Kind < 0\/3<=x.Kind
 ·rw [if_pos hk,show (decide (x.Kind < 0) || decide (x.Kind>=(3:Int)))=true by simpa using hk];exact ⟨_,rfl,by simp,Cs.nil λx h=>by cases h.1⟩
 ·rw [if_neg hk,show (decide (x.Kind < 0) || decide (x.Kind>=(3:Int)))=false by simp;omega,cf_]
  -- what the act gives
  have key:∃ r:Bool×M6×M7×M7×M7×M6,((idx (List.range 3) x.Kind).bind λx6=>(bif x6 == 0 then RU FF x (tup s).1 (tup s).2.1 (tup s).2.2.1 (tup s).2.2.2.1 (tup s).2.2.2.2 else bif x6 == 1 then RW FF x (tup s).1 (tup s).2.1 (tup s).2.2.1 (tup s).2.2.2.1 (tup s).2.2.2.2 else bif x6 == 2 then RX FF x (tup s).1 (tup s).2.1 (tup s).2.2.1 (tup s).2.2.2.1 (tup s).2.2.2.2 else none))=some r /\
    (match act s x with | none=>r.1=false | some s'=>r=(true,s'.Ends,s'.Valves,s'.Inputs,s'.Values,s'.Timers)):=by
   unfold tup act;dsimp only;have hkk:x.Kind=0\/x.Kind=1\/x.Kind=2:=by omega
   rcases hkk with k | k | k <;> rw [k]
   ·rw [show idx (List.range 3) (0:Int)=some 0 by rfl,ob_,show ((0:Nat) == 0)=true by rfl,ct_,if_pos rfl];unfold RU;by_cases hr:x.Index < 0\/(s.Ends.length:Int)<=x.Index
    ·rw [show (decide (x.Index < 0) || decide (x.Index>=(s.Ends.length:Int)))=true by simpa using hr,ct_];have:idx s.Ends x.Index=none:=by
      cases he:idx s.Ends x.Index with
      | none=>rfl
      | some e=>have:=Ax he;omega
     rw [this];exact ⟨_,rfl,rfl⟩
    ·rw [show (decide (x.Index < 0) || decide (x.Index>=(s.Ends.length:Int)))=false by simp;omega,cf_];obtain ⟨e,he,_⟩:=Cw (xs:=s.Ends) (i:=x.Index) om_ om_;rw [he,ob_];dsimp only;by_cases h1:e=1
     ·rw [if_pos h1,show (e == 1)=true by simpa using h1,ct_];exact ⟨_,rfl,rfl⟩
     ·rw [if_neg h1,show (e == 1)=false by simpa using h1,cf_];by_cases h3:e=3
      ·rw [if_pos h3,show (e == 3)=true by simpa using h3,ct_];exact ⟨_,rfl,rfl⟩
      ·rw [if_neg h3,show (e == 3)=false by simpa using h3,cf_];exact ⟨_,rfl,rfl⟩
   ·rw [show idx (List.range 3) (1:Int)=some 1 by rfl,ob_,show ((1:Nat) == 0)=false by rfl,cf_,show ((1:Nat) == 1)=true by rfl,ct_,if_neg om_,if_pos rfl];unfold RW;by_cases hr:x.Index < 0\/(s.Timers.length:Int)<=x.Index
    ·rw [show (decide (x.Index < 0) || decide (x.Index>=(s.Timers.length:Int)))=true by simpa using hr,ct_,ob_];have:idx s.Timers x.Index=none:=by
      cases he:idx s.Timers x.Index with
      | none=>rfl
      | some e=>have:=Ax he;omega
     rw [this];exact ⟨_,rfl,rfl⟩
    ·rw [show (decide (x.Index < 0) || decide (x.Index>=(s.Timers.length:Int)))=false by simp;omega,cf_];obtain ⟨e,he,_⟩:=Cw (xs:=s.Timers) (i:=x.Index) om_ om_;obtain ⟨v,hv,_⟩:=Cw (xs:=s.Values) (i:=x.Index) om_ (by have:=hf.x;have:=hf.t;omega);rw [he,ob_,ob_];dsimp only;by_cases h1:e=1
     ·rw [if_pos h1,show (e != 1)=false by simpa using h1,cf_,ob_,hv];exact ⟨_,rfl,rfl⟩
     ·rw [if_neg h1,show (e != 1)=true by simpa using h1,ct_];exact ⟨_,rfl,rfl⟩
   ·rw [show idx (List.range 3) (2:Int)=some 2 by rfl,ob_,show ((2:Nat) == 0)=false by rfl,cf_,show ((2:Nat) == 1)=false by rfl,cf_,show ((2:Nat) == 2)=true by rfl,ct_,if_neg om_,if_neg om_];unfold RX;by_cases hr:x.Index < 0\/(s.Inputs.length:Int)<=x.Index
    ·rw [show (decide (x.Index < 0) || decide (x.Index>=(s.Inputs.length:Int)))=true by simpa using hr,ct_,ob_];have:idx s.Inputs x.Index=none:=by
      cases he:idx s.Inputs x.Index with
      | none=>rfl
      | some e=>have:=Ax he;omega
     rw [this];exact ⟨_,rfl,rfl⟩
    ·rw [show (decide (x.Index < 0) || decide (x.Index>=(s.Inputs.length:Int)))=false by simp;omega,cf_];obtain ⟨e,he,_⟩:=Cw (xs:=s.Inputs) (i:=x.Index) om_ om_;rw [he,ob_,ob_];dsimp only;by_cases h1:e=x.Value
     ·rw [if_pos h1,show (e == x.Value)=true by simpa using h1,ct_];exact ⟨_,rfl,rfl⟩
     ·rw [if_neg h1,show (e == x.Value)=false by simpa using h1,cf_,ob_];exact ⟨_,rfl,rfl⟩
  obtain ⟨r,hr,hm⟩:=key;obtain ⟨x6,h6,hr⟩:=JM.1 hr;rw [h6,ob_,hr,ob_];cases ha:act s x with
  | none=>
   rw [ha] at hm;rw [hm,nf_,ct_];exact ⟨_,rfl,by simp,Cs.nil λx h=>by cases h.1⟩
  | some s'=>
   rw [ha] at hm;subst hm;have h:=Xm hc (Uf hf ha);dsimp only;rw [nt_,cf_];rw [show (⟨s'.Ends,s'.Valves,s'.Inputs,s'.Values,s'.Timers⟩:Ac)=s' from rfl];cases hs:rst c 65 s' with
   | none=>rw [hs] at h;rw [h];exact ⟨_,rfl,by simp,Cs.nil λx h=>by cases h.1⟩
   | some t=>rw [hs] at h;obtain ⟨l,h,hl,hC⟩:=h;rw [h];exact ⟨_,rfl,hl,hC.iff λx=>by simp⟩
theorem m91_cs {c:Aa} {s:Ac} {x:Ae} (hc:Rc c) (hf:Fit c s) (hq:Qt c s):∃ l,m91 FF c s x=some ((aft c s x).1,l,(aft c s x).2)/\l.length<=200000/\Cs l (afP c s x):=by
 obtain ⟨l,h,hl,hC⟩:=DB (x:=x) hc hf;unfold m91;rw [Wm hc,(Yn hc.rt.bd).2 ⟨hf,hq⟩,ob_,zf_,cf_,h];exact ⟨l,rfl,hl,hC⟩
theorem Yr {c:Aa} {s:Ac} {x:Ae} (hc:Rc c) (hf:Fit c s) (hq:Qt c s):∃ l,m91 FF c s x=some ((aft c s x).1,l,(aft c s x).2):=
 let ⟨l,h,_⟩:=m91_cs hc hf hq;⟨l,h⟩
end Go.Pn
namespace Go.Pn
open Go
def Uh (s:Ac) (i:Nat):Option Ae:=if s.Ends.getD i 0=1\/s.Ends.getD i 0=3 then some ⟨0,(i:Int),false⟩ else none
def BF (s:Ac) (i:Nat):Option Ae:=if s.Timers.getD i 0=1 then some ⟨1,(i:Int),false⟩ else none
def Ha (s:Ac):List Ae:=(List.range s.Ends.length).filterMap (Uh s) ++ (List.range s.Timers.length).filterMap (BF s)
theorem Bx {α:Type} {g:Nat->Option α} {n:Nat}:((List.range n).filterMap g).length<=n:=by
 have:=List.length_filterMap_le g (List.range n);rw [K4] at this;exact this
theorem Gj {α:Type} {g:Nat->Option α} {n:Nat}:(List.range (n + 1)).filterMap g=(List.range n).filterMap g ++ (match g n with | some y=>[y] | none=>[]):=by
 rw [List.range_succ,List.filterMap_append];cases h:g n <;> simp [h]
theorem Za {s:Ac} (h:Smst s 1000):m65 FF s=some (Ha s):=by
 have h1:=h.e;have h2:=h.t;unfold m65;obtain ⟨v,hv,hl⟩:=Ri (L:=Ry s) (mk:=λi (v:List Ae)=>((i:Int),v)) (N:=s.Ends.length) (I:=λi v=>v=(List.range i).filterMap (Uh s)) (λn i v hi hI=>by
  subst hI;refine ⟨_,rfl,?_⟩;have hle:=Bx (g:=Uh s) (n:=i);have hg:s.Ends.getD i 0=s.Ends[i]:=by rw [HH,gE_ hi];rfl
  rw [Ry];dsimp only;rw [Aj,dt_ hi,ct_];simp only [Ai,gE_ hi,ob_];rw [Am om_,Gj];have hp:Uh s i=if s.Ends[i]=1\/s.Ends[i]=3 then some ⟨0,(i:Int),false⟩ else none:=by unfold Uh;rw [hg]
  rw [hp];by_cases a1:s.Ends[i]=1
  ·rw [show (s.Ends[i] == 1)=true by simpa using a1,if_pos (.inl a1),ct_,ob_,ct_,Aq so_];rfl
  ·by_cases a3:s.Ends[i]=3
   ·rw [show (s.Ends[i] == 1)=false by simpa using a1,show (s.Ends[i] == 3)=true by simpa using a3,if_pos (.inr a3),cf_,ob_,ct_,Aq so_];rfl
   ·rw [show (s.Ends[i] == 1)=false by simpa using a1,show (s.Ends[i] == 3)=false by simpa using a3,if_neg om_,cf_,ob_,cf_,ob_,H7]) (λn v _=>by
  rw [Ry];dsimp only;rw [Aj,df_ om_,cf_]) FF 0 [] om_ uF rfl
 subst hv;try dsimp only at hl
 rw [n0] at hl;rw [hl,ob_];have hle1:=Bx (g:=Uh s) (n:=s.Ends.length);obtain ⟨v,hv,hl⟩:=Ri (L:=Rx s) (mk:=λi (v:List Ae)=>((i:Int),v)) (N:=s.Timers.length) (I:=λi v=>v=(List.range s.Ends.length).filterMap (Uh s) ++ (List.range i).filterMap (BF s)) (λn i v hi hI=>by
  subst hI;refine ⟨_,rfl,?_⟩;have hle:=Bx (g:=BF s) (n:=i);have hg:s.Timers.getD i 0=s.Timers[i]:=by rw [HH,gE_ hi];rfl
  rw [Rx];dsimp only;rw [Aj,dt_ hi,ct_];simp only [Ai,gE_ hi,ob_];rw [Am om_,Gj];have hp:BF s i=if s.Timers[i]=1 then some ⟨1,(i:Int),false⟩ else none:=by unfold BF;rw [hg]
  rw [hp];by_cases a1:s.Timers[i]=1
  ·rw [show (s.Timers[i] == 1)=true by simpa using a1,if_pos a1,ct_,Aq so_,← HN];rfl
  ·rw [show (s.Timers[i] == 1)=false by simpa using a1,if_neg a1,cf_,ob_,H7]) (λn v _=>by
  rw [Rx];dsimp only;rw [Aj,df_ om_,cf_]) FF 0 ((List.range s.Ends.length).filterMap (Uh s)) om_ uF smp_
 subst hv;try dsimp only at hl
 rw [n0] at hl;rw [hl];rfl
theorem Mu {s:Ac} (h:Smst s 1000):(Ha s).length<=2000:=by
 have h1:=h.e;have h2:=h.t;have a:=Bx (g:=Uh s) (n:=s.Ends.length);have b:=Bx (g:=BF s) (n:=s.Timers.length);unfold Ha;rw [GY];omega
theorem Tf {s:Ac} {x:Ae}:x∈Ha s↔(∃ i,i < s.Ends.length/\(s.Ends.getD i 0=1\/s.Ends.getD i 0=3)/\x=⟨0,(i:Int),false⟩)\/(∃ i,i < s.Timers.length/\s.Timers.getD i 0=1/\x=⟨1,(i:Int),false⟩):=by
 unfold Ha;rw [G9,KX,KX];unfold Uh BF;constructor
 ·rintro (⟨i,hi,h⟩ | ⟨i,hi,h⟩)
  ·split at h
   ·rename_i h1;exact .inl ⟨i,HC.1 hi,h1,(Option.some.inj h).symm⟩
   ·cases h
  ·split at h
   ·rename_i h1;exact .inr ⟨i,HC.1 hi,h1,(Option.some.inj h).symm⟩
   ·cases h
 ·rintro (⟨i,hi,h,rfl⟩ | ⟨i,hi,h,rfl⟩)
  ·exact .inl ⟨i,HC.2 hi,by rw [if_pos h]⟩
  ·exact .inr ⟨i,HC.2 hi,by rw [if_pos h]⟩
theorem AC {l:M6} {i:Nat} (h:i < l.length):idx l (i:Int)=some (l.getD i 0):=by
 rw [Ai,HH,gE_ h];rfl
theorem AA {l:M6} {i e:Int} (h:idx l i=some e):i.toNat < l.length/\l.getD i.toNat 0=e/\((i.toNat:Nat):Int)=i:=by
 obtain ⟨h0,h1,h2⟩:=Ax h;exact ⟨(GZ.1 h2).1,by rw [HH,h2];rfl,by omega⟩
theorem DK {s:Ac} {x:Ae} (h:Smst s 1000) (hk:0<=x.Kind/\x.Kind < 3):NE FF s x=some (act s x).isSome:=by
 have hkk:x.Kind=0\/x.Kind=1\/x.Kind=2:=by omega
 unfold NE;by_cases h2:x.Kind=2
 ·rw [h2,show ((2:Int) == 2)=true by rfl,ct_];unfold act;rw [if_neg om_,if_neg om_];by_cases hr:x.Index>=0/\x.Index < s.Inputs.length
  ·rw [dt_ hr.1,dt_ hr.2,Bool.and_self,ct_];obtain ⟨v,hv,_⟩:=Cw (xs:=s.Inputs) hr.1 hr.2;rw [hv,ob_,ob_];dsimp only;by_cases e:v=x.Value
   ·rw [if_pos e,e];simp
   ·rw [if_neg e,show (v != x.Value)=true by simpa using e];rfl
  ·have:(decide (x.Index>=(0:Int)) && decide (x.Index < (s.Inputs.length:Int)))=false:=by
    rw [K3,decide_eq_false_iff_not,decide_eq_false_iff_not];omega
   have hn:idx s.Inputs x.Index=none:=by
    cases he:idx s.Inputs x.Index with
    | none=>rfl
    | some e=>have:=Ax he;omega
   rw [this,hn];rfl
 ·rw [show (x.Kind == 2)=false by simpa using h2,cf_,Za h,ob_];have hpl:=Mu h;have h5:=BE (L:=Qh x (Ha s)) (xs:=Ha s) (p:=λ_ y=>some ((y.Kind == x.Kind) && (y.Index == x.Index))) (q:=λy=>(y.Kind == x.Kind) && (y.Index == x.Index)) (r:=λ_=>true) (λn z=>by
   rw [Qh];congr 1;cases hy:idx (Ha s) z with
   | none=>rfl
   | some y=>
    simp only [ob_];cases (y.Kind == x.Kind) <;> rfl) om_ (λi y hy=>rfl) FF 0 om_ (by unfold FF; omega)
  rw [n0,HA] at h5;rw [h5];have key:(act s x).isSome=true↔∃ y∈Ha s,((y.Kind == x.Kind) && (y.Index == x.Index))=true:=by
   unfold act;constructor
   ·intro ha;split at ha
    ·rename_i hk0;split at ha
     ·rename_i e he;obtain ⟨g1,g2,g3⟩:=AA he;have:e=1\/e=3:=by
       split at ha
       ·left;assumption
       ·split at ha
        ·right;assumption
        ·cases ha
      exact ⟨⟨0,((x.Index.toNat:Nat):Int),false⟩,Tf.2 (.inl ⟨_,g1,by omega,rfl⟩),by simp [hk0,g3]⟩
     ·cases ha
    ·split at ha
     ·rename_i hk0 hk1;split at ha
      ·rename_i e he;obtain ⟨g1,g2,g3⟩:=AA he;have:e=1:=by
        split at ha
        ·assumption
        ·cases ha
       exact ⟨⟨1,((x.Index.toNat:Nat):Int),false⟩,Tf.2 (.inr ⟨_,g1,by omega,rfl⟩),by simp [hk1,g3]⟩
      ·cases ha
     ·omega
   ·rintro ⟨y,hy,hq⟩;rw [G2,beq_iff_eq,beq_iff_eq] at hq;obtain ⟨q1,q2⟩:=hq;rcases Tf.1 hy with ⟨i,hi,he,rfl⟩ | ⟨i,hi,he,rfl⟩
    ·dsimp only at q1 q2;rw [if_pos q1.symm,← q2,AC hi];dsimp only;rcases he with he | he
     ·rw [if_pos he];rfl
     ·rw [if_neg om_,if_pos he];rfl
    ·dsimp only at q1 q2;rw [if_neg om_,if_pos q1.symm,← q2,AC hi];dsimp only;rw [if_pos he];rfl
  cases h6:(Ha s).findIdx? (λy=>(y.Kind == x.Kind) && (y.Index == x.Index)) with
  | none=>
   rw [H5] at h6;have:(act s x).isSome=false:=by
    rw [M5];intro ha;obtain ⟨y,hy,hq⟩:=key.1 ha;rw [h6 y hy] at hq;cases hq
   rw [this];rfl
  | some j=>
   obtain ⟨hj,hj2,_⟩:=HT.1 h6;rw [key.2 ⟨_,G1 hj,hj2⟩];rfl
theorem DH {c:Aa} {s s':Ac} {x:Ae} (hb:Bd_ c) (hf:Fit c s) (hk:0<=x.Kind/\x.Kind < 3) (ha:act s x=some s'):OB FF s x=some s':=by
 have hkk:x.Kind=0\/x.Kind=1\/x.Kind=2:=by omega
 unfold OB;rw [Dn (hf.sm hb),ob_];unfold tup;dsimp only;unfold act at ha;rcases hkk with k | k | k <;> rw [k] at ha ⊢
 ·rw [if_pos rfl] at ha;rw [show ((0:Int) == 0)=true by rfl,ct_];split at ha
  ·rename_i e he;obtain ⟨i0,i1,i2⟩:=Ax he;rw [he,ob_,ob_];split at ha
   ·rename_i h1;obtain rfl:=Option.some.inj ha;obtain ⟨y,hy,_⟩:=Cw (xs:=s.Ends.set x.Index.toNat 0) i0 (by rw [J8];exact i1);rw [h1,show ((1:Int) == 1)=true by rfl,ct_,hy,ob_,ob_,ob_,List.set_set]
   ·rename_i h1;split at ha
    ·obtain rfl:=Option.some.inj ha;rw [show (e == 1)=false by simpa using h1,cf_,ob_,ob_]
    ·cases ha
  ·cases ha
 ·rw [if_neg om_,if_pos rfl] at ha;rw [show ((1:Int) == 0)=false by rfl,cf_,show ((1:Int) == 1)=true by rfl,ct_];split at ha
  ·rename_i e he;obtain ⟨i0,i1,i2⟩:=Ax he;have hx:=hf.x;have ht:=hf.t;obtain ⟨y,hy,_⟩:=Cw (xs:=s.Values) i0 om_;rw [he,ob_,hy,ob_,ob_];split at ha
   ·obtain rfl:=Option.some.inj ha;rfl
   ·cases ha
  ·cases ha
 ·rw [if_neg om_,if_neg om_] at ha;rw [show ((2:Int) == 0)=false by rfl,cf_,show ((2:Int) == 1)=false by rfl,cf_,show ((2:Int) == 2)=true by rfl,ct_];split at ha
  ·rename_i e he;rw [he,ob_,ob_,ob_,ob_];split at ha
   ·cases ha
   ·obtain rfl:=Option.some.inj ha;rfl
  ·cases ha
theorem m66_cs {c:Aa} {s:Ac} {x:Ae} (hc:Rt c) (hf:Fit c s):∃ l,m66 FF c s x=some ((aft c s x).1,l,(aft c s x).2)/\Cs l (afP c s x):=by
 have hb:=hc.bd;unfold m66 afP aft;by_cases hk:x.Kind < 0\/3<=x.Kind
 ·rw [if_pos hk,show (decide (x.Kind < 0) || decide (x.Kind > 2))=true by simp;omega];exact ⟨_,rfl,Cs.nil λx h=>by cases h.1⟩
 ·rw [if_neg hk,show (decide (x.Kind < 0) || decide (x.Kind > 2))=false by simp;omega,cf_,DK (hf.sm hb) om_,ob_];cases ha:act s x with
  | none=>exact ⟨_,rfl,Cs.nil λx h=>by cases h.1⟩
  | some s'=>
   rw [show (!(some s').isSome)=false by rfl,cf_,DH hb hf om_ ha,ob_];have h:=DJ hc (Uf hf ha);dsimp only;cases hs:rst c 65 s' with
   | none=>rw [hs] at h;rw [h];exact ⟨_,rfl,Cs.nil λx h=>by cases h.1⟩
   | some t=>rw [hs] at h;obtain ⟨l,h,hC⟩:=h;rw [h];exact ⟨_,rfl,hC.iff λy=>⟨λh=>⟨rfl,s',rfl,h⟩,λ⟨_,s2,h2,h3⟩=>by obtain rfl:=Option.some.inj h2;exact h3⟩⟩
theorem Yz {c:Aa} {s:Ac} {x:Ae} (hc:Rt c) (hf:Fit c s):∃ l,m66 FF c s x=some ((aft c s x).1,l,(aft c s x).2):=
 let ⟨l,h,_⟩:=m66_cs hc hf;⟨l,h⟩
def ED (c:Aa) (i:Nat):Bool:=((c.Signals[i]?).map (·.Init)).getD false
def ini (c:Aa):Ac:=⟨List.replicate (cA c) 0,List.replicate (cA c) false,List.replicate c.Inputs.length false,(List.range c.Signals.length).map (ED c),List.replicate c.Signals.length 0⟩
theorem Tw {c:Aa} (hc:Rt c):Fit c (ini c):=by
 refine ⟨by simp [ini],by simp [ini],by simp [ini],by simp [ini],by simp [ini],?_,?_,?_⟩
 ·intro a ha;have:=L9 ha;omega
 ·intro a ha;have:=L9 ha;omega
 ·intro i x t v hx ht hv;have hi:=(GZ.1 hx).1;have ht':(List.replicate c.Signals.length (0:Int))[i]?=some t:=ht;have hv':((List.range c.Signals.length).map (ED c))[i]?=some v:=hv;rw [KV,if_pos hi] at ht';rw [HJ,JC hi] at hv';have ht':=Option.some.inj ht';have hv':=Option.some.inj hv';subst ht';refine ⟨λ_=>rfl,λhk=>?_⟩;have:=hc.ini x (G6 hx) hk;unfold ED at hv';rw [hx] at hv';have hv':x.Init=v:=hv';rw [← hv',this];rfl
theorem Mi {c:Aa} (hb:Bd_ c):∃ z,Ei c FF ((0:Int),List.replicate c.Signals.length false)=some (z,(List.range c.Signals.length).map (ED c)):=by
 have h3:=hb.s;obtain ⟨v,hv,hl⟩:=Ri (L:=Ei c) (mk:=λi (v:M7)=>((i:Int),v)) (N:=c.Signals.length) (I:=λi v=>v=upd (ED c) (List.replicate c.Signals.length false) i) (λn i v hi hI=>by
  subst hI;refine ⟨_,rfl,?_⟩;have hg:(upd (ED c) (List.replicate c.Signals.length false) i)[i]?=some false:=by rw [Cj (HB i),KV,if_pos hi]
  rw [Ei];dsimp only;rw [Aj,dt_ hi,ct_,Ai,gE_ hi,ob_,Ai,hg,ob_,Am om_,HO,Dv (by simpa using hi) (by unfold ED;rw [gE_ hi];rfl)]) (λn v _=>by
  rw [Ei];dsimp only;rw [Aj,df_ om_,cf_]) FF 0 _ om_ uF Ch.symm
 subst hv;try dsimp only at hl
 rw [n0] at hl;rw [hl];have:=Dw (f:=ED c) (l:=List.replicate c.Signals.length false);rw [K1] at this;rw [this];exact ⟨_,rfl⟩
theorem A7 {c:Aa}:∀ {n z},Px c n z=Ei c n z:=by
 intro n
 induction n with
 | zero=>intro z;rfl
 | succ n ih=>intro z;rw [Px,Ei];simp only [ih]
theorem Et {α:Type} {z:α} {n:Nat} (h:n<=1000):mks z (n:Int)=some (List.replicate n z):=by
 unfold mks;rw [if_pos om_,HO]
theorem DD {c:Aa} (hc:Rc c):QL FF c=some (Au c (ini c),0):=by
 have hb:=hc.rt.bd;have h1:=hb.a';have h2:=hb.i;have h3:=hb.s;obtain ⟨z,hz⟩:=Mi hb;unfold QL;rw [hc.ck,ob_,zf_,cf_,hb.a,Et om_,ob_,Et om_,ob_,Et om_,ob_,Et om_,ob_,Et om_,ob_,hz,ob_];dsimp only;rw [show (⟨List.replicate (cA c) 0,List.replicate (cA c) false,List.replicate c.Inputs.length false,(List.range c.Signals.length).map (ED c),List.replicate c.Signals.length 0⟩:Ac)=ini c from rfl,C3 hc.rt hc.fw (Tw hc.rt)];rfl
theorem C9 {c:Aa} (hc:Rt c):OC FF c=some (Au c (ini c)):=by
 have hb:=hc.bd;have h1:=hb.a';have h2:=hb.i;have h3:=hb.s;obtain ⟨z,hz⟩:=Mi hb;unfold OC;rw [hb.a,Et om_,ob_,Et om_,ob_,Et om_,ob_,Et om_,ob_,Et om_,ob_,A7,hz,ob_];dsimp only;rw [show (⟨List.replicate (cA c) 0,List.replicate (cA c) false,List.replicate c.Inputs.length false,(List.range c.Signals.length).map (ED c),List.replicate c.Signals.length 0⟩:Ac)=ini c from rfl,Wd hc (Tw hc)];rfl
theorem EV {c:Aa} (hc:Rc c):match rst c 65 (Au c (ini c)) with
  | some t=>∃ l,m90 FF c=some (t,0,l)/\l.length<=200000/\Cs l (Yj c 65 (Au c (ini c)))
  | none=>m90 FF c=some (z0,21,[]):=by
 have h:=DC hc (Gb (Tw hc.rt));unfold m90;rw [DD hc,ob_,zf_,cf_];dsimp only;cases hs:rst c 65 (Au c (ini c)) with
 | none=>rw [hs] at h;rw [h];rfl
 | some t=>rw [hs] at h;obtain ⟨l,h,hl,hC⟩:=h;rw [h];exact ⟨l,rfl,hl,hC⟩
def bgs (c:Aa):M7->Nat->Ac->Option Ac
 | [],_,s=>some s
 | b :: l,i,s=>if b=true then (match rst c 65 { s with Inputs:=s.Inputs.set i true } with
   | some t=>bgs c l (i + 1) t
   | none=>none) else bgs c l (i + 1) s
theorem Kr {c:Aa} {held:M7} (hl:held.length<=1000) {e:Int} (he:e≠0) (s:Ac):∀ (n i:Nat),i<=held.length->held.length - i < n->∃ z,Jd FF c held n (e,(i:Int),s)=some (e,z,s)
 | 0,i,_,h=>by omega
 | n + 1,i,h1,h2=>by
  unfold Jd;dsimp only;by_cases hi:i < held.length
  ·rw [Aj,dt_ hi,ct_,Ai,gE_ hi,ob_,show (e == 0)=false by simpa using he,JS,cf_,ob_,Am om_];exact Kr hl he s n (i + 1) om_ om_
  ·rw [Aj,df_ hi,cf_];exact ⟨_,rfl⟩
theorem Ud {c:Aa} (hc:Rc c) {held:M7} (hhl:held.length=c.Inputs.length):∀ (l:M7) (i n:Nat) (s:Ac),held.drop i=l->l.length < n->Fit c s->Qt c s->(∀ j,i<=j->j < c.Inputs.length->s.Inputs[j]?=some false) ->
  match bgs c l i s with
  | some t=>(∃ z,Jd FF c held n ((0:Int),(i:Int),s)=some (0,z,t))/\(∃ z,Cp FF c held n (true,(i:Int),s)=some (true,z,t))/\Fit c t/\Qt c t
  | none=>(∃ z t,Jd FF c held n ((0:Int),(i:Int),s)=some (21,z,t))/\∃ z t,Cp FF c held n (true,(i:Int),s)=some (false,z,t)
 | [],i,0,s,_,h,_,_,_=>by simp at h
 | [],i,n + 1,s,hd,_,hf,hq,_=>by
  have hi:held.length<=i:=by simpa using hd
  unfold bgs Jd Cp;dsimp only;rw [Aj,df_ om_,cf_,JS,cf_];exact ⟨⟨_,rfl⟩,⟨_,rfl⟩,hf,hq⟩
 | b :: l,i,0,s,_,h,_,_,_=>by simp at h
 | b :: l,i,n + 1,s,hd,hn,hf,hq,hI=>by
  have hb:=hc.rt.bd;have h2:=hb.i;have hi:i < held.length:=by
   rcases JP i held.length with h | h
   ·exact h
   ·rw [HF h] at hd;cases hd
  rw [G4 hi] at hd;obtain ⟨hb1,hd1⟩:=List.cons.inj hd;have hx:held[i]?=some b:=by rw [gE_ hi,hb1]
  have hin:=hI i (HB i) om_;unfold bgs Jd Cp;dsimp only;rw [Aj,dt_ hi,ct_,JJ,ct_,Ai,hx,ob_,ob_,show ((0:Int) == 0)=true by rfl,JJ,Am om_];simp only [JW] at hn;cases b with
  | false=>
   rw [if_neg smp_,cf_,cf_,ob_,ob_];exact Ud hc hhl l (i + 1) n s hd1 om_ hf hq (λj h1 h2=>hI j om_ h2)
  | true=>
   have ha:act s ⟨2,(i:Int),true⟩=some { s with Inputs:=s.Inputs.set i true }:=by
    unfold act;dsimp only;rw [if_neg om_,if_neg om_,Ai,hin];rfl
   have haf:aft c s ⟨2,(i:Int),true⟩=match rst c 65 { s with Inputs:=s.Inputs.set i true } with | none=>(z0,21) | some t=>(t,0):=by
    unfold aft;rw [if_neg smp_,ha]
    all_goals (dsimp only; cases rst c 65 { s with Inputs:=s.Inputs.set i true } <;> rfl)
   obtain ⟨l1,e1⟩:=Yr (x:=⟨2,(i:Int),true⟩) hc hf hq;obtain ⟨l2,e2⟩:=Yz (x:=⟨2,(i:Int),true⟩) hc.rt hf;rw [if_pos rfl,ct_,ct_,e1,e2,ob_,ob_,ob_,ob_];rw [haf];cases hs:rst c 65 { s with Inputs:=s.Inputs.set i true } with
   | none=>
    dsimp only;refine ⟨?_,?_⟩
    ·obtain ⟨z,hz⟩:=Kr (c:=c) (held:=held) om_ (show (21:Int)≠0 by omega) z0 n (i + 1) om_ (by
      have:held.length - (i + 1)=l.length:=by rw [← hd1,MA]
      omega)
     exact ⟨_,_,hz⟩
    ·rw [show ((21:Int) == 0)=false by rfl];cases n with
     | zero=>omega
     | succ n=>
      unfold Cp;dsimp only;rw [L4,cf_];exact ⟨_,_,rfl⟩
   | some t=>
    dsimp only;rw [show ((0:Int) == 0)=true by rfl];obtain ⟨f1,f2,f3⟩:=Yi (Uf hf ha) hs;refine Ud hc hhl l (i + 1) n t hd1 om_ f1 f3 (λj h1 h2=>?_);rw [f2];dsimp only;rw [JE om_];exact hI j om_ h2
def Da (c:Aa) (held:M7):Ac×Int:=match rst c 65 (Au c (ini c)) with
 | none=>(z0,21)
 | some s=>match bgs c held 0 s with
  | none=>(z0,21)
  | some t=>(t,0)
theorem Nf {c:Aa} (hw:Fw c) (hs16:c.Signals.length<=16\/64 < c.Signals.length) (held:M7) :
  (∃ e,e≠0/\m57 FF c held=some (z0,e)/\m64 FF c held=some (z0,e)/\(Rc c->held.length≠c.Inputs.length))\/(Rc c/\held.length=c.Inputs.length/\m57 FF c held=some (Da c held)/\m64 FF c held=some (Da c held)/\((Da c held).2=0->Fit c (Da c held).1/\Qt c (Da c held).1)):=by
 obtain ⟨e,h1,h2,h3⟩:=FT hw hs16;unfold m57 m64 O0;rw [h1,h2,ob_,ob_];by_cases he:e=0
 ·subst he;have hc:Rc c:=⟨h3 rfl,hw,h1,h2⟩;have hb:=hc.rt.bd;have hi:=hb.i;rw [zf_,cf_,cf_];by_cases hl:held.length=c.Inputs.length
  ·right;refine ⟨hc,hl,?_⟩;rw [show ((held.length:Int) != (c.Inputs.length:Int))=false by simp;omega,cf_,cf_,ob_,zf_,cf_];unfold OD Da;have hf:=Gb (Tw hc.rt);have h71:=EV hc;have h156:=Wk hc.rt hf;rw [C9 hc.rt,ob_];cases hr:rst c 65 (Au c (ini c)) with
   | none=>
    rw [hr] at h71 h156;obtain ⟨a,l,h156⟩:=h156;rw [h71,h156,ob_,ob_];dsimp only;obtain ⟨z,hz⟩:=Kr (c:=c) (held:=held) om_ (show (21:Int)≠0 by omega) z0 FF 0 om_ uF;rw [n0] at hz;rw [hz,ob_];have:Cp FF c held FF (false,(0:Int),a)=some (false,0,a):=by
     show Cp FF c held (99999 + 1) _=_;unfold Cp;dsimp only;rw [L4,cf_]
    rw [this];exact ⟨rfl,rfl,λh=>by cases h⟩
   | some s=>
    rw [hr] at h71 h156;obtain ⟨l1,h71,_⟩:=h71;obtain ⟨l2,h156,_⟩:=h156;obtain ⟨f1,f2,f3⟩:=Yi hf hr;rw [h71,h156,ob_,ob_];dsimp only;have hbs:=Ud hc hl held 0 FF s smp_ uF f1 f3 (λj _ hj=>by
     rw [f2];show (List.replicate c.Inputs.length false)[j]?=some false;rw [KV,if_pos hj])
    rw [n0] at hbs;cases hg:bgs c held 0 s with
    | none=>
     rw [hg] at hbs;obtain ⟨⟨z,t,a1⟩,⟨z',t',a2⟩⟩:=hbs;rw [a1,a2];exact ⟨rfl,rfl,λh=>by cases h⟩
    | some t=>
     rw [hg] at hbs;obtain ⟨⟨z,a1⟩,⟨z',a2⟩,a3,a4⟩:=hbs;rw [a1,a2];exact ⟨rfl,rfl,λ_=>⟨a3,a4⟩⟩
  ·left;rw [show ((held.length:Int) != (c.Inputs.length:Int))=true by simp;omega,ct_,ct_];exact ⟨8,by omega,rfl,rfl,λ_=>hl⟩
 ·left;rw [show (e != 0)=true by simpa using he,ct_,ct_];refine ⟨e,he,rfl,?_,λhc=>absurd (Option.some.inj (h1.symm.trans hc.ck)) he⟩;rw [ob_,show (e != 0)=true by simpa using he,ct_]
end Go.Pn
namespace Go.Pn
open Go
theorem forG {S σ R:Type} {L:Nat->S->R} {mk:Nat->σ->S} {N:Nat} {I:Nat->σ->Prop} {E:σ->R}
  (h:∀ (n i:Nat) s,i < N->I i s->∃ s',I (i + 1) s'/\L (n + 1) (mk i s)=L n (mk (i + 1) s')) (h':∀ (n:Nat) s,I N s->L (n + 1) (mk N s)=E s) :
  ∀ (n i:Nat) s,i<=N->N - i < n->I i s->∃ s',I N s'/\L n (mk i s)=E s'
 | 0,i,_,_,h,_=>by omega
 | n + 1,i,s,h1,h2,hI=>by
  by_cases hi:i < N
  ·obtain ⟨s',h3,h4⟩:=h n i s hi hI;rw [h4];exact forG h h' n (i + 1) s' om_ om_ h3
  ·obtain rfl:i=N:=by omega
   exact ⟨s,hI,h' n s hI⟩
theorem Me {x:Ae} {l:List Ae} (h:l.length<=100000):Eh x (l,0)=some (true,(l ++ [x],0)):=by
 unfold Eh;dsimp only;rw [Aq so_];rfl
theorem C0 {s:Ac} (h:Smst s 1000):R5 FF s=some (Ha s):=by
 have h1:=h.e;have h2:=h.t;unfold R5 R4;obtain ⟨v,hv,hl⟩:=forG (L:=Hr Eh s) (mk:=λi (v:List Ae)=>((i:Int),(v,0))) (N:=s.Ends.length) (I:=λi v=>v=(List.range i).filterMap (Uh s)) (E:=λv=>some (.brk ((s.Ends.length:Int),(v,0)))) (λn i v hi hI=>by
  subst hI;refine ⟨_,rfl,?_⟩;have hle:=Bx (g:=Uh s) (n:=i);have hg:s.Ends.getD i 0=s.Ends[i]:=by rw [HH,gE_ hi];rfl
  rw [Hr];dsimp only;rw [Aj,dt_ hi,ct_,Ai,gE_ hi,ob_,Am om_,Gj];have hp:Uh s i=if s.Ends[i]=1\/s.Ends[i]=3 then some ⟨0,(i:Int),false⟩ else none:=by unfold Uh;rw [hg]
  rw [hp];by_cases a1:s.Ends[i]=1\/s.Ends[i]=3
  ·rw [show ((s.Ends[i] == 1) || (s.Ends[i] == 3))=true by simpa using a1,if_pos a1,ct_,Me om_];rfl
  ·rw [show ((s.Ends[i] == 1) || (s.Ends[i] == 3))=false by simpa using a1,if_neg a1,cf_,cf_,H7]) (λn v _=>by
  rw [Hr];dsimp only;rw [Aj,df_ om_,cf_]) FF 0 [] om_ uF rfl
 subst hv;try dsimp only at hl
 rw [n0] at hl;rw [hl,ob_];have hle1:=Bx (g:=Uh s) (n:=s.Ends.length);obtain ⟨v,hv,hl⟩:=forG (L:=Hq Eh s) (mk:=λi (v:List Ae)=>((i:Int),(v,0))) (N:=s.Timers.length) (I:=λi v=>v=(List.range s.Ends.length).filterMap (Uh s) ++ (List.range i).filterMap (BF s)) (E:=λv=>some (.brk ((s.Timers.length:Int),(v,0)))) (λn i v hi hI=>by
  subst hI;refine ⟨_,rfl,?_⟩;have hle:=Bx (g:=BF s) (n:=i);have hg:s.Timers.getD i 0=s.Timers[i]:=by rw [HH,gE_ hi];rfl
  rw [Hq];dsimp only;rw [Aj,dt_ hi,ct_,Ai,gE_ hi,ob_,Am om_,Gj];have hp:BF s i=if s.Timers[i]=1 then some ⟨1,(i:Int),false⟩ else none:=by unfold BF;rw [hg]
  rw [hp];by_cases a1:s.Timers[i]=1
  ·rw [show (s.Timers[i] == 1)=true by simpa using a1,if_pos a1,ct_,Me (by rw [GY];omega),← HN];rfl
  ·rw [show (s.Timers[i] == 1)=false by simpa using a1,if_neg a1,cf_,cf_,H7]) (λn v _=>by
  rw [Hq];dsimp only;rw [Aj,df_ om_,cf_]) FF 0 ((List.range s.Ends.length).filterMap (Uh s)) om_ uF smp_
 subst hv;try dsimp only at hl
 rw [n0] at hl;dsimp only;rw [hl];rfl
theorem ET {c:Aa} {s:Ac} (hc:Rc c) (hf:Fit c s) (hq:Qt c s):m99 FF c s=some (0,Ha s):=by
 unfold m99 R3 R6;rw [Wm hc,(Yn hc.rt.bd).2 ⟨hf,hq⟩,ob_,zf_,cf_,ob_,C0 (hf.sm hc.rt.bd)];rfl
def nb (l:M6):List UInt8:=l.flatMap λn=>[UInt8.ofNat (48 + n.toNat),32]
def fb (l:M7):List UInt8:=l.map λv=>if v=true then 116 else 102
theorem EB (a b:NA):(a ++ b).data.toList=a.data.toList ++ b.data.toList:=by
 rw [ByteArray.data_append,LV]
theorem ba_push (a:NA) (b:UInt8):(a.push b).data.toList=a.data.toList ++ [b]:=by
 rw [ByteArray.data_push,Array.toList_push]
theorem m94_tab:((List.range 10).all λn=>decide (m94 0 (n:Int)=some (⟨#[UInt8.ofNat (48 + n)]⟩:NA)))=true:=by kernel_rfl
theorem EU {n:Int} (h0:0<=n) (h:n < 10):m94 FF n=some (⟨#[UInt8.ofNat (48 + n.toNat)]⟩:NA):=by
 have:=of_decide_eq_true (G5.1 m94_tab n.toNat (HC.2 om_));rw [show ((n.toNat:Nat):Int)=n by omega] at this;exact this
theorem nb_len {l:M6}:(nb l).length=2 * l.length:=by
 induction l with
 | nil=>rfl
 | cons a l ih=>unfold nb at ih ⊢;rw [LJ,GY,ih];simp;omega
theorem Yq {l:M6} (hl:l.length<=1000) (h:∀ a∈l,0<=a/\a < 10):∃ r,m92 FF l=some r/\r.data.toList=nb l:=by
 unfold m92;obtain ⟨v,hv,hh⟩:=Ri (L:=Rr FF l) (mk:=λi (v:NA)=>((i:Int),v)) (N:=l.length) (I:=λi v=>v.data.toList=nb (l.take i)) (λn i v hi hI=>by
  have hb:=h l[i] (G1 hi);have hsz:v.size=2 * i:=by rw [Bb,hI,nb_len,JV];omega
  have hxs:(⟨#[UInt8.ofNat (48 + (l[i]).toNat)]⟩:NA).size=1:=rfl;rw [Rr];dsimp only;rw [Aj,dt_ hi,ct_,Ai,gE_ hi,ob_,EU hb.1 hb.2,ob_];unfold m93 m95;rw [if_pos om_,ob_];have hs2:(v ++ (⟨#[UInt8.ofNat (48 + (l[i]).toNat)]⟩:NA)).size=2 * i + 1:=by
   rw [Bb,EB,GY,← Bb,hsz];rfl
  rw [if_pos om_,ob_,Am om_];refine ⟨_,?_,rfl⟩;rw [ba_push,EB,hI,KQ,gE_ hi];unfold nb;rw [List.flatMap_append];simp) (λn v _=>by
  rw [Rr];dsimp only;rw [Aj,df_ om_,cf_]) FF 0 ByteArray.empty om_ uF rfl
 try dsimp only at hh
 rw [n0] at hh;rw [hh];rw [H2 om_] at hv;exact ⟨v,rfl,hv⟩
theorem Th {l:M7} (hl:l.length<=1000):∃ r,m97 FF l=some r/\r.data.toList=fb l:=by
 unfold m97;obtain ⟨v,hv,hh⟩:=Ri (L:=Rq FF l) (mk:=λi (v:NA)=>((i:Int),v)) (N:=l.length) (I:=λi v=>v.data.toList=fb (l.take i)) (λn i v hi hI=>by
  have hsz:v.size=i:=by rw [Bb,hI];unfold fb;rw [JT,JV];omega
  have key:∃ r:NA,((m98 FF l[i]).bind λx5=>ssl x5 0 (1:Int))=some r/\r.data.toList=[if l[i]=true then 116 else 102]:=by
   cases l[i]
   ·exact ⟨⟨#[102]⟩,by kernel_rfl,rfl⟩
   ·exact ⟨⟨#[116]⟩,by kernel_rfl,rfl⟩
  obtain ⟨r,hr,hr2⟩:=key;obtain ⟨x5,h5,h6⟩:=JM.1 hr;have hrs:r.size=1:=by rw [Bb,hr2];rfl
  rw [Rq];dsimp only;rw [Aj,dt_ hi,ct_,Ai,gE_ hi,ob_,h5,ob_,h6,ob_];unfold m93;rw [if_pos om_,ob_,Am om_];refine ⟨_,?_,rfl⟩;rw [EB,hI,hr2,KQ,gE_ hi];unfold fb;rw [MM];simp) (λn v _=>by
  rw [Rq];dsimp only;rw [Aj,df_ om_,cf_]) FF 0 ByteArray.empty om_ uF rfl
 try dsimp only at hh
 rw [n0] at hh;rw [hh];rw [H2 om_] at hv;exact ⟨v,rfl,hv⟩
theorem B3:∀ {l l':M6},(∀ a∈l,0<=a/\a < 10)->(∀ a∈l',0<=a/\a < 10)->nb l=nb l'->l=l'
 | [],[],_,_,_=>rfl
 | [],b :: l',_,_,h=>by unfold nb at h;simp at h
 | a :: l,[],_,_,h=>by unfold nb at h;simp at h
 | a :: l,b :: l',h1,h2,h=>by
  unfold nb at h;rw [LJ,LJ] at h;have h:=List.cons.inj h;have ha:=h1 a smp_;have hb:=h2 b smp_;have he:a=b:=by
   have:=congrArg UInt8.toNat h.1;rw [UInt8.toNat_ofNat',UInt8.toNat_ofNat'] at this;omega
  have ht:=(List.cons.inj h.2).2;rw [he,B3 (λx hx=>h1 x (by simp [hx])) (λx hx=>h2 x (by simp [hx])) ht]
theorem AL:∀ {l l':M7},fb l=fb l'->l=l'
 | [],[],_=>rfl
 | [],b :: l',h=>by unfold fb at h;simp at h
 | a :: l,[],h=>by unfold fb at h;simp at h
 | a :: l,b :: l',h=>by
  unfold fb at h;rw [HD,HD] at h;have h:=List.cons.inj h;have he:a=b:=by
   cases a <;> cases b <;> first | rfl | (have:=h.1; revert this; decide)
  rw [he,AL h.2]
theorem Qq {a b:Key}:Bt a b=true↔a=b:=by
 obtain ⟨⟨⟨a1⟩⟩,⟨⟨a2⟩⟩,⟨⟨a3⟩⟩,⟨⟨a4⟩⟩,⟨⟨a5⟩⟩⟩:=a;obtain ⟨⟨⟨b1⟩⟩,⟨⟨b2⟩⟩,⟨⟨b3⟩⟩,⟨⟨b4⟩⟩,⟨⟨b5⟩⟩⟩:=b;simp [Bt]
theorem Mw {c:Aa} {s:Ac} (hb:Bd_ c) (h:Fit c s):∃ k,m58 FF s=some k/\k.ends.data.toList=nb s.Ends/\k.valves.data.toList=fb s.Valves/\k.inputs.data.toList=fb s.Inputs/\k.values.data.toList=fb s.Values/\k.timers.data.toList=nb s.Timers:=by
 have hs:=h.sm hb;obtain ⟨k1,e1,d1⟩:=Yq hs.e (λa ha=>by have:=h.ee a ha;omega);obtain ⟨k2,e2,d2⟩:=Th hs.v;obtain ⟨k3,e3,d3⟩:=Th hs.i;obtain ⟨k4,e4,d4⟩:=Th hs.x;obtain ⟨k5,e5,d5⟩:=Yq hs.t (λa ha=>by have:=h.tt a ha;omega);unfold m58;rw [e1,e2,e3,e4,e5];exact ⟨_,rfl,d1,d2,d3,d4,d5⟩
theorem key_inj {c:Aa} {s t:Ac} (hb:Bd_ c) (hs:Fit c s) (ht:Fit c t) {k:Key} (h1:m58 FF s=some k) (h2:m58 FF t=some k):s=t:=by
 obtain ⟨a,ha,a1,a2,a3,a4,a5⟩:=Mw hb hs;obtain ⟨b,hb',b1,b2,b3,b4,b5⟩:=Mw hb ht;rw [h1] at ha;rw [h2] at hb';obtain rfl:=Option.some.inj ha;obtain rfl:=Option.some.inj hb';have e1:=B3 (λa ha=>by have:=hs.ee a ha;omega) (λa ha=>by have:=ht.ee a ha;omega) (a1.symm.trans b1);have e5:=B3 (λa ha=>by have:=hs.tt a ha;omega) (λa ha=>by have:=ht.tt a ha;omega) (a5.symm.trans b5);have e2:=AL (a2.symm.trans b2);have e3:=AL (a3.symm.trans b3);have e4:=AL (a4.symm.trans b4);cases s;cases t
 simp_all
theorem ER {κ ν:Type} [DecidableEq κ] {eqb:κ->κ->Bool} (he:∀ a b,eqb a b=true↔a=b) {m:List (κ×ν)} {k j:κ} {y:ν}:mat eqb (Dy eqb m k y) j=if eqb j k=true then some y else mat eqb m j:=by
 induction m with
 | nil=>
  show mat eqb [(k,y)] j=_;rw [Bl]
 | cons p m ih=>
  obtain ⟨k',z⟩:=p;rw [Np,Bl];by_cases h:eqb k k'=true
  ·rw [if_pos h,Bl,← (he _ _).1 h];by_cases h2:eqb j k=true
   ·rw [if_pos h2,if_pos h2]
   ·rw [if_neg h2,if_neg h2,if_neg h2]
  ·rw [if_neg h,Bl,ih];by_cases h2:eqb j k'=true
   ·have h3:¬ eqb j k=true:=λe=>h (by rw [← (he _ _).1 e];exact h2);rw [if_pos h2,if_neg h3,if_pos h2]
   ·rw [if_neg h2,if_neg h2]
theorem A4 {m:List (Key×Int)} {k j:Key} {y:Int}:mat Bt (Dy Bt m k y) j=if Bt j k=true then some y else mat Bt m j:=by
 classical
 exact ER (λa b=>Qq)
def Kn (c:Aa) (S:List Ac) (m:List (Key×Int)):Prop:=∀ s,Fit c s->∀ k,m58 FF s=some k->mat Bt m k=(S.findIdx? λx=>sst s x).map λ(j:Nat)=>(j:Int)
theorem Kn.nil (c:Aa):Kn c [] []:=λs _ k _=>rfl
theorem Kn.put {c:Aa} {S:List Ac} {m:List (Key×Int)} {t:Ac} {k:Key} (hb:Bd_ c) (h:Kn c S m) (ht:Fit c t) (hk:m58 FF t=some k) (hn:S.findIdx? (λx=>sst t x)=none):Kn c (S ++ [t]) (Dy Bt m k (S.length:Int)):=by
 intro s hs j hj;rw [A4,List.findIdx?_append];by_cases e:s=t
 ·subst e;rw [hk] at hj;obtain rfl:=Option.some.inj hj;rw [if_pos (Qq.2 rfl),hn];simp [Yb]
 ·have hne:¬ Bt j k=true:=λe2=>by
   have:=Qq.1 e2;subst this;exact e (key_inj hb hs ht hj hk)
  have hst:sst s t=false:=by
   cases hx:sst s t with
   | false=>rfl
   | true=>exact absurd (Gy.1 hx) e
  rw [if_neg hne,h s hs j hj];cases S.findIdx? (λx=>sst s x) with
  | some q=>rfl
  | none=>simp [hst]
def Du (c:Aa) (most:Nat) (s:Ac):List Ae->List Ac->M6->Int ⊕ (List Ac×M6)
 | [],S,mv=>.inr (S,mv)
 | x :: l,S,mv=>if (aft c s x).2=0 then (if plc S (aft c s x).1 < 0 then (if S.length=most then .inl 12 else Du c most s l (S ++ [(aft c s x).1]) (mv ++ [(S.length:Int)])) else Du c most s l S (mv ++ [plc S (aft c s x).1])) else .inl (aft c s x).2
def Kh (c:Aa) (most:Nat):Nat->Nat->List Ac->List M6->Int ⊕ Space
 | 0,_,_,_=>.inl 99
 | n + 1,i,S,M=>match S[i]? with
  | none=>.inr ⟨S,M⟩
  | some s=>match Du c most s (Ha s) S [] with
   | .inl e=>.inl e
   | .inr r=>Kh c most n (i + 1) r.1 (M ++ [r.2])
def Al (c:Aa) (S:List Ac):Prop:=∀ s∈S,Fit c s/\Qt c s
theorem EC {c:Aa} {s:Ac} {x:Ae} (hf:Fit c s) (h:(aft c s x).2=0):Fit c (aft c s x).1/\Qt c (aft c s x).1:=by
 unfold aft at h ⊢;by_cases hk:x.Kind < 0\/3<=x.Kind
 ·rw [if_pos hk] at h;cases h
 ·rw [if_neg hk] at h ⊢;cases ha:act s x with
  | none=>rw [ha] at h;cases h
  | some s'=>
   rw [ha] at h;dsimp only at h ⊢;cases ht:rst c 65 s' with
   | none=>rw [ht] at h;cases h
   | some t=>
    have:=Yi (Uf hf ha) ht;exact ⟨this.1,this.2.2⟩
theorem Gw {c:Aa} {most:Nat} {s:Ac} (hf:Fit c s):∀ (l:List Ae) (S:List Ac) (mv:M6) {r:List Ac×M6},Al c S->S.length<=most->Du c most s l S mv=.inr r ->
  Al c r.1/\r.1.length<=most/\r.2.length=mv.length + l.length/\∃ X,r.1=S ++ X
 | [],S,mv,r,h1,h2,h=>by
  unfold Du at h;obtain rfl:=Sum.inr.inj h;exact ⟨h1,h2,rfl,[],by simp⟩
 | x :: l,S,mv,r,h1,h2,h=>by
  unfold Du at h;split at h
  ·rename_i h0;split at h
   ·split at h
    ·cases h
    ·obtain ⟨a1,a2,a3,X,a4⟩:=Gw hf l _ _ (λt ht=>by
      rcases G9.1 ht with ht | ht
      ·exact h1 t ht
      ·obtain rfl:t=_:=by simpa using ht
       exact EC hf h0) so_ h
     refine ⟨a1,a2,by rw [a3];simp;omega,(aft c s x).1 :: X,by rw [a4];simp⟩
   ·obtain ⟨a1,a2,a3,X,a4⟩:=Gw hf l _ _ h1 h2 h;exact ⟨a1,a2,by rw [a3];simp;omega,X,a4⟩
  ·cases h
theorem Ur {S:List Ac} {t:Ac} (h:¬ plc S t < 0):∃ j,j < S.length/\plc S t=(j:Int)/\S.findIdx? (λx=>sst t x)=some j:=by
 unfold plc at h ⊢;cases hf:S.findIdx? (λx=>sst t x) with
 | none=>rw [hf] at h;simp at h
 | some j=>exact ⟨j,(HT.1 hf).1,rfl,rfl⟩
theorem BW {S:List Ac} {t:Ac} (h:plc S t < 0):S.findIdx? (λx=>sst t x)=none:=by
 unfold plc at h;cases hf:S.findIdx? (λx=>sst t x) with
 | none=>rfl
 | some j=>rw [hf] at h;simp at h;omega
abbrev zsp:Space:=⟨[],[]⟩
theorem Hg {c:Aa} (hc:Rt c) {most:Nat} (hmo:most<=16384) {s:Ac} (hf:Fit c s) (i0:Nat) (z6:Int×List Ac×List M6) (hz:z6.1=i0) (x9:Ac) (l:List Ae) (hl:l.length<=2000) :
  ∀ (k n j:Nat) (S:List Ac) (mv:M6),j + k=l.length->k < n->Al c S->S.length<=most->S[i0]?=some s->mv.length<=j ->
   match Du c most s (l.drop j) S mv with
   | .inl e=>Ly FF c (most:Int) z6 x9 l n ((j:Int),S,mv)=some (.ret (zsp,e))
   | .inr r=>Ly FF c (most:Int) z6 x9 l n ((j:Int),S,mv)=some (.brk ((l.length:Int),r.1,r.2))
 | _,0,_,_,_,_,h,_,_,_,_=>by omega
 | 0,n + 1,j,S,mv,h1,_,_,_,_,_=>by
  obtain rfl:j=l.length:=by omega
  rw [JX];unfold Du Ly;dsimp only;rw [Aj,df_ om_,cf_]
 | k + 1,n + 1,j,S,mv,h1,h2,hA,hS,hi,hm=>by
  have hb:=hc.bd;have hj:j < l.length:=by omega
  rw [G4 hj];unfold Du Ly;dsimp only;obtain ⟨q,e1⟩:=Yz (x:=l[j]) hc hf;rw [Aj,dt_ hj,ct_,hz,Ai,hi,ob_,Ai,gE_ hj,ob_,e1,ob_];dsimp only;by_cases h0:(aft c s l[j]).2=0
  ·have hfa:=EC hf h0;rw [if_pos h0,h0,zf_,cf_,E5 (n:=1000) (λx hx=>(hA x hx).1.sm hb) uF om_ uF om_,ob_,Am om_];by_cases hp:plc S (aft c s l[j]).1 < 0
   ·rw [if_pos hp,dt_ hp,ct_];by_cases hM:S.length=most
    ·rw [if_pos hM,show ((S.length:Int) == (most:Int))=true by rw [Er];simpa using hM,ct_]
    ·rw [if_neg hM,show ((S.length:Int) == (most:Int))=false by rw [Er];simpa using hM,cf_,Aq so_,ob_,Aq so_,ob_];exact Hg hc hmo hf i0 z6 hz x9 l hl k n (j + 1) _ _ om_ om_ (λt ht=>by
      rcases G9.1 ht with ht | ht
      ·exact hA t ht
      ·obtain rfl:t=_:=by simpa using ht
       exact hfa) so_ (by rw [HE (GZ.1 hi).1];exact hi) so_
   ·rw [if_neg hp,df_ hp,cf_,Aq so_,ob_];exact Hg hc hmo hf i0 z6 hz x9 l hl k n (j + 1) _ _ om_ om_ hA hS hi so_
  ·rw [if_neg h0,show ((aft c s l[j]).2 != 0)=true by simpa using h0,ct_]
theorem Bv {c:Aa} (hc:Rt c) {most:Nat} (hmo:most<=16384):∀ (n i:Nat) (S:List Ac) (M:List M6),Al c S->S.length<=most->i<=S.length->most < n + i->M.length=i ->
  match Kh c most n i S M with
  | .inl e=>Jf FF c (most:Int) n ((i:Int),S,M)=some (.ret (zsp,e))
  | .inr sp=>∃ z,Jf FF c (most:Int) n ((i:Int),S,M)=some (.brk (z,sp.States,sp.Moves))
 | 0,i,S,M,_,h1,h2,h3,_=>by omega
 | n + 1,i,S,M,hA,h1,h2,h3,hM=>by
  have hb:=hc.bd;unfold Kh Jf;dsimp only;by_cases hi:i < S.length
  ·have hs:S[i]?=some S[i]:=gE_ hi;obtain ⟨hf,hq⟩:=hA S[i] (G1 hi);have hpl:=Mu (hf.sm hb);rw [hs,Aj,dt_ hi,ct_,Ai,hs,ob_,Za (hf.sm hb),ob_];have h:=Hg hc hmo hf i ((i:Int),S,M) rfl S[i] (Ha S[i]) hpl (Ha S[i]).length FF 0 S [] om_ uF hA h1 hs smp_;rw [n0,HA] at h;dsimp only;cases hx:Du c most S[i] (Ha S[i]) S [] with
   | inl e=>rw [hx] at h;rw [h];rfl
   | inr r=>
    rw [hx] at h;obtain ⟨a1,a2,a3,X,a4⟩:=Gw hf _ _ _ hA h1 hx;rw [h,ob_];dsimp only;rw [Aq so_,ob_,Am om_];exact Bv hc hmo n (i + 1) r.1 _ a1 a2 (by rw [a4];simp;omega) om_ (by simp [hM])
  ·rw [H0 om_,Aj,df_ hi,cf_];exact ⟨_,rfl⟩
theorem A5 {c:Aa} (hb:Bd_ c) {t:Ac} (ht:Fit c t) {S:List Ac} {m:List (Key×Int)} {mv:M6} (hS:S.length<=16384) (hmv:mv.length<=10000) (hK:Kn c S m) (v3:List M6) :
  if plc S t < 0 then (if S.length=16384 then Xl FF t m S v3 mv=some (12,m,S,mv) else ∃ m',Xl FF t m S v3 mv=some (0,m',S ++ [t],mv ++ [(S.length:Int)])/\Kn c (S ++ [t]) m') else Xl FF t m S v3 mv=some (0,m,S,mv ++ [plc S t]):=by
 obtain ⟨k,hk,_⟩:=Mw hb ht;have hm:=hK t ht k hk;unfold Xl;rw [hk,ob_,hm];by_cases hp:plc S t < 0
 ·have hn:=BW hp;rw [if_pos hp,hn];simp only [JR,Option.isSome_none,J2,ct_];by_cases hM:S.length=16384
  ·rw [if_pos hM,show ((S.length:Int) == 16384)=true by simp;omega,ct_]
  ·rw [if_neg hM,show ((S.length:Int) == 16384)=false by simp;omega,cf_,Aq so_,ob_,Aq so_,ob_];exact ⟨_,rfl,hK.put hb ht hk hn⟩
 ·obtain ⟨j,hj,hpj,hfj⟩:=Ur hp;rw [if_neg hp,hfj];simp only [HL,Option.isSome_some,J3,cf_,K6];rw [Aq so_,ob_,hpj]
theorem Dz {c:Aa} (hc:Rc c) {s:Ac} (hf:Fit c s) (hq:Qt c s) (v4:List M6) (x1:Int×List Ae) (hl:x1.2.length<=2000) :
  ∀ (k n j:Nat) (S:List Ac) (mv:M6) (m:List (Key×Int)),j + k=x1.2.length->k < n->Al c S->S.length<=16384->mv.length<=j->Kn c S m ->
   match Du c 16384 s (x1.2.drop j) S mv with
   | .inl e=>∃ q,Eb FF c s v4 x1 n ((j:Int),m,S,mv)=some (.ret (e,q))/\e≠0
   | .inr r=>∃ z m',Eb FF c s v4 x1 n ((j:Int),m,S,mv)=some (.brk (z,m',r.1,r.2))/\Kn c r.1 m'
 | _,0,_,_,_,_,_,h,_,_,_,_=>by omega
 | 0,n + 1,j,S,mv,m,h1,_,_,_,_,hK=>by
  obtain rfl:j=x1.2.length:=by omega
  rw [JX];unfold Du Eb;dsimp only;rw [Aj,df_ om_,cf_];exact ⟨_,m,rfl,hK⟩
 | k + 1,n + 1,j,S,mv,m,h1,h2,hA,hS,hm,hK=>by
  have hb:=hc.rt.bd;have hj:j < x1.2.length:=by omega
  rw [G4 hj];unfold Du Eb;dsimp only;obtain ⟨q,e1⟩:=Yr (x:=x1.2[j]) hc hf hq;rw [Aj,dt_ hj,ct_,Ai,gE_ hj,ob_,e1,ob_];dsimp only;by_cases h0:(aft c s x1.2[j]).2=0
  ·have hfa:=EC hf h0;rw [if_pos h0,h0,zf_,cf_];have h90:=A5 hb hfa.1 hS (mv:=mv) om_ hK v4;by_cases hp:plc S (aft c s x1.2[j]).1 < 0
   ·rw [if_pos hp] at h90 ⊢;by_cases hM:S.length=16384
    ·rw [if_pos hM] at h90 ⊢;rw [h90];exact ⟨_,rfl,by omega⟩
    ·rw [if_neg hM] at h90 ⊢;obtain ⟨m',h90,hK'⟩:=h90;rw [h90,ob_];dsimp only;rw [zf_,cf_,Am om_];exact Dz hc hf hq v4 x1 hl k n (j + 1) _ _ m' om_ om_ (λt ht=>by
      rcases G9.1 ht with ht | ht
      ·exact hA t ht
      ·obtain rfl:t=_:=by simpa using ht
       exact hfa) so_ so_ hK'
   ·rw [if_neg hp] at h90 ⊢;rw [h90,ob_];dsimp only;rw [zf_,cf_,Am om_];exact Dz hc hf hq v4 x1 hl k n (j + 1) _ _ m om_ om_ hA hS so_ hK
  ·rw [if_neg h0,show ((aft c s x1.2[j]).2 != 0)=true by simpa using h0,ct_];exact ⟨_,rfl,h0⟩
theorem Ov {c:Aa} (hc:Rc c):∀ (n i:Nat) (S:List Ac) (M:List M6) (m:List (Key×Int)),Al c S->S.length<=16384->i<=S.length->16384 < n + i->M.length=i->Kn c S m ->
  match Kh c 16384 n i S M with
  | .inl e=>Sf FF c n ((i:Int),S,M,m)=some (.ret (zsp,e))
  | .inr sp=>∃ z m',Sf FF c n ((i:Int),S,M,m)=some (.brk (z,sp.States,sp.Moves,m'))
 | 0,i,S,M,m,_,h1,h2,h3,_,_=>by omega
 | n + 1,i,S,M,m,hA,h1,h2,h3,hM,hK=>by
  have hb:=hc.rt.bd;unfold Kh Sf;dsimp only;by_cases hi:i < S.length
  ·have hs:S[i]?=some S[i]:=gE_ hi;obtain ⟨hf,hq⟩:=hA S[i] (G1 hi);have hpl:=Mu (hf.sm hb);have h:=Dz hc hf hq M (0,Ha S[i]) hpl (Ha S[i]).length FF 0 S [] m (by dsimp only;omega) uF hA h1 smp_ hK;rw [n0,HA] at h;rw [hs,Aj,dt_ hi,ct_,Ai,hs,ob_];unfold E7;rw [ET hc hf hq,ob_];dsimp only at h ⊢;rw [zf_,cf_];cases hx:Du c 16384 S[i] (Ha S[i]) S [] with
   | inl e=>
    rw [hx] at h;obtain ⟨q,h,he⟩:=h;rw [h,ob_,ob_];dsimp only;rw [show (e != 0)=true by simpa using he,ct_]
   | inr r=>
    rw [hx] at h;obtain ⟨a1,a2,a3,X,a4⟩:=Gw hf _ _ _ hA h1 hx;obtain ⟨z,m',h,hK'⟩:=h;rw [h,ob_,ob_];dsimp only;rw [zf_,cf_,Aq so_,ob_,Am om_];exact Ov hc n (i + 1) r.1 _ m' a1 a2 (by rw [a4];simp;omega) om_ (by simp [hM]) hK'
  ·rw [H0 om_,Aj,df_ hi,cf_];exact ⟨_,_,rfl⟩
theorem Nh {c:Aa} {s:Ac} (hf:Fit c s):∀ (l:List Ae) (S:List Ac) (mv:M6),S.length<=120->Du c 120 s l S mv≠.inl 12->Du c 16384 s l S mv=Du c 120 s l S mv
 | [],S,mv,_,_=>rfl
 | x :: l,S,mv,h1,h=>by
  unfold Du at h ⊢;by_cases h0:(aft c s x).2=0
  ·rw [if_pos h0] at h;rw [if_pos h0,if_pos h0];by_cases hp:plc S (aft c s x).1 < 0
   ·rw [if_pos hp] at h;rw [if_pos hp,if_pos hp];by_cases hM:S.length=120
    ·rw [if_pos hM] at h;exact absurd rfl h
    ·rw [if_neg hM] at h;rw [if_neg hM,if_neg om_];exact Nh hf l _ _ so_ h
   ·rw [if_neg hp] at h;rw [if_neg hp,if_neg hp];exact Nh hf l _ _ h1 h
  ·rw [if_neg h0,if_neg h0]
theorem Uj {c:Aa}:∀ (n i:Nat) (S:List Ac) (M:List M6),Al c S->S.length<=120->Kh c 120 n i S M≠.inl 12->Kh c 16384 n i S M=Kh c 120 n i S M
 | 0,_,_,_,_,_,_=>rfl
 | n + 1,i,S,M,hA,h1,h=>by
  unfold Kh at h ⊢;cases hs:S[i]? with
  | none=>rfl
  | some s=>
   rw [hs] at h;try dsimp only at h ⊢
   have hf:=(hA s (G6 hs)).1;have hne:Du c 120 s (Ha s) S []≠.inl 12:=λe=>by rw [e] at h;exact h rfl
   rw [Nh hf _ _ _ h1 hne];cases hx:Du c 120 s (Ha s) S [] with
   | inl e=>rfl
   | inr r=>
    rw [hx] at h;obtain ⟨a1,a2,a3,X,a4⟩:=Gw hf _ _ _ hA h1 hx;exact Uj n (i + 1) r.1 _ a1 a2 h
theorem BG {c:Aa} {most:Nat}:∀ (n i:Nat) (S:List Ac) (M:List M6) {sp:Space},Al c S->S.length<=most->M.length=i->i<=S.length->(∀ l∈M,l.length<=2000)->Bd_ c->Kh c most n i S M=.inr sp ->
  Al c sp.States/\sp.States.length<=most/\sp.Moves.length=sp.States.length/\(∀ l∈sp.Moves,l.length<=2000)/\∃ X,sp.States=S ++ X
 | 0,_,_,_,_,_,_,_,_,_,_,h=>by cases h
 | n + 1,i,S,M,sp,hA,h1,hM,hi,hR,hb,h=>by
  unfold Kh at h;cases hs:S[i]? with
  | none=>
   rw [hs] at h;obtain rfl:=Sum.inr.inj h;have:=List.getElem?_eq_none_iff.1 hs;exact ⟨hA,h1,by show M.length=S.length;omega,hR,[],by simp⟩
  | some s=>
   rw [hs] at h;dsimp only at h;have hf:=(hA s (G6 hs)).1;cases hx:Du c most s (Ha s) S [] with
   | inl e=>rw [hx] at h;cases h
   | inr r=>
    rw [hx] at h;obtain ⟨a1,a2,a3,X,a4⟩:=Gw hf _ _ _ hA h1 hx;have hil:=(GZ.1 hs).1;obtain ⟨b1,b2,b3,b4,Y,b5⟩:=BG n (i + 1) r.1 _ a1 a2 (by simp [hM]) (by rw [a4];simp;omega) (λl hl=>by
     rcases G9.1 hl with hl | hl
     ·exact hR l hl
     ·obtain rfl:l=_:=by simpa using hl
      rw [a3];have:=Mu (hf.sm hb);simp;omega) hb h
    exact ⟨b1,b2,b3,b4,X ++ Y,by rw [b5,a4];simp⟩
def FQ (c:Aa) (held:M7) (most:Nat):Int ⊕ Space:=Kh c most FF 0 [(Da c held).1] []
theorem My (c:Aa) (held:M7):∃ b,m35 FF c held=some b/\(b=true->Fw c/\(c.Signals.length<=16\/64 < c.Signals.length)/\held.length<=200/\(Rc c->held.length=c.Inputs.length->(Da c held).2=0->FQ c held 120≠.inl 12)):=by
 unfold m35;obtain ⟨b,hb,hfw⟩:=E6 c;rw [hb,ob_];cases b with
 | false=>rw [nf_,MD,ct_];exact ⟨false,rfl,by simp⟩
 | true=>
  obtain ⟨hw,hs⟩:=hfw rfl;rw [nt_,JD];by_cases hl:((held.length:Int) > 200)
  ·rw [dt_ hl,ct_];exact ⟨false,rfl,by simp⟩
  ·rw [df_ hl,cf_];unfold m36;rcases Nf hw hs held with ⟨e,he,h1,h2,h4⟩ | ⟨hc,hll,h1,h2,h3⟩
   ·rw [h2,ob_];dsimp only;rw [show (e != 0)=true by simpa using he,ct_,ob_];refine ⟨_,rfl,λ_=>⟨hw,hs,by omega,λhc hll h0=>?_⟩⟩;exact λ_=>h4 hc hll
   ·rw [h2,ob_];try dsimp only
    by_cases h0:(Da c held).2=0
    ·obtain ⟨hf,hq⟩:=h3 h0;have hA:Al c [(Da c held).1]:=λt ht=>by
      obtain rfl:t=_:=by simpa using ht
      exact ⟨hf,hq⟩
     have hx:=Bv hc.rt (most:=120) om_ FF 0 [(Da c held).1] [] hA smp_ om_ uF rfl;rw [n0] at hx;rw [h0,zf_,cf_];rw [show Kh c 120 FF 0 [(Da c held).1] []=FQ c held 120 from rfl] at hx;cases he:FQ c held 120 with
     | inl e=>
      rw [he] at hx;rw [show (120:Int)=((120:Nat):Int) from rfl,hx];refine ⟨_,rfl,λhb=>⟨hw,hs,by omega,λ_ _ _ h12=>?_⟩⟩;obtain rfl:=Sum.inl.inj h12;simp at hb
     | inr sp=>
      rw [he] at hx;obtain ⟨z,hx⟩:=hx;rw [show (120:Int)=((120:Nat):Int) from rfl,hx];exact ⟨_,rfl,λhb=>⟨hw,hs,by omega,λ_ _ _ h12=>by cases h12⟩⟩
    ·rw [show ((Da c held).2 != 0)=true by simpa using h0,ct_];exact ⟨_,rfl,λ_=>⟨hw,hs,by omega,λ_ _ h=>absurd h h0⟩⟩
theorem FP {c:Aa} {held:M7} (hb:m35 FF c held=some true):(∃ e,e≠0/\m30 FF c held=some (zsp,e)/\m44 FF c held=some (zsp,e)) \/
  (∃ sp,Rc c/\held.length=c.Inputs.length/\m30 FF c held=some (sp,0)/\m44 FF c held=some (sp,0)/\FQ c held 120=.inr sp/\(Da c held).2=0/\Fit c (Da c held).1/\Qt c (Da c held).1)\/(Rc c/\held.length=c.Inputs.length/\(Da c held).2=0/\∃ e,FQ c held 120=.inl e/\m30 FF c held=some (zsp,e)/\m44 FF c held=some (zsp,e)):=by
 obtain ⟨b,hb',h⟩:=My c held;rw [hb] at hb';obtain rfl:=Option.some.inj hb';obtain ⟨hw,hs,hl,hne⟩:=h rfl;unfold m30 m44 m36;rcases Nf hw hs held with ⟨e,he,h1,h2,h4⟩ | ⟨hc,hll,h1,h2,h3⟩
 ·left;rw [h1,h2,ob_,ob_];dsimp only;rw [show (e != 0)=true by simpa using he,ct_,ct_];exact ⟨e,he,rfl,rfl⟩
 ·rw [h1,h2,ob_,ob_];try dsimp only
  by_cases h0:(Da c held).2=0
  ·right;obtain ⟨hf,hq⟩:=h3 h0;have hbd:=hc.rt.bd;have hA:Al c [(Da c held).1]:=λt ht=>by
    obtain rfl:t=_:=by simpa using ht
    exact ⟨hf,hq⟩
   have hx:=Bv hc.rt (most:=16384) om_ FF 0 [(Da c held).1] [] hA smp_ om_ uF rfl;obtain ⟨k,hk,_⟩:=Mw hbd hf;have hK:Kn c [(Da c held).1] (Dy Bt [] k (0:Int)):=(Kn.nil c).put hbd hf hk rfl;have hy:=Ov hc FF 0 [(Da c held).1] [] (Dy Bt [] k (0:Int)) hA smp_ om_ uF rfl hK;rw [n0] at hx hy;have hm:=Uj FF 0 [(Da c held).1] [] hA smp_ (hne hc hll h0);rw [hm,show Kh c 120 FF 0 [(Da c held).1] []=FQ c held 120 from rfl] at hx hy;rw [h0,zf_,cf_,cf_,hk,ob_,show (16384:Int)=((16384:Nat):Int) from rfl];cases he:FQ c held 120 with
   | inl e=>
    right;rw [he] at hx hy;dsimp only at hx hy;rw [hx,hy];exact ⟨hc,hll,rfl,e,rfl,rfl,rfl⟩
   | inr sp=>
    left;rw [he] at hx hy;obtain ⟨z,hx⟩:=hx;obtain ⟨z',m',hy⟩:=hy;rw [hx,hy];exact ⟨sp,hc,hll,rfl,rfl,rfl,rfl,hf,hq⟩
  ·left;rw [show ((Da c held).2 != 0)=true by simpa using h0,ct_,ct_];exact ⟨_,h0,rfl,rfl⟩
end Go.Pn
namespace Go.Pn
open Go
structure Xr (c:Aa) (s:Ac) (l:List Ae) (S:List Ac) (R:List Ac) (Y:M6):Prop where
 app:∃ X,R=S ++ X
 len:Y.length=l.length
 ev:∀ (j:Nat) x,l[j]?=some x->(aft c s x).2=0/\∃ k:Nat,Y[j]?=some (k:Int)/\R[k]?=some (aft c s x).1
 new:∀ k,S.length<=k->k < R.length->(k:Int)∈Y
def Nd (S:List Ac):Prop:=∀ (i j:Nat) s,S[i]?=some s->S[j]?=some s->i=j
theorem Nd.put {S:List Ac} {t:Ac} (h:Nd S) (hn:S.findIdx? (λx=>sst t x)=none):Nd (S ++ [t]):=by
 rw [H5] at hn;have hno:∀ (i:Nat),S[i]?≠some t:=λi hi=>by
  have:=hn t (G6 hi);rw [Yb] at this;cases this
 have hg:∀ (i:Nat) s,(S ++ [t])[i]?=some s->S[i]?=some s\/(i=S.length/\s=t):=λi s hs=>by
  rcases JP i S.length with h1 | h1
  ·rw [HE h1] at hs;exact .inl hs
  ·rw [HM h1] at hs;rcases LG h1 with h2 | h2
   ·subst h2;simp at hs;exact .inr ⟨rfl,hs.symm⟩
   ·rw [H0 so_] at hs;cases hs
 intro i j s hi hj;rcases hg i s hi with h1 | ⟨h1,h2⟩ <;> rcases hg j s hj with h3 | ⟨h3,h4⟩
 ·exact h i j s h1 h3
 ·subst h4;exact absurd h1 (hno i)
 ·subst h2;exact absurd h3 (hno j)
 ·omega
theorem Xe {c:Aa} {most:Nat} {s:Ac}:∀ (l:List Ae) (S:List Ac) (mv:M6) {r:List Ac×M6},Nd S->Du c most s l S mv=.inr r->∃ Y,r.2=mv ++ Y/\Xr c s l S r.1 Y/\Nd r.1
 | [],S,mv,r,hN,h=>by
  unfold Du at h;obtain rfl:=Sum.inr.inj h;exact ⟨[],by simp,⟨⟨[],by simp⟩,rfl,λj x hx=>by simp at hx,λk h1 h2=>by dsimp only at h2;omega⟩,hN⟩
 | x :: l,S,mv,r,hN,h=>by
  unfold Du at h;by_cases h0:(aft c s x).2=0
  ·rw [if_pos h0] at h;by_cases hp:plc S (aft c s x).1 < 0
   ·rw [if_pos hp] at h;by_cases hM:S.length=most
    ·rw [if_pos hM] at h;cases h
    ·rw [if_neg hM] at h;obtain ⟨Y,e1,⟨⟨X,e2⟩,e3,e4,e5⟩,e6⟩:=Xe l _ _ (hN.put (BW hp)) h;refine ⟨(S.length:Int) :: Y,by rw [e1];simp,⟨⟨(aft c s x).1 :: X,by rw [e2];simp⟩,by simp [e3],λj y hy=>?_,λk h1 h2=>?_⟩,e6⟩
     ·cases j with
      | zero=>
       obtain rfl:x=y:=by simpa using hy
       exact ⟨h0,S.length,rfl,by rw [e2];simp⟩
      | succ j=>
       obtain ⟨a,k,b,d⟩:=e4 j y (by simpa using hy);exact ⟨a,k,by simpa using b,d⟩
     ·by_cases hk:k=S.length
      ·subst hk;simp
      ·exact G7 _ (e5 k so_ h2)
   ·rw [if_neg hp] at h;obtain ⟨q,hq,hq2,hq3⟩:=Ur hp;obtain ⟨Y,e1,⟨⟨X,e2⟩,e3,e4,e5⟩,e6⟩:=Xe l _ _ hN h;refine ⟨(q:Int) :: Y,by rw [e1,hq2];simp,⟨⟨X,e2⟩,by simp [e3],λj y hy=>?_,λk h1 h2=>G7 _ (e5 k h1 h2)⟩,e6⟩;cases j with
    | zero=>
     obtain rfl:x=y:=by simpa using hy
     refine ⟨h0,q,rfl,?_⟩;obtain ⟨g1,g2,_⟩:=HT.1 hq3;rw [e2,HE g1,gE_ g1,← Gy.1 g2]
    | succ j=>
     obtain ⟨a,k,b,d⟩:=e4 j y (by simpa using hy);exact ⟨a,k,by simpa using b,d⟩
  ·rw [if_neg h0] at h;cases h
structure Rwm (c:Aa) (S:List Ac) (s:Ac) (mv:M6):Prop where
 len:mv.length=(Ha s).length
 ev:∀ (j:Nat) x,(Ha s)[j]?=some x->(aft c s x).2=0/\∃ k:Nat,mv[j]?=some (k:Int)/\S[k]?=some (aft c s x).1
theorem Rwm.app {c:Aa} {S X:List Ac} {s:Ac} {mv:M6} (h:Rwm c S s mv):Rwm c (S ++ X) s mv:=
 ⟨h.len,λj x hx=>by
  obtain ⟨a,k,b,d⟩:=h.ev j x hx;exact ⟨a,k,b,by rw [HE (GZ.1 d).1];exact d⟩⟩
structure Fnd (c:Aa) (s0:Ac) (i:Nat) (S:List Ac) (M:List M6):Prop where
 ml:M.length=i
 il:i<=S.length
 hd:S[0]?=some s0
 nd:Nd S
 row:∀ (j:Nat) s mv,j < i->S[j]?=some s->M[j]?=some mv->Rwm c S s mv
 par:∀ k,0 < k->k < S.length->∃ p mv,p < k/\M[p]?=some mv/\(k:Int)∈mv
theorem BH {c:Aa} {s0:Ac} {most:Nat}:∀ (n i:Nat) (S:List Ac) (M:List M6) {sp:Space},Fnd c s0 i S M->Kh c most n i S M=.inr sp->Fnd c s0 sp.States.length sp.States sp.Moves
 | 0,_,_,_,_,_,h=>by cases h
 | n + 1,i,S,M,sp,hF,h=>by
  unfold Kh at h;cases hs:S[i]? with
  | none=>
   rw [hs] at h;obtain rfl:=Sum.inr.inj h;have h1:=List.getElem?_eq_none_iff.1 hs;have h2:=hF.il;have:i=S.length:=by omega
   subst this;exact hF
  | some s=>
   rw [hs] at h;try dsimp only at h
   cases hx:Du c most s (Ha s) S [] with
   | inl e=>rw [hx] at h;cases h
   | inr r=>
    rw [hx] at h;obtain ⟨Y,e1,⟨⟨X,e2⟩,e3,e4,e5⟩,e6⟩:=Xe _ _ _ hF.nd hx;have hil:=(GZ.1 hs).1;have e1:r.2=Y:=by simpa using e1
    refine BH n (i + 1) r.1 _ ⟨by simp [hF.ml],by rw [e2];simp;omega,?_,e6,?_,?_⟩ h
    ·rw [e2,HE om_];exact hF.hd
    ·intro j t mv hj ht hm;by_cases hji:j=i
     ·subst hji;rw [HM (by rw [hF.ml];omega),hF.ml,MH] at hm;have hm:r.2=mv:=by simpa using hm
      rw [e2,HE hil,hs] at ht;obtain rfl:=Option.some.inj ht;rw [← hm,e1];exact ⟨e3,e4⟩
     ·have hj2:j < i:=by omega
      rw [HE (by rw [hF.ml];exact hj2)] at hm;rw [e2,HE om_] at ht;rw [e2];exact (hF.row j t mv hj2 ht hm).app
    ·intro k h1 h2;by_cases hk:k < S.length
     ·obtain ⟨p,mv,a,b,d⟩:=hF.par k h1 hk;exact ⟨p,mv,a,by rw [HE (GZ.1 b).1];exact b,d⟩
     ·refine ⟨i,r.2,by omega,?_,by rw [e1];exact e5 k om_ h2⟩;rw [HM (by rw [hF.ml];omega),hF.ml,MH];rfl
structure Sp_ (c:Aa) (s0:Ac) (sp:Space):Prop where
 al:Al c sp.States
 le:sp.States.length<=120
 fd:Fnd c s0 sp.States.length sp.States sp.Moves
theorem expF_sp {c:Aa} {held:M7} {sp:Space} (hb:Bd_ c) (hf:Fit c (Da c held).1) (hq:Qt c (Da c held).1) (h:FQ c held 120=.inr sp):Sp_ c (Da c held).1 sp:=by
 have hA:Al c [(Da c held).1]:=λt ht=>by
  obtain rfl:t=_:=by simpa using ht
  exact ⟨hf,hq⟩
 obtain ⟨a1,a2,_⟩:=BG FF 0 _ [] hA smp_ rfl smp_ smp_ hb h;refine ⟨a1,a2,BH FF 0 _ [] ⟨rfl,by simp,rfl,?_,λj s mv hj=>by omega,λk h1 h2=>by simp at h2;omega⟩ h⟩;intro i j s hi hj;have h1:=(GZ.1 hi).1;have h2:=(GZ.1 hj).1;simp at h1 h2;omega
theorem EO {c:Aa} {s:Ac} (hb:Bd_ c) (h:Fit c s):(Ha s).length<=22:=by
 have h1:=hb.a';have h3:=hb.s;have a:=Bx (g:=Uh s) (n:=s.Ends.length);have b:=Bx (g:=BF s) (n:=s.Timers.length);have he:=h.e;have ht:=h.t;unfold Ha;rw [GY];omega
theorem Sp_.get {c:Aa} {s0:Ac} {sp:Space} (h:Sp_ c s0 sp) {i:Nat} (hi:i < sp.States.length):∃ s mv,sp.States[i]?=some s/\sp.Moves[i]?=some mv/\Rwm c sp.States s mv/\Fit c s/\Qt c s:=by
 have hm:i < sp.Moves.length:=by rw [h.fd.ml];exact hi
 have h1:sp.States[i]?=some sp.States[i]:=gE_ hi;have h2:sp.Moves[i]?=some sp.Moves[i]:=gE_ hm;obtain ⟨hf,hq⟩:=h.al _ (G1 hi);exact ⟨_,_,h1,h2,h.fd.row i _ _ hi h1 h2,hf,hq⟩
theorem Rwm.mem {c:Aa} {S:List Ac} {s:Ac} {mv:M6} (h:Rwm c S s mv) {k:Int} (hk:k∈mv):0<=k/\k < S.length:=by
 obtain ⟨j,hj⟩:=K9 hk;have hl:=(GZ.1 hj).1;rw [h.len] at hl;obtain ⟨_,q,h1,h2⟩:=h.ev j _ (gE_ hl);rw [hj] at h1;obtain rfl:=Option.some.inj h1;have:=(GZ.1 h2).1;omega
theorem Sp_.pos {c:Aa} {s0:Ac} {sp:Space} (h:Sp_ c s0 sp):0 < sp.States.length:=(GZ.1 h.fd.hd).1
theorem Sp_.rows {c:Aa} {s0:Ac} {sp:Space} (hb:Bd_ c) (h:Sp_ c s0 sp):∀ l∈sp.Moves,l.length<=22/\∀ k∈l,0<=k/\k < sp.States.length:=by
 intro l hl;obtain ⟨i,hi⟩:=K9 hl;have hil:=(GZ.1 hi).1;rw [h.fd.ml] at hil;obtain ⟨s,mv,h1,h2,h3,h4,h5⟩:=h.get hil;rw [hi] at h2;obtain rfl:=Option.some.inj h2;exact ⟨by rw [h3.len];exact EO hb h4,λk hk=>h3.mem hk⟩
theorem Sp_.shp {c:Aa} {s0:Ac} {sp:Space} (hb:Bd_ c) (h:Sp_ c s0 sp):shp sp=0:=by
 have hp:=h.pos;have hl:=h.le;have hm:=h.fd.ml;unfold Pn.shp;rw [show (sp.States.length == 0)=false by rw [beq_eq_false_iff_ne];omega,cf_,show decide (sp.States.length > 16384)=false by simp;omega,cf_,show (sp.Moves.length != sp.States.length)=false by rw [hm];simp,cf_];have:sp.Moves.any (λl=>l.any (bad sp.States.length))=false:=by
  rw [JB];intro l hl2;rw [Bool.not_eq_true,JB];intro k hk;have:=(h.rows hb l hl2).2 k hk;unfold bad;simp;omega
 rw [this];rfl
end Go.Pn
namespace Go.Pn
open Go Go.Sort Go.Proofs
def Sb_ (s:Ab):Prop:=0<=s.Actuator/\s.Actuator<=1000
def Xa (x:Int):Int:=if x < 0 then -1 else if 0 < x then 1 else 0
theorem Ye {x:Int}:Xa x=0↔x=0:=by unfold Xa; split <;> (try split) <;> omega
theorem BR {x:Int}:Xa x < 0↔x < 0:=by unfold Xa; split <;> (try split) <;> omega
def co:List Ab->List Ab->Option Int
 | a :: l,b :: m=>if sd a b=0 then co l m else some (Xa (sd a b))
 | _,_=>none
theorem GB:∀ (a b:List Ab),Xa (lcs a b)=match co a b with | some r=>r | none=>if a.length < b.length then -1 else if a.length > b.length then 1 else 0
 | [],[]=>rfl
 | [],_ :: _=>by simp [lcs,co,Xa]
 | _ :: _,[]=>by simp [lcs,co,Xa]
 | a :: l,b :: m=>by
  unfold lcs co;by_cases h:sd a b=0
  ·rw [if_pos h,if_pos h,GB l m];cases co l m with
   | some r=>rfl
   | none=>simp
  ·rw [if_neg h,if_neg h]
theorem Nv {v0 v1:List Ab} (hl:v0.length<=100000000):∀ (n i:Nat),i<=v0.length->v0.length - i < n ->
  ∃ k,Yw v0 v1 n i=some (match co (v0.drop i) (v1.drop i) with | some r=>.ret r | none=>.brk k)
 | 0,i,_,h=>by omega
 | n + 1,i,hi,hn=>by
  rw [Yw];by_cases hlt:i < v0.length/\i < v1.length
  ·obtain ⟨hlt,h2⟩:=hlt;rw [Aj,Aj,dt_ hlt,dt_ h2,L8,ct_];simp only [Ai,gE_ hlt,gE_ h2,ob_];rw [G4 hlt,G4 h2];unfold co;generalize ha:v0[i]=a;generalize hb:v1[i]=b;obtain ⟨x,p⟩:=a;obtain ⟨y,q⟩:=b;dsimp only;by_cases h3:x=y
   ·subst h3;rw [show (x != x)=false by simp,cf_];by_cases h4:p=q
    ·subst h4;rw [show (p != p)=false by simp,cf_,if_pos (Bp.2 rfl),Am om_];exact Nv hl n (i + 1) om_ om_
    ·rw [show (p != q)=true by simpa using h4,ct_];refine ⟨0,?_⟩;cases p <;> cases q <;> simp_all [sd,Xa]
   ·rw [show (x != y)=true by simpa using h3,ct_];refine ⟨0,?_⟩;have h5:sd ⟨x,p⟩ ⟨y,q⟩=x - y:=by unfold sd;rw [if_neg h3]
    rw [h5,if_neg om_];unfold Xa;by_cases h6:x < y
    ·rw [dt_ h6,ct_,if_pos om_]
    ·rw [df_ h6,cf_,if_neg om_,if_pos om_]
  ·refine ⟨(i:Int),?_⟩;have:(decide ((i:Int) < (v0.length:Int)) && decide ((i:Int) < (v1.length:Int)))=false:=by
    rw [Aj,Aj];rcases JP i v0.length with h | h
    ·rw [df_ (show ¬ i < v1.length from λh'=>hlt ⟨h,h'⟩),L4]
    ·rw [df_ om_,JS]
   rw [this,cf_];have:co (v0.drop i) (v1.drop i)=none:=by
    rcases JP i v0.length with h | h
    ·rw [HF (show v1.length<=i from Nat.le_of_not_lt λh'=>hlt ⟨h,h'⟩)];cases v0.drop i <;> rfl
    ·rw [HF h];rfl
   rw [this]
theorem Mv {v0 v1:List Ab} (hl:v0.length<=10000):m77 FF v0 v1=some (Xa (lcs v0 v1)):=by
 unfold m77;obtain ⟨k,hk⟩:=Nv (v0:=v0) (v1:=v1) om_ FF 0 om_ uF;rw [n0,HA,HA] at hk;rw [hk,GB];cases co v0 v1 with
 | some r=>rfl
 | none=>
  rw [ob_];dsimp only;rcases Nat.lt_trichotomy v0.length v1.length with h | h | h
  ·rw [if_pos h,show decide ((v0.length:Int) < (v1.length:Int))=true by simp;omega];rfl
  ·rw [if_neg om_,if_neg om_,show decide ((v0.length:Int) < (v1.length:Int))=false by simp;omega,show decide ((v0.length:Int) > (v1.length:Int))=false by simp;omega];rfl
  ·rw [if_neg om_,if_pos h,show decide ((v0.length:Int) < (v1.length:Int))=false by simp;omega,show decide ((v0.length:Int) > (v1.length:Int))=true by simp;omega];rfl
end Go.Pn
namespace Go.Pn
open Go Go.Sort Go.Proofs
instance:DecidableEq Ab:=λa b=>decidable_of_iff (sd a b=0) Bp
theorem Lm {a b:List Ab} {l:List (List Ab)}:Cr (a :: b :: l)=if lcs a b=0 then Cr (b :: l) else a :: Cr (b :: l):=by rw [Cr]
theorem D5 {a:List Ab}:Cr [a]=[a]:=rfl
theorem Qs:∀ (l:List (List Ab)) (y x:List Ab),Cr (l ++ [y] ++ [x])=if y=x then Cr (l ++ [y]) else Cr (l ++ [y]) ++ [x]
 | [],y,x=>by
  show Cr [y,x]=if y=x then Cr [y] else Cr [y] ++ [x]
  rw [Lm,D5,D5];by_cases h:y=x
  ·subst h;rw [if_pos (Aw.2 rfl),if_pos rfl]
  ·rw [if_neg λe=>h (Aw.1 e),if_neg h];rfl
 | [a],y,x=>by
  have h1:Cr [y,x]=if y=x then Cr [y] else Cr [y] ++ [x]:=Qs [] y x
  show Cr (a :: y :: [x])=if y=x then Cr (a :: [y]) else Cr (a :: [y]) ++ [x]
  rw [Lm (a:=a) (b:=y) (l:=[x]),Lm (a:=a) (b:=y) (l:=[]),h1];by_cases h:lcs a y=0
  ·rw [if_pos h,if_pos h]
  ·rw [if_neg h,if_neg h];split <;> rfl
 | a :: b :: l,y,x=>by
  have h1:Cr (b :: (l ++ [y] ++ [x]))=if y=x then Cr (b :: (l ++ [y])) else Cr (b :: (l ++ [y])) ++ [x]:=Qs (b :: l) y x
  show Cr (a :: b :: (l ++ [y] ++ [x]))=if y=x then Cr (a :: b :: (l ++ [y])) else Cr (a :: b :: (l ++ [y])) ++ [x]
  rw [Lm (a:=a) (b:=b) (l:=l ++ [y] ++ [x]),Lm (a:=a) (b:=b) (l:=l ++ [y]),h1];by_cases h:lcs a b=0
  ·rw [if_pos h,if_pos h]
  ·rw [if_neg h,if_neg h];split <;> rfl
theorem Wx {l:List (List Ab)} {i:Nat} (h0:0 < i) (h:i < l.length):Cr (l.take (i + 1))=if l[i - 1]'om_=l[i] then Cr (l.take i) else Cr (l.take i) ++ [l[i]]:=by
 obtain ⟨k,rfl⟩:∃ k,i=k + 1:=⟨i - 1,by omega⟩;have h1:=Qs (l.take k) (l[k]'om_) l[k + 1];rw [show l.take k ++ [l[k]'om_]=l.take (k + 1) from LC om_,show l.take (k + 1) ++ [l[k + 1]]=l.take (k + 1 + 1) from LC h] at h1;exact h1
def EqT (E:List Ab->List Ab->Option Bool) (xs:List (List Ab)):Prop:=∀ x∈xs,∀ y∈xs,E x y=some (decide (x=y))
theorem DQ {α:Type} {xs:List α} {k n:Nat} {j:Nat} (hk:k + j < n) (hn:n<=xs.length):Xb xs (k,n) (j:Int)=some (xs[k + j]'om_):=by
 unfold Xb;rw [if_pos om_];show xs[k + (j:Int).toNat]?=_;rw [HO,gE_ om_]
structure Ci (v zs:List (List Ab)) (p kk:Nat):Prop where
 len:zs.length=v.length
 lt:kk < p
 hi:∀ j,p<=j + 1->zs[j]?=v[j]?
 tk:zs.take kk=Cr (v.take p)
theorem Qu:∀ {v:List (List Ab)},(∀ j,0 < j->(h:j < v.length)->v[j]≠v[j - 1]'om_)->Cr v=v
 | [],_=>rfl
 | [_],_=>rfl
 | a :: b :: l,h=>by
  have h1:=h 1 om_ smp_;have h1:b≠a:=h1;rw [Cr,if_neg λe=>h1 (Aw.1 e).symm];congr 1;refine Qu λj hj hl=>?_;have:=h (j + 1) om_ (by simpa using hl);obtain ⟨i,rfl⟩:∃ i,j=i + 1:=⟨j - 1,by omega⟩;exact this
def nub (v:List (List Ab)):List (List Ab):=Cr (Ms (ltOf lcs) v)
theorem nub_pw {v:List (List Ab)}:(nub v).Pairwise lL:=Xt (Sz DO v)
end Go.Pn
namespace Go.Pn
open Go
theorem fi_any {α:Type} {l:List α} {q:α->Bool}:(∃ j,l.findIdx? q=some j/\l.any q=true)\/(l.findIdx? q=none/\l.any q=false):=by
 cases h:l.findIdx? q with
 | some j=>
  left;obtain ⟨h1,h2,_⟩:=HT.1 h;exact ⟨j,rfl,HU.2 ⟨_,G1 h1,h2⟩⟩
 | none=>
  right;rw [H5] at h;exact ⟨rfl,JB.2 λx hx=>by simpa using h x hx⟩
end Go.Pn
namespace Go.Pn
open Go
theorem exp_ne {c:Aa} {held:M7} (_:True):FQ c held 120≠.inl 0:=by
 intro h3;have key:∀ (n i:Nat) (S:List Ac) (M:List M6),Kh c 120 n i S M≠.inl 0:=by
  intro n
  induction n with
  | zero=>intro i S M h;cases h
  | succ n ih=>
   intro i S M h;unfold Kh at h;cases hs:S[i]? with
   | none=>rw [hs] at h;cases h
   | some s=>
    rw [hs] at h;try dsimp only at h
    have hx:∀ (l:List Ae) (S:List Ac) (mv:M6),Du c 120 s l S mv≠.inl 0:=by
     intro l
     induction l with
     | nil=>intro S mv h;cases h
     | cons x l ihl=>
      intro S mv h;unfold Du at h;split at h
      ·split at h
       ·split at h
        ·cases h
        ·exact ihl _ _ h
       ·exact ihl _ _ h
      ·rename_i h0;exact h0 (Sum.inl.inj h)
    cases hr:Du c 120 s (Ha s) S [] with
    | inl e=>
     rw [hr] at h;have:=Sum.inl.inj h;subst this;exact hx _ _ _ hr
    | inr r=>rw [hr] at h;exact ih _ _ _ h
 exact key _ _ _ _ h3
end Go.Pn
namespace Go.Pn
open Go
def frE (s t:Ac) (i:Nat):Option Ab:=if (t.Ends.getD i 0=1\/t.Ends.getD i 0=3)/\s.Ends.getD i 0≠t.Ends.getD i 0 then some ⟨(i:Int),t.Ends.getD i 0 == 1⟩ else none
def frs (s t:Ac):List Ab:=(List.range s.Ends.length).filterMap (frE s t)
theorem GD {s t:Ac} {i:Nat} (h:i < s.Ends.length) (h':i < t.Ends.length):frE s t i=if (t.Ends[i]=1\/t.Ends[i]=3)/\s.Ends[i]≠t.Ends[i] then some ⟨(i:Int),t.Ends[i] == 1⟩ else none:=by
 unfold frE;rw [HH,HH,gE_ h,gE_ h'];rfl
theorem DE {s t:Ac} (he:t.Ends.length=s.Ends.length) (hl:s.Ends.length<=1000):SC FF s t=some (frs s t):=by
 unfold SC;obtain ⟨v,hv,hh⟩:=Ri (L:=Qe s t) (mk:=λi (v:List Ab)=>((i:Int),v)) (N:=s.Ends.length) (I:=λi v=>v=(List.range i).filterMap (frE s t)) (λn i v hi hI=>by
  subst hI;have hi':i < t.Ends.length:=by omega
  refine ⟨_,rfl,?_⟩;have hle:=Bx (g:=frE s t) (n:=i);rw [Qe];simp only [Aj,dt_ hi,ct_,Ai,gE_ hi,gE_ hi',ob_];rw [Am om_,Gj,GD hi hi'];have k1:(bif (t.Ends[i] == 1) then some true else some (t.Ends[i] == 3))=some (decide (t.Ends[i]=1\/t.Ends[i]=3)):=by
   by_cases a1:t.Ends[i]=1
   ·rw [show (t.Ends[i] == 1)=true by simpa using a1,dt_ (.inl a1)];rfl
   ·rw [show (t.Ends[i] == 1)=false by simpa using a1,cf_];by_cases a3:t.Ends[i]=3
    ·rw [show (t.Ends[i] == 3)=true by simpa using a3,dt_ (.inr a3)]
    ·rw [show (t.Ends[i] == 3)=false by simpa using a3,df_ om_]
  rw [k1,ob_];by_cases ha:t.Ends[i]=1\/t.Ends[i]=3
  ·rw [dt_ ha,ct_,ob_];by_cases hn:s.Ends[i]=t.Ends[i]
   ·rw [show (s.Ends[i] != t.Ends[i])=false by simpa using hn,cf_,ob_,if_neg (λh=>h.2 hn),H7]
   ·rw [show (s.Ends[i] != t.Ends[i])=true by simpa using hn,ct_,Aq so_,ob_,ob_,if_pos ⟨ha,hn⟩]
  ·rw [df_ ha,cf_,ob_,cf_,ob_,if_neg (λh=>ha h.1),H7]) (λn v _=>by
  rw [Qe];dsimp only;rw [Aj,df_ om_,cf_]) FF 0 [] om_ uF rfl
 subst hv;try dsimp only at hh
 rw [n0] at hh;rw [hh];rfl
theorem DG {s t:Ac} (he:t.Ends.length=s.Ends.length) (hl:s.Ends.length<=1000):R7 FF s t=some (frs s t):=by
 unfold R7;obtain ⟨v,hv,hh⟩:=Ri (L:=Li s t) (mk:=λi (v:List Ab)=>((i:Int),v)) (N:=s.Ends.length) (I:=λi v=>v=(List.range i).filterMap (frE s t)) (λn i v hi hI=>by
  subst hI;have hi':i < t.Ends.length:=by omega
  refine ⟨_,rfl,?_⟩;have hle:=Bx (g:=frE s t) (n:=i);rw [Li];simp only [he,Aj,dt_ hi,ct_,Ai,gE_ hi,gE_ hi',ob_];rw [Am om_,Gj,GD hi hi'];have k1:((t.Ends[i] != s.Ends[i]) && ((t.Ends[i] == 1) || (t.Ends[i] == 3)))=decide ((t.Ends[i]=1\/t.Ends[i]=3)/\s.Ends[i]≠t.Ends[i]):=by
   rw [H8];simp;omega
  rw [k1];by_cases ha:(t.Ends[i]=1\/t.Ends[i]=3)/\s.Ends[i]≠t.Ends[i]
  ·rw [dt_ ha,ct_,Aq so_,ob_,ob_,if_pos ha]
  ·rw [df_ ha,cf_,ob_,if_neg ha,H7]) (λn v _=>by
  rw [Li];dsimp only;rw [he,Aj,df_ om_,cf_]) FF 0 [] om_ uF rfl
 subst hv;try dsimp only at hh
 rw [n0] at hh;rw [hh];rfl
theorem E4 {c:Aa} {s t:Ac} (hb:Bd_ c) (hs:Fit c s) (ht:Fit c t):m71 FF s t=some (frs s t,0):=by
 have h6:=hb.a';have h1:=hs.e;have h2:=ht.e;unfold m71;rw [show ((s.Ends.length:Int) != (t.Ends.length:Int))=false by simp;omega,df_ om_,KN,cf_,Qf om_ om_,ob_];have e1:=BE (L:=Yx (s.Ends ++ t.Ends)) (xs:=s.Ends ++ t.Ends) (p:=λ_ x=>some (decide (x < 0) || decide (x>=4))) (q:=λx=>decide (x < 0) || decide (x>=4)) (r:=λ_=>(([]:List Ab),(1:Int))) (λ_ _=>rfl) so_ (λ_ _ _=>rfl) FF 0 smp_ (by simp;unfold FF;omega);rw [n0,HA] at e1;rcases fi_any (l:=s.Ends ++ t.Ends) (q:=λx=>decide (x < 0) || decide (x>=4)) with ⟨j,hj,ha⟩ | ⟨hj,ha⟩
 ·exfalso;obtain ⟨x,hx,h3⟩:=HU.1 ha;have:0<=x/\x < 4:=(G9.1 hx).elim (hs.ee x) (ht.ee x);simp at h3;omega
 ·rw [hj] at e1;rw [e1,ob_];dsimp only;rw [DG om_ om_];rfl
end Go.Pn
namespace Go.Pn
open Go
structure Sq (c:Aa) (sp:Space):Prop where
 bd:Bd_ c
 fit:∀ s∈sp.States,Fit c s
 ml:sp.Moves.length=sp.States.length
 pos:0 < sp.States.length
 le:sp.States.length<=120
 rows:∀ l∈sp.Moves,l.length<=22/\∀ k∈l,0<=k/\k < sp.States.length
theorem Sp_.sq {c:Aa} {s0:Ac} {sp:Space} (hb:Bd_ c) (h:Sp_ c s0 sp):Sq c sp:=
 ⟨hb,λs hs=>(h.al s hs).1,h.fd.ml,h.pos,h.le,h.rows hb⟩
def stw_ (sp:Space) (i:Int):Ac:=(idx sp.States i).getD default
theorem Qm {sp:Space} {i:Int} (h0:0<=i) (h:i < sp.States.length):idx sp.States i=some (stw_ sp i)/\stw_ sp i∈sp.States:=by
 obtain ⟨x,hx,hm⟩:=Cw (xs:=sp.States) h0 h;unfold stw_;rw [hx];exact ⟨rfl,hm⟩
def lab (sp:Space) (i to:Int):List Ab:=frs (stw_ sp i) (stw_ sp to)
section
variable {c:Aa} {sp:Space}
theorem Nu {i:Nat} {mv:M6} (h:Sq c sp) (hi:sp.Moves[i]?=some mv):∀ (n k:Nat) (acc:List (List Ab)),k<=mv.length->acc.length<=k->mv.length - k < n ->
  Yv FF sp i n ((k:Int),acc)=some ((mv.length:Int),acc ++ (mv.drop k).map (lab sp i))
 | 0,_,_,_,_,h=>by omega
 | n + 1,k,acc,hk,ha,hn=>by
  have hil:=(GZ.1 hi).1;obtain ⟨h22,hr⟩:=h.rows mv (G6 hi);rw [Yv];dsimp only;rw [Ai,hi,ob_];by_cases hlt:k < mv.length
  ·obtain ⟨r1,r2⟩:=hr mv[k] (G1 _);obtain ⟨e1,m1⟩:=Qm (sp:=sp) (i:=(i:Int)) om_ (by have:=h.ml;omega);obtain ⟨e2,m2⟩:=Qm (sp:=sp) r1 r2;have f1:=(h.fit _ m1).e;have f2:=(h.fit _ m2).e;have f3:=h.bd.a';rw [Aj,dt_ hlt,ct_,e1,ob_,ob_,Ai,gE_ hlt,ob_,e2,ob_,DE om_ om_,ob_,Aq so_,ob_,Am om_,
    Nu h hi n (k + 1) _ om_ so_ om_,G4 hlt,HD,HN]
   rfl
  ·obtain rfl:k=mv.length:=by omega
   rw [Aj,df_ om_,cf_,JX];simp
theorem Ti {i:Nat} {mv:M6} (h:Sq c sp) (hi:sp.Moves[i]?=some mv):m78 FF sp i=some (mv.map (lab sp i)):=by
 obtain ⟨h22,_⟩:=h.rows mv (G6 hi);unfold m78;have:=Nu h hi FF 0 [] om_ smp_ uF;rw [n0,HA,J7] at this;rw [this];rfl
theorem frs_sb {s t:Ac} (hs:s.Ends.length<=6):(∀ x∈frs s t,Sb_ x)/\(frs s t).length<=6:=by
 constructor
 ·intro x hx;unfold frs at hx;obtain ⟨i,hi,he⟩:=KX.1 hx;unfold frE at he;split at he
  ·obtain rfl:=Option.some.inj he;have:=HC.1 hi;constructor
   ·show 0<=(i:Int);omega
   ·show (i:Int)<=1000;omega
  ·cases he
 ·have:=Bx (g:=frE s t) (n:=s.Ends.length);unfold frs;omega
theorem Mo (h:Sq c sp) {i to:Int} (h0:0<=i) (h1:i < sp.States.length):(∀ x∈lab sp i to,Sb_ x)/\(lab sp i to).length<=6:=by
 obtain ⟨_,m1⟩:=Qm (sp:=sp) h0 h1;have f1:=(h.fit _ m1).e;have f3:=h.bd.a';exact frs_sb om_
end
end Go.Pn
namespace Go.Pn
open Go
inductive Sc (sp:Space) (S:Int->Prop):Int->Prop
 | base {i:Int}:S i->Sc sp S i
 | step {i j:Int} {mv:M6}:Sc sp S i->idx sp.Moves i=some mv->j∈mv->lab sp i j=[]->Sc sp S j
theorem Sc.bind {sp:Space} {S T:Int->Prop} (h:∀ i,S i->Sc sp T i):∀ {i:Int},Sc sp S i->Sc sp T i:=by
 intro i hi
 induction hi with
 | base h1=>exact h _ h1
 | step _ h2 h3 h4 ih=>exact .step ih h2 h3 h4
def mkd (a:M7) (i:Int):Prop:=idx a i=some true
theorem Xi {a:M7} {v i:Int} (h0:0<=v) (h:v < a.length):mkd (a.set v.toNat true) i↔i=v\/mkd a i:=by
 unfold mkd idx;by_cases hi:0<=i
 ·rw [if_pos hi,if_pos hi];by_cases e:i=v
  ·subst e;rw [H3 om_];simp
  ·rw [JE om_];simp [e]
 ·rw [if_neg hi,if_neg hi];constructor
  ·intro h;cases h
  ·rintro (h | h)
   ·omega
   ·cases h
def unm (a:M7):Nat:=a.count false
theorem BM:∀ {a:M7} {v:Nat},a[v]?=some false->unm (a.set v true) + 1=unm a
 | [],_,h=>by simp at h
 | b :: a,0,h=>by
  obtain rfl:b=false:=by simpa using h
  simp [unm]
 | b :: a,v + 1,h=>by
  have:=BM (a:=a) (v:=v) (by simpa using h);unfold unm at this ⊢;rw [List.set_cons_succ,List.count_cons,List.count_cons];omega
section
variable {c:Aa} {sp:Space}
end
end Go.Pn
namespace Go.Pn
open Go
theorem coll {L:Nat->Int×M6->Option (Int×M6)} {b:M7} (hl:b.length<=1000)
  (hL:∀ n z,L (n + 1) z=(bif decide (z.1 < (b.length:Int)) then (idx b z.1).bind λx=>(bif x then (app z.2 ([z.1]:M6)).bind λy=>some y else some z.2).bind λz'=>L n ((wr (z.1 + 1)),z') else some (z.1,z.2))) :
  ∃ l,L FF ((0:Int),[])=some ((b.length:Int),l)/\Cs l (mkd b):=by
 obtain ⟨v,hv,hh⟩:=Ri (L:=L) (mk:=λi (v:M6)=>((i:Int),v)) (N:=b.length) (I:=λi v=>v.length<=i/\Cs v λx=>mkd b x/\x < (i:Int)) (λn i v hi hI=>by
  obtain ⟨h1,h2⟩:=hI;have hg:b[i]?=some b[i]:=gE_ hi;rw [hL];dsimp only;rw [Aj,dt_ hi,ct_,Ai,hg,ob_,Am om_];have hm:mkd b (i:Int)↔b[i]=true:=by unfold mkd;rw [Ai,hg];simp
  cases hb:b[i] with
  | true=>
   rw [ct_,Aq so_,ob_,ob_];refine ⟨_,⟨by simp;omega,?_⟩,rfl⟩;refine (h2.snoc (y:=(i:Int)) λx hx=>hx.2).iff λx=>⟨λhx=>?_,λhx=>?_⟩
   ·rcases hx with hx | rfl
    ·exact ⟨hx.1,by omega⟩
    ·exact ⟨hm.2 hb,by omega⟩
   ·by_cases e:x=i
    ·exact .inr e
    ·exact .inl ⟨hx.1,by omega⟩
  | false=>
   rw [cf_,ob_];refine ⟨_,⟨by omega,h2.iff λx=>⟨λhx=>⟨hx.1,by omega⟩,λhx=>⟨hx.1,?_⟩⟩⟩,rfl⟩;have:x≠i:=λe=>by rw [e,hm,hb] at hx;cases hx.1
   omega) (λn v _=>by
  rw [hL];dsimp only;rw [Aj,df_ om_,cf_]) FF 0 [] om_ uF ⟨by simp,Cs.nil λx hx=>by
   obtain ⟨h1,h2⟩:=hx;unfold mkd idx at h1;split at h1
   ·omega
   ·cases h1⟩
 refine ⟨v,hh,hv.2.iff λx=>⟨λhx=>hx.1,λhx=>⟨hx,?_⟩⟩⟩;unfold mkd idx at hx;split at hx
 ·have:=(GZ.1 hx).1;omega
 ·cases hx
theorem B5 {n:Nat} {i:Int}:¬ mkd (List.replicate n false) i:=by
 unfold mkd idx;split
 ·rw [KV];split <;> simp
 ·simp
section
variable {c:Aa} {sp:Space}
end
end Go.Pn
namespace Go.Pn
open Go
structure Ps (sp:Space) (a b:M7) (m m':Bool):Prop where
 len:b.length=a.length
 un:unm b<=unm a
 up:∀ i,mkd a i->mkd b i
 so:∀ i,mkd b i->Sc sp (mkd a) i
 no:m'=false->m=false/\b=a
 ye:m'=true->m=true\/unm b < unm a
theorem Ps.refl {sp:Space} {a:M7} {m:Bool}:Ps sp a a m m:=⟨rfl,HB _,λ_ h=>h,λ_ h=>.base h,λh=>⟨h,rfl⟩,λh=>.inl h⟩
theorem Ps.trans {sp:Space} {a b c:M7} {m m' m'':Bool} (h:Ps sp a b m m') (k:Ps sp b c m' m''):Ps sp a c m m'' where
 len:=k.len.trans h.len
 un:=HP k.un h.un
 up:=λi hi=>k.up i (h.up i hi)
 so:=λi hi=>(k.so i hi).bind h.so
 no:=λe=>by
  obtain ⟨e1,e2⟩:=k.no e;obtain ⟨e3,e4⟩:=h.no e1;exact ⟨e3,e2.trans e4⟩
 ye:=λe=>by
  rcases k.ye e with h1 | h1
  ·rcases h.ye h1 with h2 | h2
   ·exact .inl h2
   ·have:=k.un;exact .inr om_
  ·have:=h.un;exact .inr om_
section
variable {c:Aa} {sp:Space}
theorem Mk (h:Sq c sp) {i:Nat} {mv:M6} {z:Bool×Int×M7} (hz:z.2.1=(i:Int)) (hi:sp.Moves[i]?=some mv):∀ (n k:Nat) (m:Bool) (a:M7),k<=mv.length->mv.length - k < n->a.length=sp.States.length->mkd a i ->
  ∃ m' b,Do sp z (mv.map (lab sp i)) n (m,(k:Int),a)=some (m',(mv.length:Int),b)/\Ps sp a b m m'/\∀ j∈mv.drop k,lab sp i j=[]->mkd b j
 | 0,_,_,_,_,h,_,_=>by omega
 | n + 1,k,m,a,hk,hn,ha,hm=>by
  obtain ⟨h22,hr⟩:=h.rows mv (G6 hi);have hml:=h.ml;have hle:=h.le;rw [Do];dsimp only;rw [hz,JT];by_cases hlt:k < mv.length
  ·obtain ⟨r1,r2⟩:=hr mv[k] (G1 _);obtain ⟨x,hx,hxm⟩:=Cw (xs:=a) r1 om_;have hlk:(mv.map (lab sp i))[k]?=some (lab sp i mv[k]):=by rw [HJ,gE_ hlt];rfl
   rw [Aj,dt_ hlt,ct_,Ai,hi,ob_,Ai,gE_ hlt,ob_,Ai,hlk,ob_,Am om_];have goon:∀ (m1:Bool) (a1:M7),Ps sp a a1 m m1->(lab sp i mv[k]=[]->mkd a1 mv[k])->∃ m' b,Do sp z (mv.map (lab sp i)) n (m1,((k + 1:Nat):Int),a1)=some (m',(mv.length:Int),b)/\Ps sp a b m m'/\∀ j∈mv.drop k,lab sp i j=[]->mkd b j:=by
    intro m1 a1 p1 q1;obtain ⟨m',b,e2,p2,q2⟩:=Mk h hz hi n (k + 1) m1 a1 om_ om_ (p1.len.trans ha) (p1.up _ hm);refine ⟨m',b,e2,p1.trans p2,λj hj hl=>?_⟩;rw [G4 hlt] at hj;rcases G3.1 hj with rfl | hj
    ·exact p2.up _ (q1 hl)
    ·exact q2 j hj hl
   by_cases hs:lab sp i mv[k]=[]
   ·rw [hs,show (((([]:List Ab).length:Int)) == 0)=true from rfl,ct_,hx,ob_,ob_];cases x with
    | true=>
     rw [J3,cf_,ob_];exact goon m a Ps.refl λ_=>hx
    | false=>
     rw [J2,ct_,ob_,ob_];have hx':a[mv[k].toNat]?=some false:=by
      unfold idx at hx;rw [if_pos r1] at hx;exact hx
     have hu:=BM hx';have hmk:∀ y,mkd (a.set mv[k].toNat true) y↔y=mv[k]\/mkd a y:=λy=>Xi r1 om_;refine goon true (a.set mv[k].toNat true) ⟨by simp,by omega,λy hy=>(hmk y).2 (.inr hy),λy hy=>?_,λe=>(by cases e),λ_=>.inr om_⟩ λ_=>(hmk _).2 (.inl rfl);rcases (hmk y).1 hy with rfl | hy
     ·exact .step (.base hm) (by rw [Ai];exact hi) (G1 _) hs
     ·exact .base hy
   ·have:(((lab sp i mv[k]).length:Int) == 0)=false:=by
     cases hq:lab sp i mv[k] with
     | nil=>exact (hs hq).elim
     | cons y ys=>simp;omega
    rw [this,cf_,ob_,cf_,ob_];exact goon m a Ps.refl λe=>(hs e).elim
  ·obtain rfl:k=mv.length:=by omega
   rw [Aj,df_ om_,cf_];exact ⟨m,a,rfl,Ps.refl,λj hj=>by rw [JX] at hj;simp at hj⟩
def Cld (sp:Space) (a:M7) (i:Int):Prop:=mkd a i->∀ mv j,idx sp.Moves i=some mv->j∈mv->lab sp i j=[]->mkd a j
theorem Fp (h:Sq c sp):∀ (n i:Nat) (m:Bool) (a:M7),i<=sp.States.length->sp.States.length - i < n->a.length=sp.States.length ->
  ∃ m' b,Dp FF sp n (m,(i:Int),a)=some (m',(sp.States.length:Int),b)/\Ps sp a b m m'/\(m'=false->∀ j:Nat,i<=j->j < sp.States.length->Cld sp a j)
 | 0,_,_,_,_,h,_=>by omega
 | n + 1,i,m,a,hi,hn,ha=>by
  have hml:=h.ml;have hle:=h.le;rw [Dp];dsimp only;by_cases hlt:i < sp.States.length
  ·have hg:sp.Moves[i]?=some (sp.Moves[i]'om_):=gE_ om_;generalize sp.Moves[i]'om_=mv at hg;obtain ⟨h22,_⟩:=h.rows mv (G6 hg);have hx:a[i]?=some (a[i]'om_):=gE_ om_;rw [Aj,dt_ hlt,ct_,Ai,hx,ob_];cases hb:a[i]'om_ with
   | false=>
    rw [J2,ct_,Am om_];obtain ⟨m',b,e2,p2,q2⟩:=Fp h n (i + 1) m a om_ om_ ha;refine ⟨m',b,e2,p2,λe j hj hjl=>?_⟩;rcases LG hj with rfl | hj
    ·intro hm;unfold mkd at hm;rw [Ai,hx,hb] at hm;cases hm
    ·exact q2 e j hj hjl
   | true=>
    rw [J3,cf_,Ti h hg,ob_];have hm:mkd a (i:Int):=by unfold mkd;rw [Ai,hx,hb]
    obtain ⟨m1,b1,e1,p1,q1⟩:=Mk (z:=(m,(i:Int),a)) h rfl hg FF 0 m a om_ uF ha hm;have e1:Do sp (m,(i:Int),a) (mv.map (lab sp i)) FF (m,(0:Int),a)=some (m1,(mv.length:Int),b1):=e1;rw [e1,ob_,Am om_];dsimp only;obtain ⟨m',b,e2,p2,q2⟩:=Fp h n (i + 1) m1 b1 om_ om_ (p1.len.trans ha);refine ⟨m',b,e2,p1.trans p2,λe j hj hjl=>?_⟩;obtain ⟨x1,x2⟩:=p2.no e;obtain ⟨x3,x4⟩:=p1.no x1;rcases LG hj with rfl | hj
    ·intro _ mv' y hm' hy hl;rw [Ai,hg] at hm';obtain rfl:=Option.some.inj hm';have:=q1 y (by rw [HA];exact hy) hl;rw [x4] at this;exact this
    ·have:=q2 e j hj hjl;rw [x4] at this;exact this
  ·obtain rfl:i=sp.States.length:=by omega
   rw [Aj,df_ om_,cf_];exact ⟨m,a,rfl,Ps.refl,λ_ j hj hjl=>by omega⟩
theorem cld_all {a:M7} (ha:a.length=sp.States.length) (h:∀ j:Nat,j < sp.States.length->Cld sp a j):∀ i,Cld sp a i:=by
 intro i hm;have hm':=hm;unfold mkd idx at hm;split at hm
 ·rename_i h0;have h1:=(GZ.1 hm).1;obtain ⟨n,rfl⟩:=MC h0;exact h n (by simp at h1;omega) hm'
 ·cases hm
theorem Mm (h:Sq c sp):∀ (n k:Nat) (m:Bool) (a:M7),k<=sp.States.length->sp.States.length - k < n->a.length=sp.States.length ->
  (m=false->∀ i,Cld sp a i)->(m=true->unm a + k + 1<=sp.States.length\/∀ i,¬ mkd a i) ->
  ∃ (z:Bool×Int) (b:M7),Fu FF sp n (m,(k:Int),a)=some (z.1,z.2,b)/\b.length=a.length/\(∀ i,mkd a i->mkd b i)/\(∀ i,mkd b i->Sc sp (mkd a) i)/\∀ i,Cld sp b i
 | 0,_,_,_,_,h,_,_,_=>by omega
 | n + 1,k,m,a,hk,hn,ha,hf,ht=>by
  have hml:=h.ml;have hle:=h.le;have stop:(∀ i,Cld sp a i)->∃ (z:Bool×Int) (b:M7),some (m,(k:Int),a)=some (z.1,z.2,b)/\b.length=a.length/\(∀ i,mkd a i->mkd b i)/\(∀ i,mkd b i->Sc sp (mkd a) i)/\∀ i,Cld sp b i:=
   λhc=>⟨(m,(k:Int)),a,rfl,rfl,λ_ h=>h,λ_ h=>.base h,hc⟩
  rw [Fu];dsimp only;cases m with
  | false=>
   rw [L4,cf_];exact stop (hf rfl)
  | true=>
   by_cases hlt:k < sp.States.length
   ·rw [Aj,dt_ hlt,JJ,ct_];obtain ⟨m',b,e1,p1,q1⟩:=Fp h FF 0 false a om_ uF ha;have e1:Dp FF sp FF (false,(0:Int),a)=some (m',(sp.States.length:Int),b):=e1;rw [e1,ob_,Am om_];dsimp only;obtain ⟨z,b2,e2,l2,u2,s2,c2⟩:=Mm h n (k + 1) m' b om_ om_ (p1.len.trans ha) (λe=>by
     have:=(p1.no e).2;rw [this];exact cld_all ha λj hj=>q1 e j (JK _) hj) (λe=>by
     rcases p1.ye e with h1 | h1
     ·cases h1
     ·rcases ht rfl with h2 | h2
      ·exact .inl om_
      ·refine .inr λi hi=>?_;have:=p1.so i hi;clear hi
       induction this with
       | base h3=>exact h2 _ h3
       | step _ _ _ _ ih=>exact ih)
    exact ⟨z,b2,e2,l2.trans p1.len,λi hi=>u2 i (p1.up i hi),λi hi=>(s2 i hi).bind p1.so,c2⟩
   ·rw [Aj,df_ hlt,JS,cf_];refine stop λi hi=>?_;rcases ht rfl with h2 | h2
    ·omega
    ·exact (h2 i hi).elim
theorem Wo (h:Sq c sp) {a:M7} (ha:a.length=sp.States.length):∃ r b,Zq FF sp a=some (r,b)/\Cs r (Sc sp (mkd a)):=by
 have hml:=h.ml;have hle:=h.le;have hu:(∀ i,¬ mkd a i)\/unm a + 1<=sp.States.length:=by
  by_cases hc:a.count false=a.length
  ·left;intro i hi;have hall:=List.count_eq_length.1 hc;have:=hall true (Az hi);cases this
  ·right;have:=KR (a:=false) (l:=a);unfold unm;omega
 obtain ⟨z,b,e1,l1,u1,s1,c1⟩:=Mm h FF 0 true a om_ uF ha (λe=>by cases e) (λ_=>hu.elim .inr λh1=>.inl om_);obtain ⟨r,e2,hr⟩:=coll (L:=Jn (z.1,z.2,b)) (b:=b) om_ (λn z=>by rw [Jn]);have e1:Fu FF sp FF (true,(0:Int),a)=some (z.1,z.2,b):=e1;refine ⟨r,b,?_,hr.iff λx=>⟨s1 x,λhx=>?_⟩⟩
 ·unfold Zq;rw [e1,ob_,e2];rfl
 ·induction hx with
  | base h1=>exact u1 _ h1
  | step _ h2 h3 h4 ih=>exact c1 _ ih _ _ h2 h3 h4
end
end Go.Pn
namespace Go.Pn
open Go
section
variable {c:Aa} {sp:Space}
theorem Sc.iff {S T:Int->Prop} (h:∀ i,S i↔T i) (i:Int):Sc sp S i↔Sc sp T i:=
 ⟨λk=>k.bind λj hj=>.base ((h j).1 hj),λk=>k.bind λj hj=>.base ((h j).2 hj)⟩
theorem Sc.rng (h:Sq c sp) {S:Int->Prop} (hS:∀ i,S i->0<=i/\i < sp.States.length) {i:Int} (hi:Sc sp S i):0<=i/\i < sp.States.length:=by
 induction hi with
 | base h1=>exact hS _ h1
 | step _ h2 h3 _ _=>exact (h.rows _ (Az h2)).2 _ h3
def zF (sp:Space):M6:=(m83 FF sp).getD []
theorem Ew (h:Sq c sp):m83 FF sp=some (zF sp)/\True/\Cs (zF sp) (Sc sp (·=0)):=by
 have hpos:=h.pos;have hle:=h.le;have hm:∀ i,mkd ((List.replicate sp.States.length false).set (0:Int).toNat true) i↔i=0:=λi=>by
  rw [Xi om_ so_];exact ⟨λe=>e.elim id λe=>(B5 e).elim,.inl⟩
 obtain ⟨r,b,e1,hr⟩:=Wo (a:=(List.replicate sp.States.length false).set (0:Int).toNat true) h smp_;have e2:m83 FF sp=some r:=by
  unfold m83;rw [Et om_,ob_];have:idx (List.replicate sp.States.length false) (0:Int)=some false:=by
   rw [← n0,Ai,KV,if_pos hpos]
  rw [this,ob_,e1];rfl
 have hz:zF sp=r:=by unfold zF;rw [e2];rfl
 rw [hz];have hr':Cs r (Sc sp (·=0)):=hr.iff λi=>Sc.iff hm i;exact ⟨e2,trivial,hr'⟩
def Bh (sp:Space) (front:M6) (l:List Ab) (j:Int):Prop:=∃ i∈front,∃ mv,idx sp.Moves i=some mv/\j∈mv/\l≠[]/\lab sp i j=l
theorem Bh.rng (h:Sq c sp) {front:M6} {l:List Ab} {j:Int} (hj:Bh sp front l j):0<=j/\j < sp.States.length:=by
 obtain ⟨i,_,mv,h1,h2,_⟩:=hj;exact (h.rows _ (Az h1)).2 _ h2
theorem Hd (h:Sq c sp) {front:M6} {l:List Ab} {z:Int×M7} {i:Int} {mv:M6} (hq:idx front z.1=some i) (hi:idx sp.Moves i=some mv):∀ (n k:Nat) (a:M7),k<=mv.length->mv.length - k < n->a.length=sp.States.length ->
  ∃ b,Uv FF sp front l z (mv.map (lab sp i)) n ((k:Int),a)=some ((mv.length:Int),b)/\b.length=a.length/\∀ y,mkd b y↔mkd a y\/(y∈mv.drop k/\l≠[]/\lab sp i y=l)
 | 0,_,_,_,h,_=>by omega
 | n + 1,k,a,hk,hn,ha=>by
  obtain ⟨h22,hr⟩:=h.rows mv (Az hi);have hml:=h.ml;have hle:=h.le;have hi0:0<=i/\i < sp.Moves.length:=by
   have hi':=hi;unfold idx at hi';split at hi'
   ·rename_i h0;have:=(GZ.1 hi').1;omega
   ·cases hi'
  rw [Uv];dsimp only;rw [JT];by_cases hlt:k < mv.length
  ·obtain ⟨r1,r2⟩:=hr mv[k] (G1 _);obtain ⟨x,hx,hxm⟩:=Cw (xs:=a) r1 om_;have hlk:(mv.map (lab sp i))[k]?=some (lab sp i mv[k]):=by rw [HJ,gE_ hlt];rfl
   obtain ⟨_,l6⟩:=Mo h (i:=i) (to:=mv[k]) hi0.1 om_;rw [Aj,dt_ hlt,ct_,Am om_,Ai,hlk];have hd:mv.drop k=mv[k] :: mv.drop (k + 1):=G4 hlt;by_cases hc:l≠[]/\lab sp i mv[k]=l
   ·obtain ⟨c1,c2⟩:=hc;have hl0:decide ((l.length:Int) > 0)=true:=by
     cases l with
     | nil=>exact (c1 rfl).elim
     | cons y ys=>simp
    rw [hl0,ct_,ob_,Mv om_,ob_,ob_,c2,Aw.2 rfl,show (Xa 0 == 0)=true from rfl,ct_,hq,ob_,hi,ob_,Ai,gE_ hlt,ob_,hx,ob_,ob_];obtain ⟨b,e2,l2,q2⟩:=Hd h hq hi n (k + 1) (a.set mv[k].toNat true) om_ om_ (by simpa using ha);refine ⟨b,e2,by rw [l2];simp,λy=>?_⟩;rw [q2,Xi r1 om_,hd];constructor
    ·rintro ((rfl | h1) | ⟨h1,h2⟩)
     ·exact .inr ⟨List.mem_cons_self ..,c1,c2⟩
     ·exact .inl h1
     ·exact .inr ⟨List.mem_cons_of_mem _ h1,h2⟩
    ·rintro (h1 | ⟨h1,h2⟩)
     ·exact .inl (.inr h1)
     ·rcases G3.1 h1 with rfl | h1
      ·exact .inl (.inl rfl)
      ·exact .inr ⟨h1,h2⟩
   ·have ht:(bif (decide ((l.length:Int) > 0)) then (some (lab sp i mv[k])).bind λx9=>(m77 FF x9 l).bind λx10=>some (x10 == 0) else some false)=some false:=by
     cases hl:l with
     | nil=>rfl
     | cons y ys=>
      rw [show decide ((((y :: ys).length:Nat):Int) > 0)=true by simp,ct_,ob_,Mv om_,ob_];congr 1;have:lab sp i mv[k]≠y :: ys:=λe=>hc ⟨by rw [hl];simp,by rw [e,hl]⟩;simp only [beq_eq_false_iff_ne,ne_eq,Ye,Aw];exact this
    rw [ht,ob_,cf_,ob_];obtain ⟨b,e2,l2,q2⟩:=Hd h hq hi n (k + 1) a om_ om_ ha;refine ⟨b,e2,l2,λy=>?_⟩;rw [q2,hd];constructor
    ·rintro (h1 | ⟨h1,h2⟩)
     ·exact .inl h1
     ·exact .inr ⟨List.mem_cons_of_mem _ h1,h2⟩
    ·rintro (h1 | ⟨h1,h2⟩)
     ·exact .inl h1
     ·rcases G3.1 h1 with rfl | h1
      ·exact (hc h2).elim
      ·exact .inr ⟨h1,h2⟩
  ·obtain rfl:k=mv.length:=by omega
   rw [Aj,df_ om_,cf_];exact ⟨a,rfl,rfl,λy=>by rw [JX];simp⟩
theorem Nq (h:Sq c sp) {front:M6} {l:List Ab} (hf:∀ i∈front,0<=i/\i < sp.States.length) (hfl:front.length<=10000):∀ (n k:Nat) (a:M7),k<=front.length->front.length - k < n->a.length=sp.States.length ->
  ∃ b,Uw FF sp front l n ((k:Int),a)=some ((front.length:Int),b)/\b.length=a.length/\∀ y,mkd b y↔mkd a y\/Bh sp (front.drop k) l y
 | 0,_,_,_,h,_=>by omega
 | n + 1,k,a,hk,hn,ha=>by
  have hml:=h.ml;have hle:=h.le;rw [Uw];dsimp only;by_cases hlt:k < front.length
  ·obtain ⟨r1,r2⟩:=hf front[k] (G1 _);have hg:sp.Moves[front[k].toNat]?=some (sp.Moves[front[k].toNat]'om_):=gE_ om_;generalize sp.Moves[front[k].toNat]'om_=mv at hg;have hfk:front[k]=((front[k].toNat:Nat):Int):=by omega
   have hi:idx sp.Moves front[k]=some mv:=by rw [hfk,Ai];exact hg
   have h85:=Ti h hg;rw [← hfk] at h85;have hq:idx front (k:Int)=some front[k]:=by rw [Ai,gE_ hlt]
   obtain ⟨h22,_⟩:=h.rows mv (Az hi);obtain ⟨b1,e1,l1,q1⟩:=Hd (z:=((k:Int),a)) (l:=l) h hq hi FF 0 a om_ uF ha;have e1:Uv FF sp front l ((k:Int),a) (mv.map (lab sp front[k])) FF ((0:Int),a)=some ((mv.length:Int),b1):=e1;rw [Aj,dt_ hlt,ct_,hq,ob_,h85,ob_,e1,ob_,Am om_];obtain ⟨b2,e2,l2,q2⟩:=Nq h hf hfl n (k + 1) b1 om_ om_ (l1.trans ha);refine ⟨b2,e2,l2.trans l1,λy=>?_⟩;rw [q2,q1,HA,G4 hlt];constructor
   ·rintro ((h1 | ⟨h1,h2⟩) | ⟨i,h1,h2⟩)
    ·exact .inl h1
    ·exact .inr ⟨_,G8 ..,mv,hi,h1,h2⟩
    ·exact .inr ⟨i,G7 _ h1,h2⟩
   ·rintro (h1 | ⟨i,h1,mv',h2,h3⟩)
    ·exact .inl (.inl h1)
    ·rcases G3.1 h1 with rfl | h1
     ·rw [hi] at h2;obtain rfl:=Option.some.inj h2;exact .inl (.inr h3)
     ·exact .inr ⟨i,h1,mv',h2,h3⟩
  ·obtain rfl:k=front.length:=by omega
   rw [Aj,df_ om_,cf_];refine ⟨a,rfl,rfl,λy=>⟨.inl,λe=>e.elim id ?_⟩⟩;rw [JX];rintro ⟨i,h1,_⟩;simp at h1
def bF (sp:Space) (front:M6) (l:List Ab):M6:=(m84 FF sp front l).getD []
theorem Qz (h:Sq c sp) {front:M6} {l:List Ab} (hf:∀ i∈front,0<=i/\i < sp.States.length) (hfl:front.length<=10000):m84 FF sp front l=some (bF sp front l)/\Cs (bF sp front l) (Sc sp (Bh sp front l)):=by
 have hle:=h.le;obtain ⟨b,e1,l1,q1⟩:=Nq (l:=l) h hf hfl FF 0 (List.replicate sp.States.length false) om_ uF smp_;obtain ⟨r,b2,e2,hr⟩:=Wo (a:=b) h (by rw [l1];simp);have e1:Uw FF sp front l FF ((0:Int),List.replicate sp.States.length false)=some ((front.length:Int),b):=e1;have e3:m84 FF sp front l=some r:=by
  unfold m84;rw [Et om_,ob_,e1,ob_,e2];rfl
 have hz:bF sp front l=r:=by unfold bF;rw [e3];rfl
 rw [hz];refine ⟨e3,hr.iff λi=>Sc.iff (λj=>?_) i⟩;rw [q1,HA];exact ⟨λe=>e.elim (λe=>(B5 e).elim) id,.inr⟩
end
end Go.Pn
namespace Go.Pn
open Go
section
variable {c:Aa} {sp:Space}
theorem Sr (h:Sq c sp) {i:Int} (h0:0<=i) (h1:i < sp.States.length):∃ mv,idx sp.Moves i=some mv/\sp.Moves[i.toNat]?=some mv/\True/\mv.length<=22/\∀ k∈mv,0<=k/\k < sp.States.length:=by
 have hml:=h.ml;have hg:sp.Moves[i.toNat]?=some (sp.Moves[i.toNat]'om_):=gE_ om_;generalize sp.Moves[i.toNat]'om_=mv at hg;have hi:i=((i.toNat:Nat):Int):=by omega
 obtain ⟨h22,hr⟩:=h.rows mv (G6 hg);refine ⟨mv,by rw [hi,Ai];exact hg,hg,trivial,h22,hr⟩
end
end Go.Pn
namespace Go.Pn
open Go Go.Sort Go.Proofs
section
variable {c:Aa} {sp:Space}
def GS (sp:Space) (front:M6) (x:List Ab):Prop:=∃ i∈front,∃ mv,idx sp.Moves i=some mv/\∃ j∈mv,x=lab sp i j/\x≠[]
theorem GS.sb (h:Sq c sp) {front:M6} (hf:∀ i∈front,0<=i/\i < sp.States.length) {x:List Ab} (hx:GS sp front x):(∀ s∈x,Sb_ s)/\x.length<=6:=by
 obtain ⟨i,hi,mv,_,j,_,rfl,_⟩:=hx;exact Mo h (hf i hi).1 (hf i hi).2
theorem Ob {z1:Int×List (List Ab)} {x4:Int} {x5:List (List Ab)} {z6:Int×List (List Ab)} {x:List Ab} (hx:idx x5 z6.1=some x) (hl:∀ y∈z6.2,y.length<=10000) (hll:z6.2.length<=1000000):∀ (n p:Nat),p<=z6.2.length->z6.2.length - p < n->(∀ j (h:j < z6.2.length),j < p->lL z6.2[j] x) ->
  ∃ q:Nat,Ve FF z1 x4 x5 z6 n (p:Int)=some (q:Int)/\q<=z6.2.length/\(∀ j (h:j < z6.2.length),j < q->lL z6.2[j] x)/\∀ h:q < z6.2.length,¬ lL z6.2[q] x
 | 0,_,_,h,_=>by omega
 | n + 1,p,hp,hn,hb=>by
  rw [Ve];by_cases hlt:p < z6.2.length
  ·rw [Aj,dt_ hlt,ct_,Ai,gE_ hlt,ob_,hx,ob_,Mv (hl _ (G1 _)),ob_,ob_];by_cases hc:lL z6.2[p] x
   ·have:decide (Xa (lcs z6.2[p] x) < 0)=true:=dt_ (BR.2 hc);rw [this,ct_,Am om_];refine Ob hx hl hll n (p + 1) om_ om_ λj h1 h2=>?_;rcases JQ (J6 h2) with h3 | rfl
    ·exact hb j h1 h3
    ·exact hc
   ·have:decide (Xa (lcs z6.2[p] x) < 0)=false:=df_ λe=>hc (BR.1 e);rw [this,cf_];exact ⟨p,rfl,hp,hb,λ_=>hc⟩
  ·rw [Aj,df_ hlt,cf_,ob_,cf_];exact ⟨p,rfl,hp,hb,λh=>(hlt h).elim⟩
theorem ins_pw {out:List (List Ab)} {x:List Ab} {q:Nat} (ho:out.Pairwise lL) (hq:q<=out.length) (hb:∀ j (h:j < out.length),j < q->lL out[j] x) (hn:∀ h:q < out.length,¬ lL out[q] x/\out[q]≠x):(out.take q ++ (x :: out.drop q)).Pairwise lL:=by
 have h1:∀ y∈out.drop q,lL x y:=λy hy=>by
  obtain ⟨j,hj⟩:=K9 hy;rw [KP] at hj;obtain ⟨hl,rfl⟩:=GZ.1 hj;obtain ⟨n1,n2⟩:=hn om_;have h2:lL x out[q]:=by
   rcases Jv.tot out[q] x with e | e | e
   ·exact (n2 e).elim
   ·exact (n1 e).elim
   ·exact e
  rcases LF j with rfl | hj0
  ·exact h2
  ·exact Jv.tr _ _ _ h2 (J4.1 ho q (q + j) om_ hl om_)
 have h2:∀ y∈out.take q,lL y x:=λy hy=>by
  obtain ⟨j,hj⟩:=K9 hy;rw [J9] at hj;split at hj
  ·obtain ⟨hl,rfl⟩:=GZ.1 hj;exact hb j hl om_
  ·cases hj
 refine LR.2 ⟨ho.sublist (List.take_sublist ..),H4.2 ⟨h1,ho.sublist (List.drop_sublist ..)⟩,λa ha b hb'=>?_⟩;rcases G3.1 hb' with rfl | hb'
 ·exact h2 a ha
 ·exact Jv.tr _ _ _ (h2 a ha) (h1 b hb')
end
end Go.Pn
namespace Go.Pn
open Go Go.Sort Go.Proofs
section
variable {c:Aa} {sp:Space}
theorem Zs {α:Type} {xs:List α} {q:Nat} (h:q<=xs.length):lsl xs 0 (q:Int)=some (xs.take q):=by
 unfold lsl;rw [if_pos ⟨by omega,by omega,by omega⟩];simp
theorem Zu {α:Type} {xs:List α} {q:Nat} (h:q<=xs.length):lsl xs (q:Int) (xs.length:Int)=some (xs.drop q):=by
 unfold lsl;rw [if_pos ⟨by omega,by omega,by omega⟩,HO,HO,H2 smp_]
theorem He {z1:Int×List (List Ab)} {x4:Int} {i:Int} {mv:M6} (hm:mv.length<=1000) (hL:∀ j∈mv,(lab sp i j).length<=6):∀ (n k:Nat) (out:List (List Ab)),k<=mv.length->mv.length - k < n->out.length + (mv.length - k)<=90000->out.Pairwise lL->(∀ y∈out,y.length<=6) ->
  ∃ o,Of FF z1 x4 (mv.map (lab sp i)) n ((k:Int),out)=some ((mv.length:Int),o)/\o.length<=out.length + (mv.length - k)/\o.Pairwise lL/\(∀ y∈o,y.length<=6)/\∀ y,y∈o↔y∈out\/∃ j∈mv.drop k,y=lab sp i j/\y≠[]
 | 0,_,_,_,h,_,_,_=>by omega
 | n + 1,k,out,hk,hn,ho,hpw,hlen=>by
  rw [Of];dsimp only;rw [JT];by_cases hlt:k < mv.length
  ·have hlk:(mv.map (lab sp i))[k]?=some (lab sp i mv[k]):=by rw [HJ,gE_ hlt];rfl
   have hd:mv.drop k=mv[k] :: mv.drop (k + 1):=G4 hlt;rw [Aj,dt_ hlt,ct_,Am om_,Ai,hlk,ob_];by_cases hc:lab sp i mv[k]=[]
   ·obtain ⟨o,e3,l3,p3,b3,q3⟩:=He (z1:=z1) (x4:=x4) hm hL n (k + 1) out om_ om_ om_ hpw hlen;rw [hc,show (((([]:List Ab).length:Int)) == 0)=true from rfl,ct_];refine ⟨o,e3,by omega,p3,b3,λy=>?_⟩;rw [q3,hd];constructor
    ·rintro (h1 | ⟨j,h1,h2⟩)
     ·exact .inl h1
     ·exact .inr ⟨j,G7 _ h1,h2⟩
    ·rintro (h1 | ⟨j,h1,h2,h3⟩)
     ·exact .inl h1
     ·rcases G3.1 h1 with rfl | h1
      ·exact (h3 (h2.trans hc)).elim
      ·exact .inr ⟨j,h1,h2,h3⟩
   ·have hl0:(((lab sp i mv[k]).length:Int) == 0)=false:=by
     cases hq:lab sp i mv[k] with
     | nil=>exact (hc hq).elim
     | cons y ys=>simp;omega
    have h6:(lab sp i mv[k]).length<=6:=hL _ (G1 _);generalize hx:lab sp i mv[k]=x at hl0 hlk hc h6;obtain ⟨q,e1,hq,hb,hnl⟩:=Ob (z1:=z1) (x4:=x4) (x5:=mv.map (lab sp i)) (z6:=((k:Int),out)) (x:=x) (by rw [Ai];exact hlk) (λy hy=>by have:=hlen y hy;omega) (by show out.length<=_;omega) FF 0 om_ (by show out.length - 0 < _;unfold FF;omega) (λj _ h=>by omega);have e1:Ve FF z1 x4 (mv.map (lab sp i)) ((k:Int),out) FF (0:Int)=some (q:Int):=e1;have hq:q<=out.length:=hq;rw [hl0,cf_,e1,ob_];have goon:∀ (o1:List (List Ab)),o1.Pairwise lL->o1.length<=out.length + 1->(∀ y,y∈o1↔y∈out\/y=x)->∃ o,Of FF z1 x4 (mv.map (lab sp i)) n (((k + 1:Nat):Int),o1)=some ((mv.length:Int),o)/\o.length<=out.length + (mv.length - k)/\o.Pairwise lL/\(∀ y∈o,y.length<=6)/\∀ y,y∈o↔y∈out\/∃ j∈mv.drop k,y=lab sp i j/\y≠[]:=by
     intro o1 p1 l1 q1;obtain ⟨o,e3,l3,p3,b3,q3⟩:=He (z1:=z1) (x4:=x4) hm hL n (k + 1) o1 om_ om_ om_ p1 (λy hy=>by
      rcases (q1 y).1 hy with h1 | rfl
      ·exact hlen y h1
      ·exact h6)
     refine ⟨o,e3,by omega,p3,b3,λy=>?_⟩;rw [q3,q1,hd];constructor
     ·rintro ((h1 | rfl) | ⟨j,h1,h2⟩)
      ·exact .inl h1
      ·exact .inr ⟨_,G8 ..,hx.symm,hc⟩
      ·exact .inr ⟨j,G7 _ h1,h2⟩
     ·rintro (h1 | ⟨j,h1,h2,h3⟩)
      ·exact .inl (.inl h1)
      ·rcases G3.1 h1 with rfl | h1
       ·exact .inl (.inr (h2.trans hx))
       ·exact .inr ⟨j,h1,h2,h3⟩
    have hnew:(q=out.length\/∃ h:q < out.length,out[q]≠x)->(out.take q ++ (x :: out.drop q)).Pairwise lL/\∀ y,y∈out.take q ++ (x :: out.drop q)↔y∈out\/y=x:=by
     intro hcase;refine ⟨ins_pw hpw hq hb λh=>⟨hnl h,?_⟩,λy=>?_⟩
     ·rcases hcase with rfl | ⟨_,h1⟩
      ·omega
      ·exact h1
     ·have:y∈out↔y∈out.take q\/y∈out.drop q:=by rw [← G9,MO]
      rw [G9,G3,this];constructor
      ·rintro (h1 | rfl | h1)
       ·exact .inl (.inl h1)
       ·exact .inr rfl
       ·exact .inl (.inr h1)
      ·rintro ((h1 | h1) | rfl)
       ·exact .inl h1
       ·exact .inr (.inr h1)
       ·exact .inr (.inl rfl)
    have put:(bif true then (lsl out 0 (q:Int)).bind λx20=>(some x).bind λx21=>(lsl out (q:Int) (out.length:Int)).bind λx23=>(app ([x21]:List (List Ab)) x23).bind λx24=>(appn x20 x24).bind λx26=>some x26 else some out)=some (out.take q ++ (x :: out.drop q)):=by
     rw [ct_,Zs hq,ob_,ob_,Zu hq,ob_,Aq so_,ob_];show (app _ _).bind _=_;rw [Aq so_];rfl
    by_cases hql:q=out.length
    ·rw [show ((q:Int) == (out.length:Int))=true by rw [hql];simp,ct_,ob_,put,ob_];obtain ⟨h1,h2⟩:=hnew (.inl hql);exact goon _ h1 so_ h2
    ·have hqlt:q < out.length:=by omega
     rw [show ((q:Int) == (out.length:Int))=false by simp;omega,cf_,Ai,gE_ hqlt,ob_,ob_,Mv (by have:=hlen _ (G1 hqlt);omega),ob_,ob_];by_cases he:out[q]=x
     ·rw [show (Xa (lcs out[q] x) != 0)=false by rw [he,Aw.2 rfl];rfl,cf_,ob_];exact goon out hpw om_ λy=>⟨.inl,λe=>e.elim id λe=>by rw [e,← he];exact G1 hqlt⟩
     ·have:(Xa (lcs out[q] x) != 0)=true:=by
       rw [bne_iff_ne];intro e;rw [Ye,Aw] at e;exact he e
      rw [this,put,ob_];obtain ⟨h1,h2⟩:=hnew (.inr ⟨hqlt,he⟩);exact goon _ h1 so_ h2
  ·obtain rfl:k=mv.length:=by omega
   rw [Aj,df_ om_,cf_];exact ⟨out,rfl,by omega,hpw,hlen,λy=>by rw [JX];simp⟩
theorem Og (h:Sq c sp) {front:M6} (hf:∀ i∈front,0<=i/\i < sp.States.length) (hfl:front.length<=400):∀ (n k:Nat) (out:List (List Ab)),k<=front.length->front.length - k < n->out.length<=22 * k->out.Pairwise lL->(∀ y∈out,y.length<=6) ->
  ∃ o,Vg FF sp front n ((k:Int),out)=some ((front.length:Int),o)/\o.Pairwise lL/\∀ y,y∈o↔y∈out\/GS sp (front.drop k) y
 | 0,_,_,_,h,_,_,_=>by omega
 | n + 1,k,out,hk,hn,ho,hpw,hlen=>by
  rw [Vg];dsimp only;by_cases hlt:k < front.length
  ·obtain ⟨r1,r2⟩:=hf front[k] (G1 _);obtain ⟨mv,m1,m2,m3,m4,m5⟩:=Sr h r1 r2;have h85:=Ti h m2;rw [show ((front[k].toNat:Nat):Int)=front[k] by omega] at h85;obtain ⟨o1,e1,l1,p1,b1,q1⟩:=He (sp:=sp) (z1:=((k:Int),out)) (x4:=front[k]) (i:=front[k]) (mv:=mv) om_ (λj hj=>(Mo h r1 r2).2) FF 0 out om_ uF om_ hpw hlen;have e1:Of FF ((k:Int),out) front[k] (mv.map (lab sp front[k])) FF ((0:Int),out)=some ((mv.length:Int),o1):=e1;obtain ⟨o2,e2,p2,q2⟩:=Og h hf hfl n (k + 1) o1 om_ om_ om_ p1 b1;rw [Aj,dt_ hlt,ct_,Ai,gE_ hlt,ob_,h85,ob_,e1,ob_,Am om_];refine ⟨o2,e2,p2,λy=>?_⟩;rw [q2,q1,HA,G4 hlt];constructor
   ·rintro ((h1 | ⟨j,h1,h2⟩) | ⟨i,h1,h2⟩)
    ·exact .inl h1
    ·exact .inr ⟨_,G8 ..,mv,m1,j,h1,h2⟩
    ·exact .inr ⟨i,G7 _ h1,h2⟩
   ·rintro (h1 | ⟨i,h1,mv',h2,h3⟩)
    ·exact .inl (.inl h1)
    ·rcases G3.1 h1 with rfl | h1
     ·rw [m1] at h2;obtain rfl:=Option.some.inj h2;exact .inl (.inr h3)
     ·exact .inr ⟨i,h1,mv',h2,h3⟩
  ·obtain rfl:k=front.length:=by omega
   rw [Aj,df_ om_,cf_];refine ⟨out,rfl,hpw,λy=>⟨.inl,λe=>e.elim id ?_⟩⟩;rw [JX];rintro ⟨i,h1,_⟩;simp at h1
def nF (sp:Space) (front:M6):List (List Ab):=(m54 FF sp front).getD []
theorem Hb (h:Sq c sp) {front:M6} (hf:∀ i∈front,0<=i/\i < sp.States.length) (hfl:front.length<=400):m54 FF sp front=some (nF sp front)/\(nF sp front).Pairwise lL/\∀ x,x∈nF sp front↔GS sp front x:=by
 obtain ⟨o,e1,p1,q1⟩:=Og h hf hfl FF 0 [] om_ uF smp_ .nil smp_;have e1:Vg FF sp front FF ((0:Int),[])=some ((front.length:Int),o):=e1;have e2:m54 FF sp front=some o:=by
  unfold m54;rw [e1];rfl
 have hz:nF sp front=o:=by unfold nF;rw [e2];rfl
 rw [hz];exact ⟨e2,p1,λx=>by rw [q1,HA];simp⟩
end
end Go.Pn
namespace Go.Pn
section
variable {L S:Type} {lt:L->L->Prop} {nx:S->List L} {st:S->L->S} {bad:S->Bool} {s0:S}
end
section
variable {L A B:Type} {lt:L->L->Prop} {na:A->List L} {nb:B->List L} {sa:A->L->A} {sb:B->L->B} {ea:A->Bool} {eb:B->Bool}
def Sd_ (na:A->List L) (sa:A->L->A) (ea:A->Bool):Prop:=∀ s a,a∈na s↔ea (sa s a)=false
@[reducible] def bdU_ (ea:A->Bool) (eb:B->Bool):A×B->Bool:=λs=>ea s.1 || eb s.2
variable {nu:A×B->List L}
section
variable {s0:A×B} (h0:Ord_ lt) (hA:Sd_ na sa ea) (hB:Sd_ nb sb eb) (hu:∀ s a,a∈nu s↔a∈na s.1\/a∈nb s.2) (hs:bdU_ ea eb s0=false)
include hA hB hu hs
include h0
omit h0
end
end
section
variable {L S:Type} {lt:L->L->Prop} {nx:S->List L} {st:S->L->S} {bad:S->Bool} {s0:S} {l l':List S} {tr tr':List (List L)} {i i':Nat} {done done':List L} {nx':S->List L} {bad':S->Bool}
end
end Go.Pn
namespace Go.Pn
open Go Go.Sort Go.Proofs
structure Fr_ (sp:Space) (l:M6):Prop where
 pw:l.Pairwise (· < ·)
 rg:∀ i∈l,0<=i/\i < sp.States.length
section
variable {c:Aa} {sp:Space}
theorem Fr_.len (h:Sq c sp) {l:M6} (k:Fr_ sp l):l.length<=400:=by
 have h1:l.Nodup:=k.pw.imp λhab e=>by omega
 have:=Gf sp.States.length h1 k.rg;have:=h.le;omega
theorem Cs.fr (h:Sq c sp) {l:M6} {S:Int->Prop} (hS:∀ i,S i->0<=i/\i < sp.States.length) (k:Cs l (Sc sp S)):Fr_ sp l:=⟨k.1,λi hi=>Sc.rng h hS ((k.2 i).1 hi)⟩
theorem zF_fr (h:Sq c sp):Fr_ sp (zF sp):=Cs.fr h (λi hi=>by have:=h.pos;subst hi;omega) (Ew h).2.2
theorem bF_fr (h:Sq c sp) {l:M6} (k:Fr_ sp l) (a:List Ab):Fr_ sp (bF sp l a):=Cs.fr h (λ_ hi=>hi.rng h) (Qz (l:=a) h k.rg (by have:=k.len h;omega)).2
def FrT (sp:Space):Type:={l:M6 // Fr_ sp l}
def zT (h:Sq c sp):FrT sp:=⟨zF sp,zF_fr h⟩
def bT (h:Sq c sp) (s:FrT sp) (a:List Ab):FrT sp:=⟨bF sp s.1 a,bF_fr h s.2 a⟩
def nT (s:FrT sp):List (List Ab):=nF sp s.1
def eT (s:FrT sp):Bool:=s.1.isEmpty
theorem zT_ne (h:Sq c sp):eT (zT h)=false:=by
 have:(0:Int)∈zF sp:=((Ew h).2.2.2 0).2 (.base rfl);show (zF sp).isEmpty=false;cases hz:zF sp with
 | nil=>rw [hz] at this;simp at this
 | cons y ys=>rfl
theorem nT_pw (h:Sq c sp) (s:FrT sp):(nT s).Pairwise lL:=(Hb h s.2.rg (s.2.len h)).2.1
theorem sd_T (h:Sq c sp):Sd_ (nT (sp:=sp)) (bT h) eT:=by
 intro s a;have h1:=(Hb h s.2.rg (s.2.len h)).2.2 a;have h2:=(Qz (l:=a) h s.2.rg (by have:=s.2.len h;omega)).2;have h3:GS sp s.1 a↔∃ j,Bh sp s.1 a j:=by
  constructor
  ·rintro ⟨i,hi,mv,hm,j,hj,rfl,hne⟩;exact ⟨j,i,hi,mv,hm,hj,hne,rfl⟩
  ·rintro ⟨j,i,hi,mv,hm,hj,hne,rfl⟩;exact ⟨i,hi,mv,hm,j,hj,rfl,hne⟩
 show a∈nF sp s.1↔(bF sp s.1 a).isEmpty=false;rw [h1,h3];constructor
 ·rintro ⟨j,hj⟩;have:j∈bF sp s.1 a:=(h2.2 j).2 (.base hj);cases hz:bF sp s.1 a with
  | nil=>rw [hz] at this;simp at this
  | cons y ys=>rfl
 ·intro he;cases hz:bF sp s.1 a with
  | nil=>rw [hz] at he;cases he
  | cons y ys=>
   have hy:Sc sp (Bh sp s.1 a) y:=(h2.2 y).1 (by rw [hz];exact G8 ..);clear hz he
   induction hy with
   | base h4=>exact ⟨_,h4⟩
   | step _ _ _ _ ih=>exact ih
theorem nT_sb (h:Sq c sp) {s:FrT sp} {a:List Ab} (ha:a∈nT s):(∀ x∈a,Sb_ x)/\a.length<=6:=((Hb h s.2.rg (s.2.len h)).2.2 a |>.1 ha).sb h s.2.rg
end
section
variable {c d:Aa} {sa sb:Space}
end
end Go.Pn
namespace Go.Pn
open Go Go.Sort Go.Proofs
section
variable {c d:Aa} {sa sb:Space}
theorem AP:∀ l:List (List Ab),(Cr l).length<=l.length
 | []=>HB _
 | [_]=>HB _
 | a :: b :: l=>by
  have:=AP (b :: l);rw [Lm];split
  ·simp at this ⊢;omega
  ·simp at this ⊢;omega
end
end Go.Pn
namespace Go.Pn
open Go Go.Sort Go.Proofs
theorem Nn {α:Type}:∀ {l P:List α},l.Nodup->(∀ x∈l,x∈P)->l.length<=P.length
 | [],_,_,_=>JK _
 | x :: l,P,hn,h=>by
  obtain ⟨h1,h2⟩:=ML.1 hn;obtain ⟨p,q,rfl⟩:=List.append_of_mem (h x (G8 ..));have:=Nn (P:=p ++ q) h2 λy hy=>by
   rcases G9.1 (h y (G7 _ hy)) with h3 | h3
   ·exact HK _ h3
   ·rcases G3.1 h3 with rfl | h3
    ·exact (h1 hy).elim
    ·exact HG _ h3
  simp at this ⊢;omega
section
variable {c d:Aa} {sa sb:Space}
def emT (sp:Space):FrT sp:=⟨[],.nil,by simp⟩
theorem eT_em {s:FrT sa} (h:eT s=true):s=emT sa:=by
 obtain ⟨l,hl⟩:=s;have h:l.isEmpty=true:=h;cases l with
 | nil=>rfl
 | cons y ys=>cases h
end
end Go.Pn
namespace Go.Pn
open Go
def Rkk (R:Int->Int->Prop) (S:Int->Prop):Nat->Int->Prop
 | 0,q=>S q
 | i + 1,q=>∃ p,Rkk R S i p/\R p q
structure Cyc (R:Int->Int->Prop) (z:Nat->Int) (c:Nat):Prop where
 pos:0 < c
 per:∀ t,z t=z (t % c)
 st:∀ t,R (z t) (z (t + 1))
 inj:∀ s t,s < t->t < c->z s≠z t
theorem DN {P:Nat->Prop}:∀ d,P d->∃ d,P d/\∀ e,e < d->¬ P e:=by
 intro d
 induction d using Nat.strongRecOn with
 | ind d ih=>
  intro hd;by_cases h:∃ e,e < d/\P e
  ·obtain ⟨e,h1,h2⟩:=h;exact ih e h1 h2
  ·exact ⟨d,hd,λe he hp=>h ⟨e,he,hp⟩⟩
theorem FS {R:Int->Int->Prop} {w:Nat->Int} {n:Nat} {S:M6} (hw:∀ t,t < n->R (w t) (w (t + 1))) (hS:∀ t,t<=n->w t∈S) (hl:S.length<=n):∃ z c,Cyc R z c/\∀ t,z t∈S:=by
 have h1:∃ d,0 < d/\∃ i,i + d<=n/\w i=w (i + d):=by
  refine Classical.byContradiction λhc=>?_;have hn:((List.range (n + 1)).map w).Nodup:=by
   refine J4.2 λi j hi hj hij=>?_;simp only [JT,K4] at hi hj;rw [LN,LN,MZ,MZ];intro e;exact hc ⟨j - i,by omega,i,by omega,by rw [show i + (j - i)=j by omega];exact e⟩
  have:=Nn (P:=S) hn λx hx=>by
   obtain ⟨t,ht,rfl⟩:=H6.1 hx;exact hS t (by have:=HC.1 ht;omega)
  simp at this;omega
 obtain ⟨d0,hd0⟩:=h1;obtain ⟨c,⟨hc,i,hi,he⟩,hmin⟩:=DN (P:=λd=>0 < d/\∃ i,i + d<=n/\w i=w (i + d)) d0 hd0;refine ⟨λt=>w (i + t % c),c,⟨hc,λt=>by show w _=w _;rw [Nat.mod_mod],λt=>?_,λs t h1 h2 e=>?_⟩,λt=>?_⟩
 ·show R (w (i + t % c)) (w (i + (t + 1) % c));have hm:=ME t hc;by_cases h1:t % c + 1=c
  ·have:(t + 1) % c=0:=by rw [← LX,h1,Nat.mod_self]
   have h2:=hw (i + t % c) om_;rw [show i + t % c + 1=i + c by omega,← he] at h2;rw [this];exact h2
  ·have:(t + 1) % c=t % c + 1:=by rw [← LX,LB om_]
   rw [this];exact hw (i + t % c) om_
 ·have e:w (i + s % c)=w (i + t % c):=e;rw [LB om_,LB h2] at e;exact hmin (t - s) om_ ⟨by omega,i + s,by omega,by rw [show i + s + (t - s)=i + t by omega];exact e⟩
 ·have:=ME t hc;exact hS _ om_
theorem AJ {α:Type} {p:α->Bool}:∀ {l:List α},(l.filter p).length + (l.filter λx=>!p x).length=l.length
 | []=>rfl
 | a :: l=>by
  have:=AJ (p:=p) (l:=l);rw [KO,KO];cases p a <;> simp <;> omega
theorem cycs {R:Int->Int->Prop}:∀ (n:Nat) (S:M6),S.length<=n->∃ Cs:List ((Nat->Int)×Nat),(∀ x∈Cs,Cyc R x.1 x.2)/\(Cs.map (·.2)).sum<=S.length /\
  ∀ w:Nat->Int,(∀ t,t < S.length->R (w t) (w (t + 1)))->(∀ t,t<=S.length->w t∈S)->∃ t,t<=S.length/\∃ x∈Cs,∃ u,w t=x.1 u:=by
 intro n
 induction n with
 | zero=>
  intro S hS;obtain rfl:S=[]:=JN.1 om_;exact ⟨[],by simp,by simp,λw _ h=>absurd (h 0 (JK _)) smp_⟩
 | succ n ih=>
  intro S hS;by_cases hc:∃ z c,Cyc R z c/\∀ t,z t∈S
  ·obtain ⟨z,c,hz,hzS⟩:=hc
   let V:M6:=(List.range c).map z
   have hV:∀ t,z t∈V:=λt=>by
    rw [hz.per t];exact H6.2 ⟨t % c,HC.2 (ME _ hz.pos),rfl⟩
   have hVn:V.Nodup:=by
    refine J4.2 λi j hi hj hij=>?_;simp only [V,JT,K4] at hi hj;simp only [V,LN,MZ];exact hz.inj i j hij hj
   have hVl:V.length=c:=by simp [V]
   have h1:c<=(S.filter λq=>decide (q∈V)).length:=by
    rw [← hVl];refine Nn hVn λx hx=>KJ.2 ⟨?_,by simpa using hx⟩;obtain ⟨t,_,rfl⟩:=H6.1 hx;exact hzS t
   have h2:=AJ (p:=λq=>decide (q∈V)) (l:=S);have h0:=hz.pos;obtain ⟨Cs,k1,k2,k3⟩:=ih (S.filter λq=>!decide (q∈V)) om_;refine ⟨(z,c) :: Cs,λx hx=>?_,?_,λw hw hwS=>?_⟩
   ·rcases G3.1 hx with rfl | hx
    ·exact hz
    ·exact k1 x hx
   ·rw [HD,KZ];show c + _<=_;omega
   ·by_cases hv:∃ t,t<=S.length/\w t∈V
    ·obtain ⟨t,ht,hm⟩:=hv;obtain ⟨u,_,hu⟩:=H6.1 hm;exact ⟨t,ht,(z,c),G8 ..,u,hu.symm⟩
    ·obtain ⟨t,ht,x,hx,u,hu⟩:=k3 w (λt ht=>hw t om_) (λt ht=>KJ.2 ⟨hwS t om_,by
      have:¬ w t∈V:=λhm=>hv ⟨t,by omega,hm⟩;simpa using this⟩)
     exact ⟨t,by omega,x,G7 _ hx,u,hu⟩
  ·exact ⟨[],by simp,by simp,λw hw hwS=>absurd (FS hw hwS (HB _)) hc⟩
def lchk:Nat->Nat->Nat->Bool
 | 0,_,m=>Nat.ble m 180180
 | k + 1,s,m=>lchk k s m && bif Nat.ble (k + 1) s then lchk k (s - (k + 1)) (m * (k + 1) / Nat.gcd m (k + 1)) else true
theorem lchk_50:lchk 50 50 1=true:=by kernel_rfl
theorem Ya {k:Nat}:∀ {l:M8},k∈l->(l.filter λx=>!(x == k)).sum + k<=l.sum
 | a :: l,h=>by
  have hf:∀ l:M8,(l.filter λx=>!(x == k)).sum<=l.sum:=λl=>by
   induction l with
   | nil=>exact HB _
   | cons b l ih=>
    rw [KO,KZ];split
    ·rw [KZ];omega
    ·omega
  rw [KO,KZ];by_cases e:a=k
  ·subst e;have:=hf l;simp;omega
  ·have h:k∈l:=(G3.1 h).elim (λh=>(e h.symm).elim) id;have:=Ya h;rw [if_pos (by simpa using e),KZ];omega
theorem Xp:∀ (k s m:Nat),lchk k s m=true->0 < m->∀ l:M8,(∀ x∈l,0 < x/\x<=k)->l.sum<=s->∃ L,0 < L/\L<=180180/\m ∣ L/\∀ x∈l,x ∣ L
 | 0,s,m,h,hm,l,hl,_=>by
  refine ⟨m,hm,G0 h,Nat.dvd_refl _,λx hx=>?_⟩;have:=hl x hx;omega
 | k + 1,s,m,h,hm,l,hl,hs=>by
  rw [lchk,G2] at h;obtain ⟨h1,h2⟩:=h;by_cases hk:k + 1∈l
  ·have h3:=Ya hk;rw [show Nat.ble (k + 1) s=true from LP om_,ct_] at h2;have h4:m * (k + 1) / Nat.gcd m (k + 1)=Nat.lcm m (k + 1):=rfl;rw [h4] at h2;obtain ⟨L,a1,a2,a3,a4⟩:=Xp k _ _ h2 (Nat.lcm_pos hm om_) (l.filter λx=>!(x == k + 1)) (λx hx=>by
    obtain ⟨b1,b2⟩:=KJ.1 hx;have:=hl x b1;have:x≠k + 1:=by simpa using b2
    omega) om_
   refine ⟨L,a1,a2,Nat.dvd_trans (Nat.dvd_lcm_left ..) a3,λx hx=>?_⟩;by_cases e:x=k + 1
   ·subst e;exact Nat.dvd_trans (Nat.dvd_lcm_right ..) a3
   ·exact a4 x (KJ.2 ⟨hx,by simpa using e⟩)
  ·exact Xp k s m h1 hm l (λx hx=>by
    have:=hl x hx;have:x≠k + 1:=λe=>hk (e ▸ hx);omega) hs
theorem Ro {x:Nat}:∀ {l:M8},x∈l->x<=l.sum
 | a :: l,h=>by
  rw [KZ];rcases G3.1 h with rfl | h
  ·omega
  ·have:=Ro h;omega
theorem landau {l:M8} (hl:∀ x∈l,0 < x) (hs:l.sum<=50):∃ L,0 < L/\L<=180180/\∀ x∈l,x ∣ L:=by
 obtain ⟨L,h1,h2,_,h3⟩:=Xp 50 50 1 lchk_50 om_ l (λx hx=>⟨hl x hx,HP (Ro hx) hs⟩) hs;exact ⟨L,h1,h2,h3⟩
theorem Uc {α:Type} {p q:α->Bool}:∀ {l:List α},(∀ x∈l,p x=true->q x=true)->l.countP p<=l.countP q/\(l.countP p=l.countP q->∀ x∈l,q x=true->p x=true)
 | [],_=>⟨Nat.le_refl _,by simp⟩
 | a :: l,h=>by
  obtain ⟨h1,h2⟩:=Uc (l:=l) (p:=p) (q:=q) λx hx=>h x (G7 _ hx);have ha:=h a (G8 ..);rw [List.countP_cons,List.countP_cons];cases hp:p a with
  | true=>
   rw [ha hp,if_pos rfl];refine ⟨by omega,λe x hx hq=>?_⟩;rcases G3.1 hx with rfl | hx
   ·exact hp
   ·exact h2 om_ x hx hq
  | false=>
   rw [if_neg smp_];cases hq:q a with
   | true=>rw [if_pos rfl];exact ⟨by omega,λe=>by omega⟩
   | false=>
    rw [if_neg smp_];refine ⟨by omega,λe x hx hq'=>?_⟩;rcases G3.1 hx with rfl | hx
    ·rw [hq] at hq';cases hq'
    ·exact h2 om_ x hx hq'
theorem B4 {g:Nat->Nat} (hm:∀ i,g i<=g (i + 1)) {a:Nat}:∀ d,g a<=g (a + d)
 | 0=>HB _
 | d + 1=>HP (B4 hm d) (hm _)
theorem windows {g:Nat->Nat} {N:Nat} (hm:∀ i,g i<=g (i + 1)) (hb:∀ i,g i<=N) (W:Nat):∃ k,k<=N/\g (k * W)=g (k * W + W):=by
 refine Classical.byContradiction λhc=>?_;have h1:∀ k,k<=N + 1->k<=g (k * W):=by
  intro k
  induction k with
  | zero=>intro _;omega
  | succ k ih=>
   intro hk;have h2:=ih om_;have h3:=B4 hm (a:=k * W) W;have h4:g (k * W)≠g (k * W + W):=λe=>hc ⟨k,by omega,e⟩;rw [Nat.succ_mul];omega
 have:=h1 (N + 1) (HB _);have:=hb ((N + 1) * W);omega
section
variable {R:Int->Int->Prop} {S:Int->Prop}
theorem Rkk.walk {a:Nat}:∀ {n:Nat} {q:Int},Rkk R S (a + n) q->∃ w:Nat->Int,(∀ t,t < n->R (w t) (w (t + 1)))/\w n=q/\∀ t,t<=n->Rkk R S (a + t) (w t)
 | 0,q,h=>⟨λ_=>q,λt ht=>by omega,rfl,λt ht=>by
  have e:t=0:=Nat.le_zero.1 ht;subst e;exact h⟩
 | n + 1,q,⟨p,hp,hr⟩=>by
  obtain ⟨w,h1,h2,h3⟩:=Rkk.walk (n:=n) hp;refine ⟨λt=>if t<=n then w t else q,λt ht=>?_,by show (if n + 1<=n then w (n + 1) else q)=q;rw [if_neg om_],λt ht=>?_⟩
  ·show R (if t<=n then w t else q) (if t + 1<=n then w (t + 1) else q)
   rw [if_pos om_];by_cases h:t + 1<=n
   ·rw [if_pos h];exact h1 t om_
   ·rw [if_neg h,show t=n by omega,h2];exact hr
  ·show Rkk R S (a + t) (if t<=n then w t else q)
   by_cases h:t<=n
   ·rw [if_pos h];exact h3 t h
   ·rw [if_neg h,show t=n + 1 by omega];exact ⟨p,hp,hr⟩
theorem Rkk.along {w:Nat->Int} {n:Nat} (hw:∀ t,t < n->R (w t) (w (t + 1))) {b t:Nat} (h:Rkk R S b (w t)):∀ s,t + s<=n->Rkk R S (b + s) (w (t + s))
 | 0,_=>h
 | s + 1,hs=>⟨w (t + s),Rkk.along hw h s om_,hw (t + s) om_⟩
theorem Cyc.eq {z:Nat->Int} {c:Nat} (h:Cyc R z c) {s t:Nat} (e:s % c=t % c):z s=z t:=by rw [h.per s,h.per t,e]
open Classical in
theorem Rkk.back {Q:M6} (hQ:∀ i q,Rkk R S i q->q∈Q) (hl:Q.length<=50):∃ i j,i < j/\j<=9191730/\∀ q,Rkk R S i q↔Rkk R S j q:=by
 obtain ⟨Cs,c1,c2,c3⟩:=cycs (R:=R) Q.length Q (HB _);obtain ⟨L,l1,l2,l3⟩:=landau (l:=Cs.map (·.2)) (λx hx=>by
  obtain ⟨y,hy,rfl⟩:=H6.1 hx;exact (c1 y hy).pos) om_
 let P:List (((Nat->Int)×Nat)×Nat):=Cs.flatMap λx=>(List.range x.2).map λf=>(x,f)
 have hPl:P.length=(Cs.map (·.2)).sum:=by
  show (Cs.flatMap _).length=_;rw [List.length_flatMap];congr 1;exact List.map_congr_left λx _=>by simp
 have hP:∀ x∈Cs,∀ f,f < x.2->(x,f)∈P:=λx hx f hf=>List.mem_flatMap.2 ⟨x,hx,H6.2 ⟨f,HC.2 hf,rfl⟩⟩;have hP':∀ e∈P,e.1∈Cs:=λe he=>by
  obtain ⟨x,hx,h1⟩:=List.mem_flatMap.1 he;obtain ⟨f,_,rfl⟩:=H6.1 h1;exact hx
 let p:Nat->((Nat->Int)×Nat)×Nat->Bool:=λi e=>decide (Rkk R S i (e.1.1 (e.2 + i)))
 have hpm:∀ i,∀ e∈P,p i e=true->p (i + 1) e=true:=λi e he h=>
  dt_ ⟨_,of_decide_eq_true h,(c1 _ (hP' e he)).st (e.2 + i)⟩
 have hpm':∀ i d,∀ e∈P,p i e=true->p (i + d) e=true:=λi d e he h=>by
  induction d with
  | zero=>exact h
  | succ d ih=>exact hpm (i + d) e he ih
 let g:Nat->Nat:=λi=>P.countP (p i)
 have hgm:∀ i,g i<=g (i + 1):=λi=>(Uc (hpm i)).1;have hgb:∀ i,g i<=Q.length:=λi=>HP List.countP_le_length (by rw [hPl];exact c2);obtain ⟨k,hk,he⟩:=windows hgm hgb (Q.length + L);have hWk:k * (Q.length + L)<=50 * (50 + 180180):=LA om_ om_;generalize ha:k * (Q.length + L)=a at he hWk;have on:∀ b,a<=b->b<=a + (Q.length + L)->∀ e∈P,p b e=true↔p a e=true:=λb h1 h2 e hp=>by
  constructor
  ·intro h;have h3:=hpm' b (a + (Q.length + L) - b) e hp h;rw [show b + (a + (Q.length + L) - b)=a + (Q.length + L) by omega] at h3;exact (Uc (hpm' a (Q.length + L))).2 he e hp h3
  ·intro h;have h3:=hpm' a (b - a) e hp h;rw [show a + (b - a)=b by omega] at h3;exact h3
 have shift:∀ b,a<=b->b<=a + Q.length->∀ x∈Cs,∀ u,Rkk R S b (x.1 u)↔Rkk R S (b + L) (x.1 u):=λb h1 h2 x hx u=>by
  have hc:=c1 x hx;have hd:=l3 x.2 (H6.2 ⟨x,hx,rfl⟩);obtain ⟨m,rfl⟩:=hd;have hf:(u + b * (x.2 - 1)) % x.2 < x.2:=ME _ hc.pos;have e1:((u + b * (x.2 - 1)) % x.2 + b) % x.2=u % x.2:=by
   rw [LX,show u + b * (x.2 - 1) + b=u + b * x.2 by
    have:=hc.pos;obtain ⟨c,hcc⟩:∃ c,x.2=c + 1:=⟨x.2 - 1,by omega⟩;rw [hcc,KG,Nat.mul_succ];omega,Nat.add_mul_mod_self_right]
  have e2:((u + b * (x.2 - 1)) % x.2 + (b + x.2 * m)) % x.2=u % x.2:=by
   rw [← MX,Nat.add_mul_mod_self_left,e1]
  have h3:=on b h1 om_ _ (hP x hx _ hf);have h4:=on (b + x.2 * m) om_ om_ _ (hP x hx _ hf);have h5:Rkk R S b (x.1 ((u + b * (x.2 - 1)) % x.2 + b))↔Rkk R S (b + x.2 * m) (x.1 ((u + b * (x.2 - 1)) % x.2 + (b + x.2 * m))):=by
   have h6:=h3.trans h4.symm;exact ⟨λh=>of_decide_eq_true (h6.1 (dt_ h)),λh=>of_decide_eq_true (h6.2 (dt_ h))⟩
  rw [hc.eq e1,hc.eq e2] at h5;exact h5
 refine ⟨a + Q.length,a + L + Q.length,by omega,by omega,λq=>⟨λh=>?_,λh=>?_⟩⟩
 ·obtain ⟨w,w1,w2,w3⟩:=Rkk.walk h;obtain ⟨t,ht,x,hx,u,hu⟩:=c3 w w1 λt ht=>hQ _ _ (w3 t ht);have h1:=w3 t ht;rw [hu,shift (a + t) om_ om_ x hx u,← hu] at h1;have h2:=Rkk.along w1 h1 (Q.length - t) om_;rw [show t + (Q.length - t)=Q.length by omega,w2,show a + t + L + (Q.length - t)=a + L + Q.length by omega] at h2;exact h2
 ·obtain ⟨w,w1,w2,w3⟩:=Rkk.walk h;obtain ⟨t,ht,x,hx,u,hu⟩:=c3 w w1 λt ht=>hQ _ _ (w3 t ht);have h1:=w3 t ht;rw [show a + L + t=a + t + L by omega,hu,← shift (a + t) om_ om_ x hx u,← hu] at h1;have h2:=Rkk.along w1 h1 (Q.length - t) om_;rw [show t + (Q.length - t)=Q.length by omega,w2,show a + t + (Q.length - t)=a + Q.length by omega] at h2;exact h2
end
end Go.Pn
namespace Go.Pn
open Go Go.Sort Go.Proofs
theorem nbb {e:Int} (h:e≠0):(e != 0)=true:=by simpa using h
theorem m36_tot {c:Aa} {held:M7} (hb:m35 FF c held=some true) {most:Nat} (h1:1<=most) (h2:most<=16384):∃ r,m36 FF c held (most:Int)=some r:=by
 obtain ⟨b,hb',h⟩:=My c held;rw [hb] at hb';obtain rfl:=Option.some.inj hb';obtain ⟨hw,hs,hl,hne⟩:=h rfl;unfold m36;rcases Nf hw hs held with ⟨e,he,h3,h4,h5⟩ | ⟨hc,hll,h3,h4,h5⟩
 ·rw [h4,ob_];dsimp only;rw [nbb he,ct_];exact ⟨_,rfl⟩
 ·rw [h4,ob_];try dsimp only
  by_cases h0:(Da c held).2=0
  ·obtain ⟨hf,hq⟩:=h5 h0;have hA:Al c [(Da c held).1]:=λt ht=>by
    obtain rfl:t=_:=by simpa using ht
    exact ⟨hf,hq⟩
   have hx:=Bv hc.rt (most:=most) h2 FF 0 [(Da c held).1] [] hA so_ smp_ uF rfl;rw [n0] at hx;rw [h0,zf_,cf_];cases he:Kh c most FF 0 [(Da c held).1] [] with
   | inl e=>
    rw [he] at hx;rw [hx];exact ⟨_,rfl⟩
   | inr sp=>
    rw [he] at hx;obtain ⟨z,hx⟩:=hx;rw [hx];exact ⟨_,rfl⟩
  ·rw [nbb h0,ct_];exact ⟨_,rfl⟩
theorem m9_spec (c:Aa) (held:M7):∃ b,m9 FF c held=some b/\(b=true->m35 FF c held=some true):=by
 obtain ⟨b,hb,_⟩:=My c held;unfold m9;cases b with
 | false=>
  rw [hb,ob_];exact ⟨false,rfl,λe=>by cases e⟩
 | true=>
  obtain ⟨r,hr⟩:=m36_tot hb (most:=50) om_ om_;refine ⟨r.2 != 12,?_,λ_=>hb⟩;rw [hb,ob_,nt_,cf_,show (50:Int)=((50:Nat):Int) from rfl,hr];rfl
theorem FO {c:Aa} {held:M7} (hb:m35 FF c held=some true):(∃ e,e≠0/\m30 FF c held=some (zsp,e)/\m44 FF c held=some (zsp,e))\/(∃ sp,Sq c sp/\(∃ s0,Sp_ c s0 sp)/\m30 FF c held=some (sp,0)/\m44 FF c held=some (sp,0)):=by
 rcases FP hb with ⟨e,he,h1,h2⟩ | ⟨sp,hc,hhl,h1,h2,h3,h4,h5,h6⟩ | ⟨hc,hhl,h0,e,h3,h1,h2⟩
 ·exact .inl ⟨e,he,h1,h2⟩
 ·have hS:=expF_sp hc.rt.bd h5 h6 h3;exact .inr ⟨sp,hS.sq hc.rt.bd,⟨_,hS⟩,h1,h2⟩
 ·by_cases he:e=0
  ·subst he;exact absurd h3 (exp_ne trivial)
  ·exact .inl ⟨e,he,h1,h2⟩
end Go.Pn
namespace Go.Pn
open Go Go.Sort Go.Proofs
theorem D0 (x y:Ab):D1 x y=(x == y):=by
 rw [H8,beq_iff_eq];obtain ⟨a,b⟩:=x;obtain ⟨c,d⟩:=y;simp [D1]
end Go.Pn
namespace Go.Pn
open Go Go.Sort Go.Proofs
theorem awkF:m10 100000=some true:=by kernel_rfl
end Go.Pn
namespace Go.Pn
open Go Go.Sort Go.Proofs
theorem gt0 {l:M6}:decide ((l.length:Int) > 0)=!l.isEmpty:=by
 cases l with
 | nil=>rfl
 | cons y ys=>simp
section
variable {c d:Aa} {sa sb:Space}
theorem bT_em (h:Sq c sa) {s:FrT sa} {a:List Ab} (he:eT s=true):eT (bT h s a)=true:=by
 cases hq:eT (bT h s a) with
 | true=>rfl
 | false=>
  have h1:=(sd_T h s a).2 hq;rw [eT_em he] at h1;obtain ⟨i,hi,_⟩:=((Hb h (emT sa).2.rg ((emT sa).2.len h)).2.2 a).1 h1;exact absurd hi (by show ¬ i∈([]:M6);simp)
theorem DY (h:Sq c sa):∀ (l:List (List Ab)) {s:FrT sa},eT s=true->eT (l.foldl (bT h) s)=true
 | [],_,he=>he
 | _ :: l,_,he=>DY h l (bT_em h he)
end
end Go.Pn
namespace Go.Pn
open Go Go.Sort Go.Proofs
theorem Xf {α:Type}:∀ {t:List α},t≠[]->∃ u a,t=u ++ [a]
 | [],h=>(h rfl).elim
 | [a],_=>⟨[],a,rfl⟩
 | a :: b :: l,_=>by
  obtain ⟨u,c,h⟩:=Xf (t:=b :: l) smp_;exact ⟨a :: u,c,by rw [h];rfl⟩
end Go.Pn
namespace Go.Pn
open Go Go.Sort Go.Proofs
def Xd (sp:Space):Int->M6->List (List Ab)->Prop
 | _,[],t=>t=[]
 | i,k :: p,t=>∃ mv j t',idx sp.Moves i=some mv/\idx mv k=some j/\t=(if lab sp i j=[] then t' else lab sp i j :: t')/\Xd sp j p t'
def Vp_ (sp:Space):Int->M6->Prop
 | _,[]=>True
 | i,k :: p=>∃ mv j,idx sp.Moves i=some mv/\idx mv k=some j/\Vp_ sp j p
theorem Xd.len {sp:Space}:∀ {p:M6} {i:Int} {t:List (List Ab)},Xd sp i p t->t.length<=p.length
 | [],_,t,h=>by
  have h:t=[]:=h;rw [h];simp
 | k :: p,i,t,⟨mv,j,t',_,_,h3,h4⟩=>by
  have:=h4.len;rw [h3];split
  ·simp;omega
  ·simp;omega
section
variable {c:Aa} {sp:Space}
def Ui (sp:Space):List (List (List Ab)):=(List.range sp.Moves.length).map λi:Nat=>(sp.Moves.getD i []).map (lab sp i)
theorem EA:(Ui sp).length=sp.Moves.length:=by simp [Ui]
theorem Xv {i:Nat} {mv:M6} (h:sp.Moves[i]?=some mv):(Ui sp)[i]?=some (mv.map (lab sp i)):=by
 have hi:=(GZ.1 h).1;unfold Ui;rw [HJ,JC hi,HL,HH,h];rfl
theorem Ol {i:Nat} {mv:M6} {z:List (List (List Ab))} (h:Sq c sp) (hi:sp.Moves[i]?=some mv):∀ (n k:Nat) (acc:List (List Ab)),k<=mv.length->acc.length<=k->mv.length - k < n ->
  Vm FF (sp,(0:Int)) ((i:Int),z) mv n ((k:Int),acc)=some (.brk ((mv.length:Int),acc ++ (mv.drop k).map (lab sp i)))
 | 0,_,_,_,_,h=>by omega
 | n + 1,k,acc,hk,ha,hn=>by
  have hil:=(GZ.1 hi).1;obtain ⟨h22,hr⟩:=h.rows mv (G6 hi);rw [Vm];dsimp only;by_cases hlt:k < mv.length
  ·obtain ⟨r1,r2⟩:=hr mv[k] (G1 _);obtain ⟨e1,m1⟩:=Qm (sp:=sp) (i:=(i:Int)) om_ (by have:=h.ml;omega);obtain ⟨e2,m2⟩:=Qm (sp:=sp) r1 r2;rw [Aj,dt_ hlt,ct_,Ai,gE_ hlt,ob_,e1,ob_,e2,ob_,E4 h.bd (h.fit _ m1) (h.fit _ m2),ob_];dsimp only;rw [zf_,cf_,Aq so_,ob_,Am om_,Ol h hi n (k + 1) _ om_ so_ om_,G4 hlt];rw [HD,HN];rfl
  ·obtain rfl:k=mv.length:=by omega
   rw [Aj,df_ om_,cf_,JX];simp
theorem Oo (h:Sq c sp):∀ (n i:Nat),i<=sp.Moves.length->sp.Moves.length - i < n ->
  Vn FF (sp,(0:Int)) n ((i:Int),(Ui sp).take i)=some (.brk ((sp.Moves.length:Int),Ui sp))
 | 0,_,_,h=>by omega
 | n + 1,i,hi,hn=>by
  have hml:=h.ml;have hle:=h.le;rw [Vn];dsimp only;by_cases hlt:i < sp.Moves.length
  ·have hg:sp.Moves[i]?=some sp.Moves[i]:=gE_ hlt;obtain ⟨h22,_⟩:=h.rows _ (G6 hg);have e1:=Ol (z:=(Ui sp).take i) h hg FF 0 [] om_ smp_ uF;rw [n0,HA,J7] at e1;have e2:=Xv hg;have hs:i < (Ui sp).length:=by rw [EA];exact hlt
   rw [gE_ hs] at e2;have e2:=Option.some.inj e2;rw [Aj,dt_ hlt,ct_,Ai,hg,ob_,e1,ob_];dsimp only;rw [Aq so_,ob_,Am om_,← e2,LC hs];exact Oo h n (i + 1) om_ om_
  ·obtain rfl:i=sp.Moves.length:=by omega
   rw [Aj,df_ om_,cf_,H2 (by rw [EA];exact HB _)]
theorem FA {held:M7} (h:Sq c sp) (hx:m30 FF c held=some (sp,0)):m39 FF c held=some (some ⟨sp,Ui sp⟩,0):=by
 have hml:=h.ml;have hle:=h.le;unfold m39;rw [hx,ob_];dsimp only;have:=Oo h FF 0 om_ uF;rw [n0,LH] at this;rw [zf_,cf_,this];rfl
theorem Hu {α:Type} {l:List α} {i:Int} {x:α} (h:idx l i=some x):0<=i/\i < l.length:=by
 unfold idx at h;split at h
 ·have:=(GZ.1 h).1;omega
 ·cases h
theorem Ou (h:Sq c sp) {path:M6} (hl:path.length<=1000000000):∀ (n k:Nat) (i:Int),k<=path.length->path.length - k < n->0<=i->i < sp.States.length ->
  Lz sp path n (i,(k:Int))=some (.ret (0,6))\/(∃ z,Lz sp path n (i,(k:Int))=some (.brk z)/\Vp_ sp i (path.drop k))
 | 0,_,_,_,h,_,_=>by omega
 | n + 1,k,i,hk,hn,h0,h1=>by
  rw [Lz];dsimp only;by_cases hlt:k < path.length
  ·obtain ⟨mv,m1,m2,m3,m4,m5⟩:=Sr h h0 h1;rw [Aj,dt_ hlt,ct_,Ai,gE_ hlt,ob_,m1,ob_,ob_,G4 hlt];generalize path[k]=x;by_cases hx:x < 0
   ·rw [dt_ hx,ct_,ob_,ct_];exact .inl rfl
   ·rw [df_ hx,cf_,ob_];by_cases hx2:x>=(mv.length:Int)
    ·rw [dt_ hx2,ct_];exact .inl rfl
    ·rw [df_ hx2,cf_];obtain ⟨j,hj,hjm⟩:=Cw (xs:=mv) (i:=x) om_ om_;obtain ⟨j0,j1⟩:=m5 j hjm;rw [hj,ob_,Am om_];rcases Ou h hl n (k + 1) j om_ om_ j0 j1 with e | ⟨z,e,hv⟩
     ·exact .inl e
     ·exact .inr ⟨z,e,mv,j,m1,hj,hv⟩
  ·rw [Aj,df_ hlt,cf_];refine .inr ⟨_,rfl,?_⟩;rw [HF om_];trivial
theorem Hf (h:Sq c sp) {path:M6} (hl:path.length<=1000000000):∀ (n k:Nat) (i:Int) (acc:List (List Ab)),k<=path.length->path.length - k < n->0<=i->i < sp.States.length->Vp_ sp i (path.drop k)->acc.length<=k ->
  ∃ z z' t,Vl FF (some ⟨sp,Ui sp⟩) path n (i,(k:Int),acc)=some (z,z',acc ++ t)/\Xd sp i (path.drop k) t
 | 0,_,_,_,_,h,_,_,_,_=>by omega
 | n + 1,k,i,acc,hk,hn,h0,h1,hv,ha=>by
  rw [Vl];dsimp only;by_cases hlt:k < path.length
  ·rw [G4 hlt] at hv ⊢;obtain ⟨mv,j,v1,v2,v3⟩:=hv;have hi:i=((i.toNat:Nat):Int):=by omega
   have v1':sp.Moves[i.toNat]?=some mv:=by rw [hi,Ai] at v1;exact v1
   have hb:idx (Ui sp) i=some (mv.map (lab sp i)):=by
    have:=Xv v1';rw [← hi] at this;rw [hi,Ai,← hi];exact this
   obtain ⟨b0,b1⟩:=Hu v2;have hlb:idx (mv.map (lab sp i)) path[k]=some (lab sp i j):=by
    have e:path[k]=((path[k].toNat:Nat):Int):=by omega
    rw [e,Ai] at v2 ⊢;rw [HJ,v2];rfl
   obtain ⟨j0,j1⟩:=(h.rows mv (G6 v1')).2 j (Az v2);rw [Aj,dt_ hlt,ct_,Ai,gE_ hlt,ob_,ob_];dsimp only;rw [hb,ob_,hlb,ob_];by_cases he:lab sp i j=[]
   ·rw [he,show decide ((([]:List Ab).length:Int) > 0)=false from rfl,cf_,ob_,ob_];dsimp only;rw [v1,ob_,v2,ob_,Am om_];obtain ⟨z,z',t,e1,e2⟩:=Hf h hl n (k + 1) j acc om_ om_ j0 j1 v3 om_;exact ⟨z,z',t,e1,mv,j,t,v1,v2,by rw [if_pos he],e2⟩
   ·have hg:decide (((lab sp i j).length:Int) > 0)=true:=by
     cases hq:lab sp i j with
     | nil=>exact (he hq).elim
     | cons y ys=>simp
    obtain ⟨_,l6⟩:=Mo h (i:=i) (to:=j) h0 h1;have h78:m72 FF (lab sp i j)=some (lab sp i j):=by
     unfold m72;rw [Aq so_];rfl
    rw [hg,ct_,h78,ob_,Aq so_,ob_,ob_,ob_];dsimp only;rw [v1,ob_,v2,ob_,Am om_];obtain ⟨z,z',t,e1,e2⟩:=Hf h hl n (k + 1) j (acc ++ [lab sp i j]) om_ om_ j0 j1 v3 so_;refine ⟨z,z',lab sp i j :: t,?_,mv,j,t,v1,v2,by rw [if_neg he],e2⟩;rw [e1,HN];rfl
  ·rw [Aj,df_ hlt,cf_];refine ⟨_,_,[],by rw [H7],?_⟩;rw [HF om_];rfl
theorem m13_err {held:M7} {path:M6} {sp:Space} {e:Int} (he:e≠0) (hx:m30 FF c held=some (sp,e)):m13 FF c held path=some ([],e):=by
 unfold m13 m39;rw [hx,ob_];dsimp only;rw [nbb he,ct_,ob_];dsimp only;rw [nbb he,ct_]
def Clo_ (sp:Space) (l:M6):Prop:=∀ i∈l,∀ mv j,idx sp.Moves i=some mv->j∈mv->lab sp i j=[]->j∈l
theorem Cs.clo {l:M6} {S:Int->Prop} (h:Cs l (Sc sp S)):Clo_ sp l:=λi hi mv j h1 h2 h3=>(h.2 j).2 (.step ((h.2 i).1 hi) h1 h2 h3)
theorem Xd.tr (h:Sq c sp):∀ {p:M6} {i:Int} {t:List (List Ab)} {s:FrT sp},Xd sp i p t->i∈s.1->Clo_ sp s.1->Tr nT (bT h) (λ_=>false) s t (t.foldl (bT h) s)/\eT (t.foldl (bT h) s)=false
 | [],i,t,s,hp,hi,_=>by
  have hp:t=[]:=hp;subst hp;refine ⟨rfl,?_⟩;show s.1.isEmpty=false;cases hs:s.1 with
  | nil=>rw [hs] at hi;simp at hi
  | cons y ys=>rfl
 | k :: p,i,t,s,⟨mv,j,t',v1,v2,v3,v4⟩,hi,hc=>by
  by_cases he:lab sp i j=[]
  ·rw [if_pos he] at v3;subst v3;exact v4.tr h (hc i hi mv j v1 (Az v2) he) hc
  ·rw [if_neg he] at v3;subst v3;obtain ⟨_,hcs⟩:=Qz (l:=lab sp i j) h s.2.rg (by have:=s.2.len h;omega);have hj:j∈(bT h s (lab sp i j)).1:=(hcs.2 j).2 (.base ⟨i,hi,mv,v1,Az v2,he,rfl⟩);obtain ⟨k1,k2⟩:=v4.tr h (s:=bT h s (lab sp i j)) hj hcs.clo;refine ⟨⟨(sd_T h s _).2 ?_,rfl,k1⟩,k2⟩;show (bT h s (lab sp i j)).1.isEmpty=false;cases hs:(bT h s (lab sp i j)).1 with
   | nil=>rw [hs] at hj;simp at hj
   | cons y ys=>rfl
end
section
variable {c d:Aa} {sa sb:Space}
end
end Go.Pn
namespace Go.Pn
open Go Go.Sort Go.Proofs
section
variable {c:Aa} {sp:Space}
theorem Sc.one {S:Int->Prop} {j:Int}:Sc sp S j↔∃ k,S k/\Sc sp (·=k) j:=by
 constructor
 ·intro h
  induction h with
  | base h1=>exact ⟨_,h1,.base rfl⟩
  | step _ h2 h3 h4 ih=>
   obtain ⟨k,h5,h6⟩:=ih;exact ⟨k,h5,.step h6 h2 h3 h4⟩
 ·rintro ⟨k,h1,h2⟩;exact h2.bind λi hi=>.base (by rw [show i=k from hi];exact h1)
def Rs (sp:Space) (i j:Int):Prop:=∃ mv k,idx sp.Moves i=some mv/\k∈mv/\lab sp i k≠[]/\Sc sp (·=k) j
theorem bT_Rs (h:Sq c sp) {s:FrT sp} {l:List Ab} (hn:nT s=[l]) (j:Int):j∈(bT h s l).1↔∃ i,i∈s.1/\Rs sp i j:=by
 have h1:=(Qz (l:=l) h s.2.rg (by have:=s.2.len h;omega)).2;have h2:=(Hb h s.2.rg (s.2.len h)).2.2;have hn':nF sp s.1=[l]:=hn;have h3:j∈(bT h s l).1↔Sc sp (Bh sp s.1 l) j:=h1.2 j;rw [h3,Sc.one];constructor
 ·rintro ⟨k,⟨i,hi,mv,hm,hk,hne,hl⟩,hs⟩;exact ⟨i,hi,mv,k,hm,hk,by rw [hl];exact hne,hs⟩
 ·rintro ⟨i,hi,mv,k,hm,hk,hne,hs⟩;have h4:lab sp i k∈nF sp s.1:=(h2 _).2 ⟨i,hi,mv,hm,k,hk,rfl,hne⟩;rw [hn'] at h4;have h5:lab sp i k=l:=by simpa using h4
  exact ⟨k,⟨i,hi,mv,hm,hk,by rw [← h5];exact hne,h5⟩,hs⟩
theorem frT_ext {s t:FrT sp} (h:∀ j,j∈s.1↔j∈t.1):s=t:=
 Subtype.ext (pw_eq (λa=>Int.lt_irrefl a) (λ_ _ _=>LL) s.2.pw t.2.pw h)
def lb1 (s:FrT sp):List Ab:=(nT s).headD []
theorem Zw {s:FrT sp} (h:(nT s).length=1):nT s=[lb1 s]:=by
 unfold lb1;cases hs:nT s with
 | nil=>rw [hs] at h;simp at h
 | cons a l=>
  rw [hs] at h;obtain rfl:l=[]:=JN.1 (by simpa using h);rfl
def crs (h:Sq c sp):Nat->FrT sp
 | 0=>zT h
 | n + 1=>bT h (crs h n) (lb1 (crs h n))
theorem AN (h:Sq c sp):∀ n,(∀ i,i < n->(nT (crs h i)).length=1)->∀ j,j∈(crs h n).1↔Rkk (Rs sp) (Sc sp (·=0)) n j
 | 0,_,j=>(Ew h).2.2.2 j
 | n + 1,hu,j=>by
  rw [crs,bT_Rs h (Zw (hu n om_))];constructor
  ·rintro ⟨i,h1,h2⟩;exact ⟨i,(AN h n (λi hi=>hu i om_) i).1 h1,h2⟩
  ·rintro ⟨i,h1,h2⟩;exact ⟨i,(AN h n (λi hi=>hu i om_) i).2 h1,h2⟩
theorem rk_rng (h:Sq c sp):∀ {n:Nat} {j:Int},Rkk (Rs sp) (Sc sp (·=0)) n j->0<=j/\j < sp.States.length
 | 0,j,hj=>Sc.rng h (λi hi=>by have:=h.pos;subst hi;omega) hj
 | n + 1,j,⟨i,_,mv,k,hm,hk,_,hs⟩=>Sc.rng h (λi hi=>by
   subst hi;exact (h.rows _ (Az hm)).2 _ hk) hs
def En (h:Sq c sp) (n:Nat):Prop:=(∃ i,i < n/\crs h i=crs h n)\/(nT (crs h n)).length≠1
theorem crs_end (h:Sq c sp) (hN:sp.States.length<=50):∃ n,n<=9191730/\En h n/\∀ m,m < n->¬ En h m:=by
 have h1:∃ n,n<=9191730/\En h n:=by
  refine Classical.byContradiction λhc=>?_;have hu:∀ i,i<=9191730->(nT (crs h i)).length=1:=λi hi=>by
   refine Classical.byContradiction λhe=>hc ⟨i,hi,.inr he⟩
  obtain ⟨i,j,hij,hj,he⟩:=Rkk.back (R:=Rs sp) (S:=Sc sp (·=0)) (Q:=(List.range sp.States.length).map λn:Nat=>(n:Int)) (λi q hq=>by
   have:=rk_rng h hq;exact H6.2 ⟨q.toNat,HC.2 om_,by omega⟩) (by simp;exact hN)
  refine hc ⟨j,hj,.inl ⟨i,hij,frT_ext λq=>?_⟩⟩;rw [AN h i (λk hk=>hu k om_),AN h j (λk hk=>hu k om_)];exact he q
 obtain ⟨n,hn,he⟩:=h1;obtain ⟨d,hd,hm⟩:=DN (P:=En h) n he;refine ⟨d,?_,hd,hm⟩;have:¬ n < d:=λhl=>hm n hl he;omega
theorem nEn {h:Sq c sp} {m:Nat} (hm:¬ En h m):(nT (crs h m)).length=1/\∀ i,i < m->crs h i≠crs h m:=
 ⟨Classical.byContradiction λe=>hm (.inr e),λi hi e=>hm (.inl ⟨i,hi,e⟩)⟩
def ec (at' n i:Nat):Nat:=if i < at' then i else at' + (i - at') % (n - at')
theorem ec_lt {a n i:Nat} (h:a < n):ec a n i < n:=by
 unfold ec;split
 ·omega
 ·have:=ME (i - a) (show 0 < n - a by omega);omega
theorem ec_succ {a n i:Nat} (h:a < n):ec a n (i + 1)=if ec a n i + 1 < n then ec a n i + 1 else a:=by
 unfold ec;by_cases h1:i < a
 ·rw [if_pos h1];by_cases h2:i + 1 < a
  ·rw [if_pos h2,if_pos om_]
  ·rw [if_neg h2,if_pos om_,show i + 1 - a=0 by omega,Nat.zero_mod];omega
 ·rw [if_neg h1,if_neg om_,show i + 1 - a=i - a + 1 by omega];have hm:=ME (i - a) (show 0 < n - a by omega);by_cases h2:(i - a) % (n - a) + 1 < n - a
  ·rw [if_pos om_,← LX,LB h2];omega
  ·rw [if_neg om_,← LX,show (i - a) % (n - a) + 1=n - a by omega,Nat.mod_self];omega
theorem BO (h:Sq c sp) {a n:Nat} (ha:a < n) (he:crs h a=crs h n) (hm:∀ m,m < n->¬ En h m):∀ {t:List (List Ab)} {i:Nat} {x:FrT sp},Tr nT (bT h) (λ_=>false) (crs h (ec a n i)) t x->(∀ k (hk:k < t.length),t[k]=lb1 (crs h (ec a n (i + k))))/\x=crs h (ec a n (i + t.length))
 | [],i,x,ht=>⟨λk hk=>by simp at hk,ht.symm⟩
 | b :: t,i,x,⟨h1,_,h3⟩=>by
  have hl:=Zw (nEn (hm _ (ec_lt (i:=i) ha))).1;rw [hl] at h1;obtain rfl:b=lb1 (crs h (ec a n i)):=by simpa using h1
  have hs:bT h (crs h (ec a n i)) (lb1 (crs h (ec a n i)))=crs h (ec a n (i + 1)):=by
   rw [ec_succ ha];by_cases h2:ec a n i + 1 < n
   ·rw [if_pos h2];rfl
   ·rw [if_neg h2,he];have:=ec_lt (i:=i) ha;have h4:n=ec a n i + 1:=by omega
    exact (congrArg (crs h) h4).symm
  rw [hs] at h3;obtain ⟨k1,k2⟩:=BO h ha he hm h3;refine ⟨λk hk=>?_,?_⟩
  ·cases k with
   | zero=>rfl
   | succ k=>
    have:=k1 k (by simpa using hk);rw [List.getElem_cons_succ,this,show i + 1 + k=i + (k + 1) by omega]
  ·rw [k2,JW,show i + 1 + t.length=i + (t.length + 1) by omega]
theorem BN (h:Sq c sp) {n:Nat} (he:nT (crs h n)=[]) (hm:∀ m,m < n->¬ En h m):∀ {t:List (List Ab)} {i:Nat} {x:FrT sp},i<=n->Tr nT (bT h) (λ_=>false) (crs h i) t x->i + t.length<=n/\(∀ k (hk:k < t.length),t[k]=lb1 (crs h (i + k)))/\x=crs h (i + t.length)
 | [],i,x,hi,ht=>⟨hi,λk hk=>by simp at hk,ht.symm⟩
 | b :: t,i,x,hi,⟨h1,_,h3⟩=>by
  by_cases hn:i=n
  ·subst hn;rw [he] at h1;simp at h1
  ·have hl:=Zw (nEn (hm i om_)).1;rw [hl] at h1;obtain rfl:b=lb1 (crs h i):=by simpa using h1
   have h3:Tr nT (bT h) (λ_=>false) (crs h (i + 1)) t x:=h3;obtain ⟨k0,k1,k2⟩:=BN h he hm om_ h3;refine ⟨by simp;omega,λk hk=>?_,?_⟩
   ·cases k with
    | zero=>rfl
    | succ k=>
     have:=k1 k (by simpa using hk);rw [List.getElem_cons_succ,this,show i + 1 + k=i + (k + 1) by omega]
   ·rw [k2,JW,show i + 1 + t.length=i + (t.length + 1) by omega]
end
end Go.Pn
namespace Go.Pn
open Go Go.Sort Go.Proofs
theorem EZ {f:Nat} (a b:Int):m75 f a b=some (if a < b then -1 else if b < a then 1 else 0):=by
 unfold m75 O4;simp only [bne_self_eq_false,ob_,cf_];by_cases h:a < b
 ·rw [dt_ h,ct_,if_pos h]
 ·rw [df_ h,cf_,if_neg h];by_cases h2:b < a
  ·rw [show decide (a > b)=true from dt_ h2,ct_,if_pos h2]
  ·rw [show decide (a > b)=false from df_ h2,cf_,if_neg h2]
def sdz (a b:Ab):Int:=if sd a b < 0 then -1 else if 0 < sd a b then 1 else 0
theorem Yf {a b:Ab}:sdz a b=0↔sd a b=0:=by unfold sdz; split <;> (try split) <;> omega
theorem E3 {f:Nat} (a b:Ab):m74 f a b=some (sdz a b):=by
 obtain ⟨x,p⟩:=a;obtain ⟨y,q⟩:=b;unfold m74;rw [EZ,ob_];dsimp only;by_cases h:x=y
 ·subst h;cases p <;> cases q <;> simp [sdz,sd]
 ·have h0:sd ⟨x,p⟩ ⟨y,q⟩=x - y:=by unfold sd;rw [if_neg h]
  unfold sdz;rw [h0];by_cases h1:x < y
  ·rw [if_pos h1,if_pos om_];rfl
  ·rw [if_neg h1,if_pos om_,if_neg om_,if_pos om_];rfl
def clz:List Ab->List Ab->Option Int
 | [],_=>none
 | _ :: _,[]=>some 1
 | a :: l,b :: m=>if sd a b=0 then clz l m else some (sdz a b)
theorem GA:∀ (a b:List Ab),lcz a b=match clz a b with | some r=>r | none=>if a.length < b.length then -1 else 0
 | [],[]=>rfl
 | [],_ :: _=>by simp [lcz,lcs,clz]
 | _ :: _,[]=>rfl
 | a :: l,b :: m=>by
  have ih:=GA l m;unfold clz;by_cases h:sd a b=0
  ·have h1:lcz (a :: l) (b :: m)=lcz l m:=by unfold lcz;rw [show lcs (a :: l) (b :: m)=lcs l m by rw [lcs,if_pos h]]
   rw [if_pos h,h1,ih];cases clz l m with
   | some r=>rfl
   | none=>simp
  ·have h1:lcs (a :: l) (b :: m)=sd a b:=by rw [lcs,if_neg h]
   rw [if_neg h];unfold lcz sdz;rw [h1]
theorem FH {a b:List Ab}:lcz a b=0↔a=b:=by
 rw [← Aw];unfold lcz;split <;> (try split) <;> omega
theorem Nw {f:Nat} {v0 v1:List Ab} (hl:v0.length<=100000000):∀ (n i:Nat),i<=v0.length->v0.length - i < n ->
  Vb f v0 v1 n i=some (match clz (v0.drop i) (v1.drop i) with | some r=>.ret r | none=>.brk (v0.length:Int))
 | 0,i,_,h=>by omega
 | n + 1,i,hi,hn=>by
  rw [Vb];by_cases hlt:i < v0.length
  ·rw [Aj,dt_ hlt,ct_,Ai,gE_ hlt,ob_,G4 hlt];by_cases h2:i < v1.length
   ·rw [show decide ((i:Int)>=(v1.length:Int))=false by simp;omega,cf_,Ai,gE_ h2,ob_,E3,ob_,G4 h2];unfold clz;by_cases h3:sd v0[i] v1[i]=0
    ·rw [Yf.2 h3,if_pos h3,zf_,cf_,Am om_,Nw hl n (i + 1) om_ om_]
    ·rw [if_neg h3,show (sdz v0[i] v1[i] != 0)=true by rw [bne_iff_ne];exact λe=>h3 (Yf.1 e),ct_]
   ·rw [show decide ((i:Int)>=(v1.length:Int))=true by simp;omega,ct_,HF (by omega:v1.length<=i)];rfl
  ·obtain rfl:i=v0.length:=by omega
   rw [Aj,df_ om_,cf_,JX];rfl
theorem Je {v0 v1:List Ab} (hl:v0.length<=10000):m42 FF v0 v1=some (lcz v0 v1):=by
 unfold m42 m73;have:=Nw (f:=FF) (v0:=v0) (v1:=v1) om_ FF 0 om_ uF;rw [n0,HA,HA] at this;rw [this,GA];cases clz v0 v1 with
 | some r=>rfl
 | none=>
  rw [ob_];dsimp only;by_cases h:v0.length < v1.length
  ·rw [if_pos h,show decide ((v0.length:Int) < (v1.length:Int))=true by simp;omega];rfl
  ·rw [if_neg h,show decide ((v0.length:Int) < (v1.length:Int))=false by simp;omega];rfl
theorem beq0 {a b:List Ab}:(lcz a b == 0)=decide (a=b):=by rw [H8];simp [FH]
theorem Zj {v0 v1:List Ab} (hl:v0.length<=10000):m41 FF v0 v1=some (decide (v0=v1)):=by
 unfold m41;rw [Je hl,ob_,beq0]
theorem m88_eqT {xs:List (List Ab)} (h:∀ x∈xs,x.length<=10000):EqT (m88 FF) xs:=λx hx y hy=>by
 unfold m88;rw [Je (h x hx),ob_,beq0]
theorem EX {v:List (List Ab)} (h:∀ x∈v,x.length<=10000) (hl:v.length<=10000):m86 FF v=some (Ms (ltOf lcs) v):=by
 unfold m86;rw [dt_ om_,JJ];have:v.all (λx=>v.all λy=>m42 FF x y == some (lcz x y))=true:=by
  rw [G5];intro x hx;rw [G5];intro y hy;rw [Je (h x hx)];simp
 rw [this,ct_,Nb]
theorem cpl2 {E:List Ab->List Ab->Option Bool} {L:Nat->(Int×Int×List (List Ab))->Option (Int×Int×List (List Ab))} {v:List (List Ab)} {k:Nat} (hE:EqT E v) (hl:v.length<=10000000)
  (hL:∀ n z7,L (n + 1) z7=(bif (decide (z7.2.1 < ((v.length - k:Nat):Int))) then (Xb z7.2.2 (k,v.length) z7.2.1).bind λx9=>(Xb z7.2.2 (k,v.length) (wr (z7.2.1 - 1))).bind λx10=>(E x9 x10).bind λx11=>(bif (!x11) then (Xb z7.2.2 (k,v.length) z7.2.1).bind λx13=>(idx z7.2.2 z7.1).bind λx14=>some ((wr (z7.1 + 1)),(z7.2.2.set z7.1.toNat x13)) else some (z7.1,z7.2.2)).bind λz12=>L n (z12.1,(wr (z7.2.1 + 1)),z12.2) else some (z7.1,z7.2.1,z7.2.2))) :
  ∀ (n k2 kk:Nat) (zs:List (List Ab)),1<=k2->k + k2<=v.length->v.length - (k + k2) < n->Ci v zs (k + k2) kk->∃ (kk':Nat) (zs':List (List Ab)) (j:Int),L n ((kk:Int),(k2:Int),zs)=some ((kk':Int),j,zs')/\Ci v zs' v.length kk'
 | 0,_,_,_,_,_,h,_=>by omega
 | n + 1,k2,kk,zs,h1,h2,h3,hI=>by
  rw [hL];dsimp only;have hzl:=hI.len;have hkk:=hI.lt;by_cases hlt:k + k2 < v.length
  ·have e1:zs[k + k2]'om_=v[k + k2]:=by
    have:=hI.hi (k + k2) om_;rw [gE_ om_,gE_ hlt] at this;exact Option.some.inj this
   have e2:zs[k + (k2 - 1)]'om_=v[k + k2 - 1]'om_:=by
    have:=hI.hi (k + (k2 - 1)) om_;rw [gE_ om_,gE_ om_] at this;have h4:=Option.some.inj this;rw [h4];congr 1;omega
   have hw:wr ((k2:Int) - 1)=((k2 - 1:Nat):Int):=by rw [As om_ om_];omega
   have i1:Xb zs (k,v.length) (k2:Int)=some v[k + k2]:=by
    have:=DQ (xs:=zs) (k:=k) (n:=v.length) (j:=k2) om_ om_;rw [this,e1]
   have i2:Xb zs (k,v.length) ((k2 - 1:Nat):Int)=some (v[k + k2 - 1]'om_):=by
    have:=DQ (xs:=zs) (k:=k) (n:=v.length) (j:=k2 - 1) om_ om_;rw [this,e2]
   rw [show decide ((k2:Int) < ((v.length - k:Nat):Int))=true by simp;omega,ct_,i1,ob_,hw,i2,ob_,hE _ (G1 _) _ (G1 _),ob_];have hst:=Wx (l:=v) (i:=k + k2) om_ hlt;by_cases he:v[k + k2]=v[k + k2 - 1]'om_
   ·rw [dt_ he,J3,cf_,ob_,Am om_];refine cpl2 hE hl hL n (k2 + 1) kk zs om_ om_ om_ ⟨hzl,by omega,λj hj=>hI.hi j om_,?_⟩;rw [show k + (k2 + 1)=k + k2 + 1 by omega,hst,if_pos he.symm];exact hI.tk
   ·rw [df_ he,J2,ct_,ob_,Ai,gE_ om_,ob_,ob_,Am om_,Am om_,HO];refine cpl2 hE hl hL n (k2 + 1) (kk + 1) (zs.set kk v[k + k2]) om_ om_ om_ ⟨by simp [hzl],by omega,λj hj=>?_,?_⟩
    ·rw [JE om_];exact hI.hi j om_
    ·rw [show k + (k2 + 1)=k + k2 + 1 by omega,hst,if_neg λe=>he e.symm,← hI.tk];have hk:kk < (zs.set kk v[k + k2]).length:=by simp;omega
     rw [← LC hk];have e3:(zs.set kk v[k + k2]).take kk=zs.take kk:=by
      refine JF λj=>?_;rw [J9,J9];split
      ·rw [JE om_]
      ·rfl
     rw [e3];simp
  ·have hN:k + k2=v.length:=by omega
   rw [show decide ((k2:Int) < ((v.length - k:Nat):Int))=false by simp;omega,cf_];rw [hN] at hI;exact ⟨kk,zs,(k2:Int),rfl,hI⟩
theorem cpg {E:List Ab->List Ab->Option Bool} {L1:Nat->Int->Option (Lo Int (List (List Ab)×List (List Ab)))} {L2:Nat×Nat->Nat->(Int×Int×List (List Ab))->Option (Int×Int×List (List Ab))} {v:List (List Ab)} (hE:EqT E v) (hl:v.length<=10000)
  (hL2:∀ x6 n z7,L2 x6 (n + 1) z7=(bif (decide (z7.2.1 < ((x6.2 - x6.1:Nat):Int))) then (Xb z7.2.2 x6 z7.2.1).bind λx9=>(Xb z7.2.2 x6 (wr (z7.2.1 - 1))).bind λx10=>(E x9 x10).bind λx11=>(bif (!x11) then (Xb z7.2.2 x6 z7.2.1).bind λx13=>(idx z7.2.2 z7.1).bind λx14=>some ((wr (z7.1 + 1)),(z7.2.2.set z7.1.toNat x13)) else some (z7.1,z7.2.2)).bind λz12=>L2 x6 n (z12.1,(wr (z7.2.1 + 1)),z12.2) else some (z7.1,z7.2.1,z7.2.2)))
  (hL1:∀ n z1,L1 (n + 1) z1=(bif (decide (z1 < (v.length:Int))) then (idx v z1).bind λx3=>(idx v (wr (z1 - 1))).bind λx4=>(E x3 x4).bind λx5=>(bif x5 then (lsr z1 (v.length:Int) (v.length:Int)).bind λx6=>(L2 x6 FF (z1,(1:Int),v)).bind λo8s=>(lsr o8s.1 (o8s.2.2.length:Int) (o8s.2.2.length:Int)).bind λx15=>(lsl (o8s.2.2.take x15.1 ++ (List.replicate (x15.2 - x15.1) ([]:List Ab) ++ o8s.2.2.drop (x15.1 + (x15.2 - x15.1)))) 0 o8s.1).bind λx16=>some (.ret (x16,x16)) else L1 n (wr (z1 + 1))) else some (.brk z1))) :
  ∀ (n i:Nat),1<=i->i<=v.length->v.length - i < n->(∀ j,0 < j->j < i->(h:j < v.length)->v[j]≠v[j - 1]'om_)->((∃ z,L1 n (i:Int)=some (.brk z))/\Cr v=v)\/L1 n (i:Int)=some (.ret (Cr v,Cr v))
 | 0,_,_,_,h,_=>by omega
 | n + 1,i,h1,h2,h3,hn=>by
  rw [hL1];by_cases hlt:i < v.length
  ·have hw:wr ((i:Int) - 1)=((i - 1:Nat):Int):=by rw [As om_ om_];omega
   rw [Aj,dt_ hlt,ct_,Ai,gE_ hlt,ob_,hw,Ai,gE_ om_,ob_,hE _ (G1 _) _ (G1 _),ob_];by_cases he:v[i]=v[i - 1]'om_
   ·right;have hr:lsr (i:Int) (v.length:Int) (v.length:Int)=some (i,v.length):=by
     unfold lsr;rw [if_pos ⟨by omega,by omega,by omega⟩,HO,HO]
    have hself:Cr (v.take i)=v.take i:=Qu λj hj hl=>by
     rw [List.getElem_take,List.getElem_take];rw [JV] at hl;exact hn j hj om_ om_
    obtain ⟨kk,zs,j,e1,hI⟩:=cpl2 (k:=i) hE om_ (λn z7=>hL2 (i,v.length) n z7) FF 1 i v om_ om_ uF ⟨rfl,by omega,λ_ _=>rfl,by rw [Wx om_ hlt,if_pos he.symm,hself]⟩;have e1:L2 (i,v.length) FF ((i:Int),(1:Int),v)=some ((kk:Int),j,zs):=e1;have hzl:=hI.len;have hkk:=hI.lt;rw [dt_ he,ct_,hr,ob_,e1,ob_];dsimp only;have hr2:lsr (kk:Int) (zs.length:Int) (zs.length:Int)=some (kk,zs.length):=by
     unfold lsr;rw [if_pos ⟨by omega,by omega,by omega⟩,HO,HO]
    rw [hr2,ob_];dsimp only;have hs:lsl (zs.take kk ++ (List.replicate (zs.length - kk) ([]:List Ab) ++ zs.drop (kk + (zs.length - kk)))) 0 (kk:Int)=some (zs.take kk):=by
     have hl1:(zs.take kk).length=kk:=by rw [JV];omega
     unfold lsl;rw [if_pos ⟨by omega,by omega,by simp;omega⟩];simp only [Int.toNat_zero,HA,HO,MG];rw [List.take_append_of_le_length om_,H2 om_]
    rw [hs,ob_,hI.tk,LM]
   ·rw [df_ he,cf_,Am om_];refine cpg hE hl hL2 hL1 n (i + 1) om_ om_ om_ λj hj hji hjl=>?_;rcases JQ (J6 hji) with h | h
    ·exact hn j hj h hjl
    ·subst h;exact he
  ·left;rw [Aj,df_ hlt,cf_];exact ⟨⟨_,rfl⟩,Qu λj hj hjl=>hn j hj om_ hjl⟩
theorem EW {v:List (List Ab)} (h:∀ x∈v,x.length<=10000) (hl:v.length<=10000):m87 FF v=some (Cr v,Cr v):=by
 unfold m87;by_cases h2:v.length < 2
 ·rw [show decide ((v.length:Int) < 2)=true by simp;omega,ct_]
  match v,h2 with
  | [],_=>rfl
  | [_],_=>rfl
 ·rw [show decide ((v.length:Int) < 2)=false by simp;omega,cf_];rcases cpg (L1:=Ru FF v) (L2:=Ys FF) (m88_eqT h) hl (λ_ _ _=>rfl) (λ_ _=>rfl) FF 1 om_ om_ uF (λj hj hj1=>by omega) with ⟨⟨z,hz⟩,hc⟩ | hz
  ·have hz:Ru FF v FF 1=some (.brk z):=hz;rw [hz,hc];rfl
  ·have hz:Ru FF v FF 1=some (.ret (Cr v,Cr v)):=hz;rw [hz];rfl
end Go.Pn
namespace Go.Pn
open Go Go.Sort Go.Proofs
def Pw_ (sp:Space):Int->M6->List (List Ab)->Int->Prop
 | i,[],t,j=>t=[]/\j=i
 | i,k :: p,t,j=>∃ mv m t',idx sp.Moves i=some mv/\idx mv k=some m/\t=(if lab sp i m=[] then t' else lab sp i m :: t')/\Pw_ sp m p t' j
theorem Pw_.pth {sp:Space}:∀ {p:M6} {i j:Int} {t:List (List Ab)},Pw_ sp i p t j->Xd sp i p t
 | [],_,_,_,h=>h.1
 | _ :: _,_,_,_,⟨mv,m,t',h1,h2,h3,h4⟩=>⟨mv,m,t',h1,h2,h3,h4.pth⟩
theorem Pw_.snoc {sp:Space} {k m:Int} {mv:M6}:∀ {p:M6} {i j:Int} {t:List (List Ab)},Pw_ sp i p t j->idx sp.Moves j=some mv->idx mv k=some m->Pw_ sp i (p ++ [k]) (if lab sp j m=[] then t else t ++ [lab sp j m]) m
 | [],i,j,t,⟨h1,h2⟩,h3,h4=>by
  subst h1 h2;exact ⟨mv,m,[],h3,h4,by split <;> rfl,rfl,rfl⟩
 | a :: p,i,j,t,⟨mv',m',t',h1,h2,h3,h4⟩,h5,h6=>by
  refine ⟨mv',m',_,h1,h2,?_,h4.snoc h5 h6⟩;subst h3;by_cases e:lab sp j m=[]
  ·rw [if_pos e,if_pos e]
  ·rw [if_neg e,if_neg e];split
   ·rfl
   ·rfl
theorem Xd.uniq {sp:Space}:∀ {p:M6} {i:Int} {t t':List (List Ab)},Xd sp i p t->Xd sp i p t'->t=t'
 | [],_,_,_,h,h'=>h.trans h'.symm
 | _ :: _,_,_,_,⟨mv,m,t1,h1,h2,h3,h4⟩,⟨mv',m',t2,k1,k2,k3,k4⟩=>by
  rw [h1] at k1;obtain rfl:=Option.some.inj k1;rw [h2] at k2;obtain rfl:=Option.some.inj k2;rw [h3,k3,h4.uniq k4]
theorem Pw_.vp {sp:Space}:∀ {p:M6} {i j:Int} {t:List (List Ab)},Pw_ sp i p t j->Vp_ sp i p
 | [],_,_,_,_=>trivial
 | _ :: _,_,_,_,⟨mv,m,_,h1,h2,_,h4⟩=>⟨mv,m,h1,h2,h4.vp⟩
theorem Vp_.pth {sp:Space}:∀ {p:M6} {i:Int},Vp_ sp i p->∃ t,Xd sp i p t
 | [],_,_=>⟨[],rfl⟩
 | _ :: _,i,⟨mv,m,h1,h2,h3⟩=>let ⟨t,h4⟩:=h3.pth;⟨_,mv,m,t,h1,h2,rfl,h4⟩
theorem Gg {ν:Type} {k:Int}:∀ {m:List (Int×ν)} {i:Nat},Bj Dr k m i=none↔k ∉ m.map (·.1)
 | [],_=>by simp [Bj]
 | (a,v) :: m,i=>by
  unfold Bj Dr;by_cases h:k=a
  ·subst h;simp
  ·have ih:=Gg (k:=k) (m:=m) (i:=i + 1);rw [show (k == a)=false by simpa using h];simp only [Bool.false_eq_true,if_false];rw [show (λa b:Int=>a == b)=Dr from rfl] at *;rw [ih];simp [h]
theorem ES {ν:Type} {k:Int} {m:List (Int×ν)}:mat Dr m k=none↔k ∉ m.map (·.1):=by
 unfold mat
 rw [Option.map_eq_none_iff,Gg]
theorem Te {ν:Type} {k:Int} {m:List (Int×ν)} {y:ν} (h:k ∉ m.map (·.1)):Dy Dr m k y=m ++ [(k,y)]:=by
 unfold Dy;rw [Gg.2 h]
theorem Xk {ν:Type} {k:Int} {m:List (Int×ν)} (h:k∈m.map (·.1)):∃ y,mat Dr m k=some y/\(k,y)∈m:=by
 unfold mat
 cases hf:Bj Dr k m 0 with
 | none=>exact absurd h (Gg.1 hf)
 | some q=>
  obtain ⟨j,y⟩:=q;obtain ⟨k',_,h2,h3⟩:=Dl hf;have:k=k':=by
   unfold Dr at h3;simpa using h3
  subst this;exact ⟨y,rfl,G6 h2⟩
theorem Ko {ν:Type} {k:Int} {m:List (Int×ν)}:(mat Dr m k).isSome=decide (k∈m.map (·.1)):=by
 by_cases h:k∈m.map (·.1)
 ·obtain ⟨y,h1,_⟩:=Xk h;rw [h1,dt_ h];rfl
 ·rw [ES.2 h,df_ h];rfl
structure Fq (sp:Space) (t:List (List Ab)) (B:Nat) (m:List (Int×M6)):Prop where
 nd:(m.map (·.1)).Nodup
 pw:∀ e∈m,Pw_ sp 0 e.2 t e.1/\e.2.length<=B
section
variable {c:Aa} {sp:Space}
theorem Fq.get {t:List (List Ab)} {B:Nat} {m:List (Int×M6)} (h:Fq sp t B m) {k:Int} (hk:k∈m.map (·.1)):∃ p,mat Dr m k=some p/\Pw_ sp 0 p t k/\p.length<=B:=by
 obtain ⟨p,h1,h2⟩:=Xk hk;exact ⟨p,h1,h.pw _ h2⟩
theorem Fq.len {t:List (List Ab)} {B:Nat} {m:List (Int×M6)} (h:Fq sp t B m) (hr:∀ k:Int,k∈m.map (·.1)->0<=k/\k < sp.States.length):m.length<=sp.States.length:=by
 have:=Gf sp.States.length h.nd hr;simpa using this
theorem FK {l:M6} (h:l.Nodup):Cs (isort l) (·∈l):=by
 have h1:=isort_pw l;have h2:(isort l).Nodup:=(isort_perm l).nodup_iff.2 h;refine ⟨?_,λx=>(isort_perm l).mem_iff⟩;refine List.Pairwise.imp_of_mem ?_ (h1.and h2);intro a b _ _ hab;obtain ⟨h3,h4⟩:=hab;have:a≠b:=h4;omega
theorem Zh {m:List (Int×M6)} {S:Int->Prop} (hn:(m.map (·.1)).Nodup) (hl:m.length<=400) (hS:∀ j,j∈m.map (·.1)↔S j):∃ l,m51 FF m=some l/\Cs l S:=by
 refine ⟨isort (m.map (·.1)),?_,(FK hn).iff hS⟩;unfold m51;rw [if_pos uF];unfold m82;rw [if_pos so_]
theorem Qc {σ:Type} {gy:(Int×Int)×List Ab->σ->Option (Bool×σ)} (h:Sq c sp) {i:Int} {mv:M6} (hi:idx sp.Moves i=some mv) {I:Nat->σ->Prop} {J:σ->Prop}
  (step:∀ (k:Nat) (m:Int) (s:σ),mv[k]?=some m->I k s->∃ b s',gy (((k:Int),m),lab sp i m) s=some (b,s')/\(b=true->I (k + 1) s')/\(b=false->J s')) :
  ∀ (n k:Nat) (s:σ),k<=mv.length->mv.length - k < n->I k s->(∃ s',Lh gy (some ⟨sp,Ui sp⟩) i mv n ((k:Int),s)=some (.brk ((mv.length:Int),s'))/\I mv.length s')\/∃ s',Lh gy (some ⟨sp,Ui sp⟩) i mv n ((k:Int),s)=some (.ret s')/\J s'
 | 0,_,_,_,h,_=>by omega
 | n + 1,k,s,hk,hn,hI=>by
  have hml:=h.ml;obtain ⟨h22,_⟩:=h.rows mv (Az hi);obtain ⟨i0,i1⟩:=Hu hi;rw [Lh];dsimp only;by_cases hlt:k < mv.length
  ·have hg:mv[k]?=some mv[k]:=gE_ hlt;have hb:idx (Ui sp) i=some (mv.map (lab sp i)):=by
    have e:i=((i.toNat:Nat):Int):=by omega
    have hm:sp.Moves[i.toNat]?=some mv:=by
     rw [e,Ai] at hi;exact hi
    have:=Xv hm;rw [← e] at this;rw [e,Ai,← e];exact this
   have hlk:(mv.map (lab sp i))[k]?=some (lab sp i mv[k]):=by rw [HJ,hg];rfl
   obtain ⟨b,s',e1,e2,e3⟩:=step k mv[k] s hg hI;rw [Aj,dt_ hlt,ct_,Ai,hg,ob_,ob_];dsimp only;rw [hb,ob_,Ai,hlk,ob_,e1,ob_];dsimp only;cases b with
   | true=>
    rw [J3,cf_,Am om_];exact Qc h hi step n (k + 1) s' om_ om_ (e2 rfl)
   | false=>
    rw [J2,ct_];exact .inr ⟨s',rfl,e3 rfl⟩
  ·obtain rfl:k=mv.length:=by omega
   rw [Aj,df_ om_,cf_];exact .inl ⟨s,rfl,hI⟩
theorem Na {σ:Type} {gy:(Int×Int)×List Ab->σ->Option (Bool×σ)} (h:Sq c sp) {i:Int} {mv:M6} (hi:idx sp.Moves i=some mv) (I:Nat->σ->Prop) (J:σ->Prop)
  (step:∀ (k:Nat) (m:Int) (s:σ),mv[k]?=some m->I k s->∃ b s',gy (((k:Int),m),lab sp i m) s=some (b,s')/\(b=true->I (k + 1) s')/\(b=false->J s'))
  {s:σ} (h0:I 0 s):∃ s',R8 gy FF (some ⟨sp,Ui sp⟩) i s=some s'/\(I mv.length s'\/J s'):=by
 obtain ⟨h22,_⟩:=h.rows mv (Az hi);unfold R8;rw [ob_];dsimp only;rw [hi,ob_];rcases Qc h hi step FF 0 s om_ uF h0 with ⟨s',e,hI⟩ | ⟨s',e,hJ⟩
 ·rw [n0] at e;rw [e];exact ⟨s',rfl,.inl hI⟩
 ·rw [n0] at e;rw [e];exact ⟨s',rfl,.inr hJ⟩
end
end Go.Pn
namespace Go.Pn
open Go Go.Sort Go.Proofs
def Clk (sp:Space) (m:List (Int×M6)) (i:Int):Prop:=∀ mv j,idx sp.Moves i=some mv->j∈mv->lab sp i j=[]->j∈m.map (·.1)
structure Sl_ (sp:Space) (S:Int->Prop) (t:List (List Ab)) (B:Nat) (m:List (Int×M6)) (q:M6):Prop where
 nd:(m.map (·.1)).Nodup
 pw:∀ e∈m,Pw_ sp 0 e.2 t e.1/\e.2.length<=B + m.length
 rg:∀ k:Int,k∈m.map (·.1)->0<=k/\k < sp.States.length
 so:∀ k∈m.map (·.1),Sc sp S k
 up:∀ k,S k->k∈m.map (·.1)
 qs:∀ k∈q,k∈m.map (·.1)
section
variable {c:Aa} {sp:Space} {S:Int->Prop} {t:List (List Ab)} {B:Nat}
theorem Sl_.len {m:List (Int×M6)} {q:M6} (h:Sl_ sp S t B m q):m.length<=sp.States.length:=by
 have:=Gf sp.States.length h.nd h.rg;simpa using this
theorem B9 {p:M6} (hp:p.length<=1073741824):m33 FF p=some p:=by
 unfold m33;rw [Aq (by simpa using hp)];rfl
theorem Bs {m:List (Int×M6)} {y:Int} {p:M6} {k:Int}:k∈(m ++ [(y,p)]).map (·.1)↔k∈m.map (·.1)\/k=y:=by simp
structure Sj_ (sp:Space) (S:Int->Prop) (t:List (List Ab)) (B:Nat) (x:Int) (mv:M6) (m0:List (Int×M6)) (r0:M6) (k:Nat) (z:(List (Int×M6)×M6)×Nat):Prop where
 j:z.2=0
 q:∃ r,z.1.2=x :: r/\r.length + m0.length=r0.length + z.1.1.length
 sl:Sl_ sp S t B z.1.1 z.1.2
 mo:∀ i∈m0.map (·.1),i∈z.1.1.map (·.1)
 dn:∀ j y,j < k->mv[j]?=some y->lab sp x y=[]->y∈z.1.1.map (·.1)
 cl:∀ i∈z.1.1.map (·.1),i∈z.1.2\/Clk sp z.1.1 i
theorem sj_step (h:Sq c sp) (hB:B<=1000000000) {x:Int} {mv:M6} {m0:List (Int×M6)} {r0:M6} (hr0:r0.length<=1000) (hi:idx sp.Moves x=some mv) {k:Nat} {y:Int} {z:(List (Int×M6)×M6)×Nat} (hg:mv[k]?=some y) (hI:Sj_ sp S t B x mv m0 r0 k z) :
  ∃ z',Fv FF x (((k:Int),y),lab sp x y) z=some (true,z')/\Sj_ sp S t B x mv m0 r0 (k + 1) z':=by
 obtain ⟨⟨m,q⟩,j⟩:=z;obtain ⟨hj,⟨r,hq,hlen⟩,hsl,hmo,hdn,hcl⟩:=hI;dsimp only at hj hq hlen hsl hmo hdn hcl;subst hj;obtain ⟨h22,hr⟩:=h.rows mv (Az hi);have hy:=hr y (G6 hg);have hxk:x∈m.map (·.1):=hsl.qs x (by rw [hq];exact G8 ..);have hml:=hsl.len;have hle:=h.le;unfold Fv;dsimp only;by_cases hc:lab sp x y=[]/\y ∉ m.map (·.1)
 ·obtain ⟨c1,c2⟩:=hc;obtain ⟨p,hp,hpm⟩:=Xk hxk;obtain ⟨hpw,hpl⟩:=hsl.pw _ hpm;have hpw:Pw_ sp 0 p t x:=hpw;have hpl:p.length<=B + m.length:=hpl;have hql:q.length<=1000 + m.length + r0.length:=by rw [hq];simp;omega
  rw [c1,show (((([]:List Ab).length:Int)) == 0)=true from rfl,Ko,df_ c2,J2,L8,ct_,hp];by_cases hqb:q.length<=1000000
  ·rw [show (some p:Option M6).getD []=p from rfl,B9 om_,ob_,Aq so_,ob_,Aq so_,ob_,ob_,Te c2];refine ⟨((m ++ [(y,p ++ [(k:Int)])],q ++ [y]),0),rfl,rfl,⟨r ++ [y],by rw [hq];rfl,by simp;omega⟩,⟨?_,?_,?_,?_,?_,?_⟩,?_,?_,?_⟩
   ·show ((m ++ [(y,p ++ [(k:Int)])]).map (·.1)).Nodup;rw [MM];refine KH.2 ⟨hsl.nd,by simp,λa ha b hb=>?_⟩;have:b=y:=by simpa using hb
    subst this;exact λe=>c2 (e ▸ ha)
   ·intro e he;rcases G9.1 he with he | he
    ·obtain ⟨e1,e2⟩:=hsl.pw e he;exact ⟨e1,by simp;omega⟩
    ·obtain rfl:e=(y,p ++ [(k:Int)]):=by simpa using he
     refine ⟨?_,by simp;omega⟩;have:=hpw.snoc hi (show idx mv (k:Int)=some y by rw [Ai];exact hg);rw [if_pos c1] at this;exact this
   ·intro i hi';rcases Bs.1 hi' with h1 | rfl
    ·exact hsl.rg i h1
    ·exact hy
   ·intro i hi';rcases Bs.1 hi' with h1 | rfl
    ·exact hsl.so i h1
    ·exact .step (hsl.so x hxk) hi (G6 hg) c1
   ·exact λi hi'=>Bs.2 (.inl (hsl.up i hi'))
   ·intro i hi';rcases G9.1 hi' with h1 | h1
    ·exact Bs.2 (.inl (hsl.qs i h1))
    ·exact Bs.2 (.inr (by simpa using h1))
   ·exact λi hi'=>Bs.2 (.inl (hmo i hi'))
   ·intro j' y' h1 h2 h3;rcases JQ (J6 h1) with h4 | rfl
    ·exact Bs.2 (.inl (hdn j' y' h4 h2 h3))
    ·rw [hg] at h2;exact Bs.2 (.inr (Option.some.inj h2).symm)
   ·intro i hi';rcases Bs.1 hi' with h1 | rfl
    ·rcases hcl i h1 with h2 | h2
     ·exact .inl (HK _ h2)
     ·exact .inr λmv' j' k1 k2 k3=>Bs.2 (.inl (h2 mv' j' k1 k2 k3))
    ·exact .inl (HG _ smp_)
  ·exfalso;have h1:q.length=r.length + 1:=by rw [hq];rfl
   have h2:r.length + m0.length=r0.length + m.length:=hlen;have h3:m.length<=sp.States.length:=hml;omega
 ·have:((((lab sp x y).length:Int) == 0) && !(mat Dr m y).isSome)=false:=by
   rw [Ko];by_cases c1:lab sp x y=[]
   ·have c2:y∈m.map (·.1):=Classical.byContradiction λe=>hc ⟨c1,e⟩;rw [dt_ c2];simp
   ·have:(((lab sp x y).length:Int) == 0)=false:=by
     cases hq:lab sp x y with
     | nil=>exact (c1 hq).elim
     | cons y ys=>simp;omega
    rw [this,JS]
  rw [this,cf_,ob_];refine ⟨((m,q),0),rfl,rfl,⟨r,hq,hlen⟩,hsl,hmo,λj' y' h1 h2 h3=>?_,hcl⟩;rcases JQ (J6 h1) with h4 | rfl
  ·exact hdn j' y' h4 h2 h3
  ·rw [hg] at h2;obtain rfl:=Option.some.inj h2;exact Classical.byContradiction λe=>hc ⟨h3,e⟩
theorem Mn (h:Sq c sp) (hB:B<=1000000000):∀ (n:Nat) (m:List (Int×M6)) (q:M6),q.length + sp.States.length < n + m.length->q.length + sp.States.length<=m.length + 400->Sl_ sp S t B m q->(∀ i∈m.map (·.1),i∈q\/Clk sp m i) ->
  ∃ m',Qd FF (some ⟨sp,Ui sp⟩) n (m,q)=some (m',[])/\Sl_ sp S t B m' []/\∀ i∈m'.map (·.1),Clk sp m' i
 | 0,m,q,hn,_,hs,_=>by have:=hs.len;omega
 | n + 1,m,q,hn,hb,hs,hc=>by
  have hml:=hs.len;rw [Qd];dsimp only;cases q with
  | nil=>
   refine ⟨m,rfl,hs,λi hi=>?_⟩;rcases hc i hi with h1 | h1
   ·simp at h1
   ·exact h1
  | cons x r=>
   have hx:=hs.rg x (hs.qs x (G8 ..));obtain ⟨mv,hi,_,_,hm22,_⟩:=Sr h hx.1 hx.2;have hrl:r.length<=1000:=by simp at hb;omega
   have e0:decide ((((x :: r).length:Nat):Int) > 0)=true:=by simp
   have e1:idx (x :: r) (0:Int)=some x:=rfl;obtain ⟨z',e2,e3⟩:=Na (gy:=Fv FF x) h hi (λk z=>Sj_ sp S t B x mv m r k z) (λ_=>False) (λk y z hg hI=>by
    obtain ⟨z',k1,k2⟩:=sj_step h hB hrl hi hg hI;exact ⟨true,z',k1,λ_=>k2,λe=>by cases e⟩) (s:=((m,x :: r),0)) ⟨rfl,⟨r,rfl,rfl⟩,hs,λ_ h=>h,λj _ hj=>by omega,hc⟩
   have e3:Sj_ sp S t B x mv m r mv.length z':=by
    rcases e3 with h | h
    ·exact h
    ·exact h.elim
   obtain ⟨⟨m1,q1⟩,j⟩:=z';obtain ⟨hj,⟨r',hq,hlen⟩,hsl,hmo,hdn,hcl⟩:=e3;dsimp only at hj hq hlen hsl hmo hdn hcl;subst hj hq;have hm1:=hsl.len;have hm1:m1.length<=sp.States.length:=hm1;have e4:lsl (x :: r') (1:Int) (((x :: r').length:Nat):Int)=some r':=by
    have:=Zu (xs:=x :: r') (q:=1) smp_;exact this
   rw [e0,ct_,e1,ob_];unfold m85;rw [ob_];dsimp only;rw [e2,ob_];dsimp only;rw [show ((0:Nat) == 0)=true from rfl,ct_,e4,ob_];simp only [JW] at hn hb;refine Mn h hB n m1 r' om_ om_ ⟨hsl.nd,hsl.pw,hsl.rg,hsl.so,hsl.up,λk hk=>hsl.qs k (G7 _ hk)⟩ λi hi'=>?_;rcases hcl i hi' with h1 | h1
   ·rcases G3.1 h1 with rfl | h1
    ·refine .inr λmv' j' k1 k2 k3=>?_;rw [hi] at k1;obtain rfl:=Option.some.inj k1;obtain ⟨n',hn',rfl⟩:=K8.1 k2;exact hdn n' _ hn' (gE_ hn') k3
    ·exact .inl h1
   ·exact .inr h1
theorem Wp (h:Sq c sp) (hB:B<=1000000000) {m:List (Int×M6)} (hF:Fq sp t B m) (hS:∀ j,j∈m.map (·.1)↔S j) (hr:∀ k,S k->0<=k/\k < sp.States.length) :
  ∃ m',SA FF (some ⟨sp,Ui sp⟩) m=some m'/\Fq sp t (B + sp.States.length) m'/\∀ j,j∈m'.map (·.1)↔Sc sp S j:=by
 have hle:=h.le;have hml:=hF.len λk hk=>hr k ((hS k).1 hk);obtain ⟨l,e1,hl⟩:=Zh hF.nd om_ hS;have hll:l.length<=sp.States.length:=Gf _ (hl.1.imp λh1 h2=>by omega) λu hu=>hr u ((hl.2 u).1 hu);obtain ⟨m',e2,h1,h2⟩:=Mn (S:=S) (t:=t) h hB FF m l uF om_ ⟨hF.nd,λe he=>⟨(hF.pw e he).1,by have:=(hF.pw e he).2;omega⟩,λk hk=>hr k ((hS k).1 hk),λk hk=>.base ((hS k).1 hk),λk hk=>(hS k).2 hk,λk hk=>(hS k).2 ((hl.2 k).1 hk)⟩ (λi hi=>.inl ((hl.2 i).2 ((hS i).1 hi)));have hml':=h1.len;unfold SA;rw [e1,ob_,e2,ob_];refine ⟨m',rfl,⟨h1.nd,λe he=>⟨(h1.pw e he).1,by have:=(h1.pw e he).2;omega⟩⟩,λj=>⟨h1.so j,λhj=>?_⟩⟩
 induction hj with
 | base h3=>exact h1.up _ h3
 | step _ h4 h5 h6 ih=>exact h2 _ ih _ _ h4 h5 h6
end
end Go.Pn

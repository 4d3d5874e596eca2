import Derived.Test.YtohmmpdeoahmmaaGreatDoorAp5
set_option synthInstance.checkSynthOrder false
set_option synthInstance.maxSize 10000
set_option synthInstance.maxHeartbeats 400000
set_option maxRecDepth 100000
set_option maxHeartbeats 4000000
set_option linter.unusedVariables false
set_option linter.unusedSimpArgs false
set_option linter.defProp false
namespace Go.Pn
open Go
open Csc
variable {s:Ah}
theorem Zi {l:List Bool} (hl:l.length<=1000) (h:∀ b∈l,b=true):m171 FF l false=some false:=by
 have hh:=Cw (L:=Hp l false) (N:=l.length) (Q:=λi=>match l[i]? with | some b=>false == b | none=>false) (r:=λi=>i) (λn i hi=>by
  have hx:=gE_ hi;rw [Hp,Al,dt_ hi,ct_,Aj,hx,ob_,Am om_]) (λn=>by
  rw [Hp,Al,df_ om_,cf_]) FF 0 om_ uF
 rw [n0] at hh;unfold m171 m239;rcases hh with ⟨k,_,hk,hq,_⟩ | ⟨hh,_⟩
 ·exfalso;rw [gE_ hk] at hq;dsimp only at hq;rw [h _ (List.getElem_mem hk)] at hq;cases hq
 ·rw [hh];rfl
theorem Yv {x:Step} (h:Stk x):m238 FF x=some 0:=by
 have h6:=h.le;have h0:0 < x.Strokes.length:=List.length_pos_iff.2 h.ne;unfold m238;rw [show ((x.Strokes.length:Int) == 0)=false by rw [beq_eq_false_iff_ne];omega,cf_,df_ om_,cf_];obtain ⟨v,_,hh⟩:=forG (L:=Hq FF x) (mk:=λi (v:Int)=>(v,(i:Int))) (N:=x.Strokes.length) (E:=λv=>some (.brk (v,(x.Strokes.length:Int)))) (I:=λi v=>(i=0/\v=-1)\/∃ j y,i=j + 1/\x.Strokes[j]?=some y/\v=y.Actuator) (λn i v hi hI=>by
  have hx:=gE_ hi;have ha:=h.ac _ (List.getElem_mem hi);have hlt:v < x.Strokes[i].Actuator:=by
   rcases hI with ⟨_,rfl⟩ | ⟨j,y,rfl,hy,rfl⟩
   ·omega
   ·exact h.srt j _ _ hy hx
  refine ⟨x.Strokes[i].Actuator,.inr ⟨i,_,rfl,hx,rfl⟩,?_⟩;rw [Hq];dsimp only;rw [Al,dt_ hi,ct_,Aj,hx,ob_];unfold m291;rw [ob_,dt_ (show x.Strokes[i].Actuator>=0 from ha.1),dt_ ha.2,Bool.and_true,Bool.not_true,cf_,show (x.Strokes[i].Actuator == v)=false by rw [beq_eq_false_iff_ne];omega,cf_,df_ om_,cf_,Am om_]) (λn v _=>by
  rw [Hq];dsimp only;rw [Al,df_ om_,cf_]) FF 0 (-1) om_ uF (.inl ⟨rfl,rfl⟩)
 try dsimp only at hh
 rw [n0] at hh;rw [hh,ob_];dsimp only;rw [df_ (by have:=h.w;omega),df_ (by have:=h.w;omega)];rfl
structure Endz (s:Ah) (z:Ar6) (k:Nat):Prop where
 l:z.l.length=6
 p:∀ a,a < A s->z.at_ a=(dat s).pos k a
 o:∀ a,A s<=a->z.at_ a=false
theorem Qq {a:Int} (h0:0<=a) (h:a < 6):idx (List.range 6) a=some a.toNat:=by
 rw [show a=((a.toNat:Nat):Int) by omega,Aj,List.getElem?_range om_,Int.toNat_natCast]
theorem DG {z:Ar6} {j a:Nat} {v:Bool} (hj:j < z.l.length):(z.put j v).at_ a=if a=j then v else z.at_ a:=by
 unfold Ar6.put Ar6.at_;dsimp only;rw [List.getD_eq_getElem?_getD,List.getElem?_set];by_cases h:j=a
 ·subst h;rw [if_pos rfl,if_pos rfl,if_pos hj];rfl
 ·rw [if_neg h,if_neg (λe=>h e.symm),List.getD_eq_getElem?_getD]
theorem enf_s {x:Step} {i:Nat} (hi:i < x.Strokes.length) (h:Stk x) (v:Bool) (a:Nat):enf x (i + 1) v a=if a=x.Strokes[i].Actuator.toNat then x.Strokes[i].Out else enf x i v a:=by
 unfold enf;rw [List.take_add_one,gE_ hi,List.find?_append];by_cases ha:a=x.Strokes[i].Actuator.toNat
 ·rw [if_pos ha];have hn:(x.Strokes.take i).find? (λy=>y.Actuator.toNat == a)=none:=by
   rw [List.find?_eq_none];intro y hy he;obtain ⟨j,hj⟩:=List.getElem?_of_mem hy;rw [List.getElem?_take] at hj;split at hj
   ·rename_i hji;have h1:=h.asc hji hj (gE_ hi);have h2:=h.ac y (List.mem_of_getElem? hj);have h3:=h.ac _ (List.getElem_mem hi);have:y.Actuator.toNat=a:=by simpa using he
    omega
   ·cases hj
  rw [hn];simp [ha]
 ·rw [if_neg ha];have:([x.Strokes[i]].find? λy=>y.Actuator.toNat == a)=none:=by
   rw [List.find?_eq_none];intro y hy;obtain rfl:=List.mem_singleton.1 hy;simpa using λe:x.Strokes[i].Actuator.toNat=a=>ha e.symm
  show (match ((x.Strokes.take i).find? λy=>y.Actuator.toNat == a).or ([x.Strokes[i]].find? λy=>y.Actuator.toNat == a) with | some y=>y.Out | none=>v)=_
  rw [this,Option.or_none] <;> rfl
theorem Zj {x:Step} {z:Ar6} (h:Stk x) (hz:z.l.length=6):∃ r,m170 FF z x=some r/\r.l.length=6/\∀ a,r.at_ a=enf x x.Strokes.length (z.at_ a) a:=by
 have h6:=h.le;unfold m170;obtain ⟨v,hv,hh⟩:=Te (L:=Hx x) (mk:=λi (v:Ar6)=>((i:Int),v)) (N:=x.Strokes.length) (I:=λi v=>v.l.length=6/\∀ a,v.at_ a=enf x i (z.at_ a) a) (λn i v hi hI=>by
  have hx:=gE_ hi;have ha:=h.ac _ (List.getElem_mem hi);refine ⟨v.put x.Strokes[i].Actuator.toNat x.Strokes[i].Out,⟨by unfold Ar6.put;rw [List.length_set];exact hI.1,λa=>?_⟩,?_⟩
  ·rw [DG (by rw [hI.1];omega),enf_s hi h,hI.2 a]
  ·rw [Hx];dsimp only;rw [Al,dt_ hi,ct_,Aj,hx,ob_,Qq ha.1 ha.2,ob_,Am om_]) (λn v _=>by
  rw [Hx];dsimp only;rw [Al,df_ om_,cf_]) FF 0 z om_ uF ⟨hz,λa=>rfl⟩
 try dsimp only at hh
 rw [n0] at hh;rw [hh];exact ⟨v,rfl,hv.1,hv.2⟩
theorem Endz.next (h:Sq4 s) {k:Nat} (hk:k < n s) {z:Ar6} (hz:Endz s z k):∃ r,m170 FF z (stp s k)=some r/\Endz s r (k + 1):=by
 obtain ⟨r,h1,h2,h3⟩:=Zj (h.st k hk) hz.l;refine ⟨r,h1,h2,λa ha=>?_,λa ha=>?_⟩
 ·rw [h3,hz.p a ha];exact A7 (h.st k hk)
 ·rw [h3,hz.o a ha];unfold enf;split
  ·rename_i y hy;exfalso;have h4:=List.mem_of_find?_eq_some hy;have h5:=List.find?_some hy;have h6:=h.q.ac k hk y (List.mem_of_mem_take h4);have h7:=h.Ac;have:y.Actuator.toNat=a:=by simpa using h5
   omega
  ·rfl
theorem Endz.ini:Endz s Ar6.z 0:=⟨rfl,λa _=>by
  unfold Ar6.at_ Ar6.z; rw [List.getD_eq_getElem?_getD,List.getElem?_replicate]; split <;> rfl,λa _=>by
  unfold Ar6.at_ Ar6.z; rw [List.getD_eq_getElem?_getD,List.getElem?_replicate]; split <;> rfl⟩
theorem Zk (h:Sq4 s) {k:Nat} (hk:k < n s) {z:Ar6} (hz:Endz s z k):m169 FF s (stp s k) z=some 0:=by
 have hS:=h.st k hk;have h6:=hS.le;have hac:=h.Ac;have e1:=Cw (L:=Hz s (stp s k)) (N:=(stp s k).Strokes.length) (Q:=λ_=>false) (r:=λ_=>6) (λm i hi=>by
  have ha:=h.q.ac k hk _ (List.getElem_mem hi);rw [Hz,Al,dt_ hi,ct_,Aj,gE_ hi,ob_,df_ om_,cf_,Am om_];rfl) (λm=>by
  rw [Hz,Al,df_ om_,cf_]) FF 0 om_ uF
 have e2:=Cw (L:=Hy (stp s k) z) (N:=(stp s k).Strokes.length) (Q:=λ_=>false) (r:=λ_=>14) (λm i hi=>by
  have ha:=h.q.ac k hk _ (List.getElem_mem hi);have ha6:=hS.ac _ (List.getElem_mem hi);have hft:=h.q.fits k hk (stp s k).Strokes[i].Actuator.toNat (stp s k).Strokes[i].Out (List.mem_map.2 ⟨_,List.getElem_mem hi,rfl⟩);rw [Hy,Al,dt_ hi,ct_,Aj,gE_ hi,ob_,Qq ha.1 ha6.2,ob_,hz.p _ om_,hft];rw [show ((!(stp s k).Strokes[i].Out) == (stp s k).Strokes[i].Out)=false by cases (stp s k).Strokes[i].Out <;> rfl,cf_,Am om_]; rfl) (λm=>by
  rw [Hy,Al,df_ om_,cf_]) FF 0 om_ uF
 rw [n0] at e1 e2;unfold m169;rw [Yv hS,ob_,zf_,cf_];rcases e1 with ⟨_,_,_,hq,_⟩ | ⟨e1,_⟩
 ·cases hq
 rw [e1,ob_];dsimp only;rcases e2 with ⟨_,_,_,hq,_⟩ | ⟨e2,_⟩
 ·cases hq
 rw [e2];rfl
def mvd (s:Ah) (k a:Nat):Bool:=(List.range k).any λi=>(S s i).any λx=>x.1 == a
theorem Ud {x:Step} {z:Ar6} (h:Stk x) (hz:z.l.length=6):∃ r,Lf x FF ((0:Int),z)=some ((x.Strokes.length:Int),r)/\r.l.length=6/\∀ a,r.at_ a=(z.at_ a || x.Strokes.any λy=>y.Actuator.toNat == a):=by
 have h6:=h.le;obtain ⟨v,hv,hh⟩:=Te (L:=Lf x) (mk:=λi (v:Ar6)=>((i:Int),v)) (N:=x.Strokes.length) (I:=λi v=>v.l.length=6/\∀ a,v.at_ a=(z.at_ a || (x.Strokes.take i).any λy=>y.Actuator.toNat == a)) (λn i v hi hI=>by
  have hx:=gE_ hi;have ha:=h.ac _ (List.getElem_mem hi);refine ⟨v.put x.Strokes[i].Actuator.toNat true,⟨by unfold Ar6.put;rw [List.length_set];exact hI.1,λa=>?_⟩,?_⟩
  ·rw [DG (by rw [hI.1];omega),hI.2 a,List.take_add_one,hx];simp only [Option.toList_some,List.any_append,List.any_cons,List.any_nil,Bool.or_false];by_cases e:a=x.Strokes[i].Actuator.toNat
   ·rw [if_pos e,← e];simp
   ·rw [if_neg e,show (x.Strokes[i].Actuator.toNat == a)=false by simpa using λh=>e h.symm,Bool.or_false]
  ·rw [Lf];dsimp only;rw [Al,dt_ hi,ct_,Aj,hx,ob_,Qq ha.1 ha.2,ob_,Am om_]) (λn v _=>by
  rw [Lf];dsimp only;rw [Al,df_ om_,cf_]) FF 0 z om_ uF ⟨hz,λa=>by simp⟩
 try dsimp only at hh
 rw [n0] at hh;refine ⟨v,hh,hv.1,λa=>?_⟩;rw [hv.2 a,List.take_length]
theorem Pg (h:Sq4 s):m90 FF s=some 0:=by
 have hn:=h.n;have h0:=h.q.n0;have hA6:=h.A6;have hac:=h.Ac;have a0:=h.q.a0;have hns:s.Steps.length=n s:=rfl;unfold m90;rw [df_ om_,df_ om_,Bool.or_false,cf_,show ((s.Steps.length:Int) == 0)=false by rw [beq_eq_false_iff_ne];omega,cf_,df_ om_,cf_];obtain ⟨v,hv,hh⟩:=forG (L:=Nl FF s) (mk:=λi (v:Ar6×Ar6)=>((i:Int),v.1,v.2)) (N:=n s) (E:=λv=>some (.brk ((n s:Int),v.1,v.2))) (I:=λi v=>Endz s v.1 i/\v.2.l.length=6/\∀ a,v.2.at_ a=mvd s i a) (λm i v hi hI=>by
  obtain ⟨r,h1,h2⟩:=hI.1.next h hi;obtain ⟨r',h3,h4,h5⟩:=Ud (h.st i hi) hI.2.1;refine ⟨(r,r'),⟨h2,h4,λa=>?_⟩,?_⟩
  ·dsimp only;rw [h5,hI.2.2 a];unfold mvd;rw [List.range_succ,List.any_append];simp only [List.any_cons,List.any_nil,Bool.or_false];congr 1;unfold S;rw [List.any_map];rfl
  ·rw [Nl];dsimp only;rw [show decide ((i:Int) < (s.Steps.length:Int))=true from dt_ om_,ct_,Aj,Bg hi,ob_,Zk h hi hI.1,ob_,zf_,cf_,h1,ob_,h3,ob_,Am om_]) (λm v _=>by
  rw [Nl];dsimp only;rw [show decide (((n s:Nat):Int) < (s.Steps.length:Int))=false from df_ om_,cf_]) FF 0 (Ar6.z,Ar6.z) om_ uF ⟨Endz.ini,rfl,λa=>by
  unfold mvd Ar6.at_ Ar6.z; rw [List.getD_eq_getElem?_getD,List.getElem?_replicate]; split <;> rfl⟩
 try dsimp only at hh
 rw [n0] at hh;rw [hh,ob_];dsimp only;obtain ⟨v1,v2⟩:=v;dsimp only at hv ⊢;have heq:eqqA v1 Ar6.z=true:=by
  unfold eqqA;rw [List.all_eq_true];intro a ha;have h1:v1.at_ a=false:=by
   by_cases h2:a < A s
   ·rw [hv.1.p a h2];exact h.q.back a
   ·exact hv.1.o a om_
  rw [h1];unfold Ar6.at_ Ar6.z;rw [List.getD_eq_getElem?_getD,List.getElem?_replicate]; split <;> rfl
 rw [heq,Bool.not_true,cf_];unfold lsl;rw [if_pos ⟨by omega,by omega,by rw [hv.2.1];omega⟩,ob_,Zi so_ (λb hb=>?_),ob_]
 ·rfl
 ·obtain ⟨a,hb⟩:=List.getElem?_of_mem hb;rw [List.getElem?_take] at hb;split at hb
  ·rename_i ha;simp only [Int.toNat_zero,List.drop_zero] at hb;have haA:a < A s:=by omega
   have h2:=hv.2.2 a;unfold Ar6.at_ at h2;rw [List.getD_eq_getElem?_getD,hb] at h2;have h2:b=mvd s (n s) a:=h2;rw [h2];obtain ⟨k,o,hk,hko⟩:=h.q.mv a haA;unfold mvd;rw [List.any_eq_true];refine ⟨k,List.mem_range.2 hk,?_⟩;rw [List.any_eq_true];exact ⟨_,hko,by simp⟩
  ·cases hb
end Go.Pn
namespace Go.Pn
open Go
open Csc
variable {s:Ah}
def km (m:Nat):Kd .u64:=⟨((m:Nat):Int)⟩
def Vg (l:List Ab):Nat:=l.foldl (λm x=>m ||| 2 ^ x.Actuator.toNat) 0
theorem Rh {a:Nat}:∀ (l:List Ab) (m:Nat),(l.foldl (λm x=>m ||| 2 ^ x.Actuator.toNat) m).testBit a=(m.testBit a || l.any λx=>x.Actuator.toNat == a)
 | [],m=>by simp
 | x :: l,m=>by
  rw [List.foldl_cons,Rh l,Nat.testBit_or,List.any_cons,Bool.or_assoc,Nat.testBit_two_pow];rfl
theorem Pc {a:Nat} {l:List Ab}:(Vg l).testBit a=l.any λx=>x.Actuator.toNat == a:=by
 unfold Vg;rw [Rh];simp
theorem Yb {l:List Ab} {x:Ab}:Vg (l ++ [x])=Vg l ||| 2 ^ x.Actuator.toNat:=by
 unfold Vg;rw [List.foldl_append];rfl
theorem Xq {a:Nat} (h:a < 6):2 ^ a < 64:=by
 rcases (show a=0\/a=1\/a=2\/a=3\/a=4\/a=5 by omega) with rfl | rfl | rfl | rfl | rfl | rfl <;> decide
theorem Xu {a b:Nat} (ha:a < 64) (hb:b < 64):a ||| b < 64:=Nat.or_lt_two_pow (n:=6) ha hb
theorem Pb:∀ {l:List Ab},(∀ x∈l,x.Actuator.toNat < 6)->Vg l < 64:=λ{l} h=>by
 unfold Vg;have:∀ (l:List Ab) (m:Nat),m < 64->(∀ x∈l,x.Actuator.toNat < 6)->l.foldl (λm x=>m ||| 2 ^ x.Actuator.toNat) m < 64:=by
  intro l
  induction l with
  | nil=>intro m hm _;exact hm
  | cons x l ih=>
   intro m hm h;rw [List.foldl_cons];exact ih _ (Xu hm (Xq (h x Av))) λy hy=>h y (by simp [hy])
 exact this l 0 (by decide) h
set_option maxRecDepth 100000 in
theorem bit_tab:((List.range 64).all λa=>(List.range 64).all λb=>((bitO (km a) (km b)).v == ((a ||| b:Nat):Int)) && ((bitA (km a) (km b)).v == ((a &&& b:Nat):Int)))=true:=by kernel_rfl
theorem BJ {a b:Nat} (ha:a < 64) (hb:b < 64):bitO (km a) (km b)=km (a ||| b)/\bitA (km a) (km b)=km (a &&& b):=by
 have h1:=List.all_eq_true.1 (List.all_eq_true.1 bit_tab a (List.mem_range.2 ha)) b (List.mem_range.2 hb);rw [Bool.and_eq_true,beq_iff_eq,beq_iff_eq] at h1;have key:∀ (x:Kd .u64) (m:Nat),x.v=((m:Nat):Int)->x=km m:=λx m h=>by cases x;unfold km;congr 1
 exact ⟨key _ _ h1.1,key _ _ h1.2⟩
theorem bitV_km {j:Nat} (h:j < 6):bitV j=km (2 ^ j):=by
 rcases (show j=0\/j=1\/j=2\/j=3\/j=4\/j=5 by omega) with rfl | rfl | rfl | rfl | rfl | rfl <;> rfl
theorem AH {x:Step} (h:Stk x):m102 FF x=some (km (Vg x.Strokes)):=by
 have h6:=h.le;have hall:∀ y∈x.Strokes,y.Actuator.toNat < 6:=λy hy=>by have:=h.ac y hy;omega
 unfold m102;obtain ⟨v,hv,hh⟩:=Te (L:=Jj x) (mk:=λi (v:Kd .u64)=>(v,(i:Int))) (N:=x.Strokes.length) (I:=λi v=>v=km (Vg (x.Strokes.take i))) (λn i v hi hI=>by
  have hx:=gE_ hi;have ha:=h.ac _ (List.getElem_mem hi);refine ⟨_,?_,by
   rw [Jj];dsimp only;rw [Al,dt_ hi,ct_,Aj,hx,ob_,Qq ha.1 ha.2,ob_,Am om_]⟩
  rw [hI,bitV_km om_,(BJ (Pb λy hy=>hall y (List.mem_of_mem_take hy)) (Xq om_)).1,List.take_add_one,hx];rw [← Yb];rfl) (λn v _=>by
  rw [Jj];dsimp only;rw [Al,df_ om_,cf_]) FF 0 ⟨0⟩ om_ uF rfl
 try dsimp only at hh
 rw [n0] at hh;rw [hh,ob_,hv,List.take_length]
def ovm (s:Ah) (f:Nat):Nat->Nat
 | 0=>0
 | i + 1=>ovm s f i ||| Vg (stp s (f + i)).Strokes
def cfm (s:Ah) (f i:Nat):Bool:=(ovm s f i &&& Vg (stp s (f + i)).Strokes) != 0
theorem Tz {f a:Nat}:∀ {i:Nat},(ovm s f i).testBit a=(List.range i).any λj=>(stp s (f + j)).Strokes.any λx=>x.Actuator.toNat == a
 | 0=>by unfold ovm;simp
 | i + 1=>by
  show (ovm s f i ||| Vg (stp s (f + i)).Strokes).testBit a=_;rw [Nat.testBit_or,Tz,Pc,List.range_succ,List.any_append];simp
theorem Sq4.act6 (h:Sq4 s) {k:Nat} (hk:k < Csc.n s):∀ y∈(stp s k).Strokes,y.Actuator.toNat < 6:=λy hy=>by have:=(h.st k hk).ac y hy;omega
theorem Xt (h:Sq4 s) {f:Nat}:∀ {i:Nat},f + i<=n s->ovm s f i < 64
 | 0,_=>by unfold ovm;decide
 | i + 1,hi=>Xu (Xt h om_) (Pb (h.act6 (k:=f + i) om_))
theorem Tw {i k:Nat}:rep s i k=true↔∃ a,((stp s i).Strokes.any λx=>x.Actuator.toNat == a)=true/\((stp s k).Strokes.any λx=>x.Actuator.toNat == a)=true:=by
 unfold rep;rw [List.any_eq_true];constructor
 ·rintro ⟨⟨a,o⟩,h1,h2⟩;rw [List.any_eq_true] at h2;obtain ⟨⟨a',o'⟩,h3,h4⟩:=h2;obtain rfl:a=a':=by simpa using h4
  obtain ⟨y,hy,e⟩:=List.mem_map.1 h1;obtain ⟨z,hz,e'⟩:=List.mem_map.1 h3;refine ⟨a,List.any_eq_true.2 ⟨y,hy,?_⟩,List.any_eq_true.2 ⟨z,hz,?_⟩⟩
  ·simpa using (Prod.mk.inj e).1
  ·simpa using (Prod.mk.inj e').1
 ·rintro ⟨a,h1,h2⟩;rw [List.any_eq_true] at h1 h2;obtain ⟨y,hy,e⟩:=h1;obtain ⟨z,hz,e'⟩:=h2;refine ⟨_,List.mem_map.2 ⟨y,hy,rfl⟩,?_⟩;rw [List.any_eq_true];refine ⟨_,List.mem_map.2 ⟨z,hz,rfl⟩,?_⟩;have e:y.Actuator.toNat=a:=by simpa using e
  have e':z.Actuator.toNat=a:=by simpa using e'
  simp [e,e']
theorem ne0_bit {m:Nat}:m≠0↔∃ a,m.testBit a=true:=by
 constructor
 ·intro h;refine Classical.byContradiction λhc=>h (Nat.eq_of_testBit_eq λi=>?_);rw [Nat.zero_testBit];cases e:m.testBit i with
  | false=>rfl
  | true=>exact absurd ⟨i,e⟩ hc
 ·rintro ⟨a,h⟩ e;rw [e,Nat.zero_testBit] at h;cases h
theorem Uq {f i:Nat}:cfm s f i=true↔∃ j,j < i/\rep s (f + j) (f + i)=true:=by
 unfold cfm;rw [bne_iff_ne,ne0_bit];constructor
 ·rintro ⟨a,h⟩;rw [Nat.testBit_and,Tz,Pc,Bool.and_eq_true,List.any_eq_true] at h;obtain ⟨⟨j,hj,h1⟩,h2⟩:=h;exact ⟨j,List.mem_range.1 hj,Tw.2 ⟨a,h1,h2⟩⟩
 ·rintro ⟨j,hj,h⟩;obtain ⟨a,h1,h2⟩:=Tw.1 h;refine ⟨a,?_⟩;rw [Nat.testBit_and,Tz,Pc,Bool.and_eq_true,List.any_eq_true];exact ⟨⟨j,List.mem_range.2 hj,h1⟩,h2⟩
theorem Sh (h:Sq4 s) {f z:Nat} (hf:f + z<=n s):∃ r,m177 FF s (f:Int) (z:Int)=some r/\r.2=!((List.range z).any λi=>cfm s f i):=by
 have hn:=h.n;have hns:s.Steps.length=n s:=rfl;have key:∀ (m i:Nat),i<=z->z - i < m->(∃ x,Hu FF s (f:Int) (z:Int) m (km (ovm s f i),(i:Int))=some (.brk x)/\∀ j,i<=j->j < z->cfm s f j=false)\/(∃ x,Hu FF s (f:Int) (z:Int) m (km (ovm s f i),(i:Int))=some (.ret (x,false))/\∃ j,j < z/\cfm s f j=true):=by
  intro m
  induction m with
  | zero=>intro i _ h;omega
  | succ m ih=>
   intro i h1 h2;rw [Hu];dsimp only;by_cases hi:i < z
   ·have hmod:rem (wr ((f:Int) + (i:Int))) ((s.Steps.length:Int))=some ((f + i:Nat):Int):=by
     rw [Ao om_ om_,hns,show (f:Int) + (i:Int)=((f + i:Nat):Int) by omega,Lb om_,Nat.mod_eq_of_lt om_]
    rw [Al,dt_ hi,ct_,hmod,ob_,Aj,Bg om_,ob_,AH (h.st (f + i) om_),ob_,(BJ (Xt h (f:=f) (i:=i) om_) (Pb (h.act6 (k:=f + i) om_))).2];have e:(Ik.toI (km (ovm s f i &&& Vg (stp s (f + i)).Strokes)) != Ik.toI (⟨0⟩:Kd .u64))=cfm s f i:=by
     show (((ovm s f i &&& Vg (stp s (f + i)).Strokes:Nat):Int) != 0)=_;unfold cfm;rw [Bool.eq_iff_iff,bne_iff_ne,bne_iff_ne];omega
    rw [e];cases hc:cfm s f i with
    | true=>rw [ct_];exact .inr ⟨_,rfl,i,hi,hc⟩
    | false=>
     rw [cf_,(BJ (Xt h (f:=f) (i:=i) om_) (Pb (h.act6 (k:=f + i) om_))).1,Am om_];rcases ih (i + 1) om_ om_ with ⟨x,g1,g2⟩ | g
     ·refine .inl ⟨x,g1,λj hj1 hj2=>?_⟩;rcases Nat.eq_or_lt_of_le hj1 with e | e
      ·subst e;exact hc
      ·exact g2 j e hj2
     ·exact .inr g
   ·rw [Al,df_ hi,cf_];exact .inl ⟨_,rfl,λj h3 h4=>by omega⟩
 unfold m177;rcases key FF 0 om_ uF with ⟨x,g1,g2⟩ | ⟨x,g1,g2⟩
 ·rw [n0] at g1;rw [show (⟨0⟩:Kd .u64)=km (ovm s f 0) from rfl,g1];refine ⟨_,rfl,?_⟩;have:((List.range z).any λi=>cfm s f i)=false:=by
   rw [List.any_eq_false];intro j hj;rw [g2 j (Nat.zero_le _) (List.mem_range.1 hj)];decide
  rw [this];rfl
 ·rw [n0] at g1;rw [show (⟨0⟩:Kd .u64)=km (ovm s f 0) from rfl,g1];refine ⟨_,rfl,?_⟩;obtain ⟨j,hj,hc⟩:=g2;have:((List.range z).any λi=>cfm s f i)=true:=List.any_eq_true.2 ⟨j,List.mem_range.2 hj,hc⟩;rw [this];rfl
theorem grp_any {k:Nat}:((List.range (k + 1 - (gb s k).1 + 1)).any λi=>cfm s (gb s k).1 i)=brk s (gb s k).1 (k + 1):=by
 have hb:=Wv (s:=s) k;have hgb:∀ i,(gb s k).1<=i->i<=k->g s i=g s k:=λi h1 h2=>by
  have e1:g s (gb s k).1=g s k:=by
   obtain ⟨b,h3,h4,h5,_⟩:=Og (s:=s) (j:=g s k) (k:=k) (Nat.le_refl _);rw [Mv] at h3;rw [Option.some.inj h3];exact h5
  have h3:=Eh (s:=s) h1;have h4:=Eh (s:=s) h2;omega
 rw [Bool.eq_iff_iff,List.any_eq_true];unfold brk;rw [List.any_eq_true];constructor
 ·rintro ⟨i,hi,hc⟩;have hi:=List.mem_range.1 hi;obtain ⟨j,hj,hr⟩:=Uq.1 hc;rcases Nat.lt_or_ge i (k + 1 - (gb s k).1) with h1 | h1
  ·exfalso;obtain ⟨a,h2,h3⟩:=Tw.1 hr;rw [List.any_eq_true] at h2 h3;obtain ⟨y,hy,ey⟩:=h2;obtain ⟨w,hw,ew⟩:=h3;refine Vt (s:=s) (i:=(gb s k).1 + j) (k:=(gb s k).1 + i) (a:=a) (o:=y.Out) (o':=w.Out) om_ (by rw [hgb ((gb s k).1 + j) om_ om_,hgb ((gb s k).1 + i) om_ om_]) (List.mem_map.2 ⟨y,hy,?_⟩) (List.mem_map.2 ⟨w,hw,?_⟩)
   ·have:y.Actuator.toNat=a:=by simpa using ey
    rw [this]
   ·have:w.Actuator.toNat=a:=by simpa using ew
    rw [this]
  ·obtain rfl:i=k + 1 - (gb s k).1:=by omega
   refine ⟨(gb s k).1 + j,List.mem_range.2 om_,?_⟩;rw [Bool.and_eq_true,decide_eq_true_iff];rw [show (gb s k).1 + (k + 1 - (gb s k).1)=k + 1 by omega] at hr;exact ⟨by omega,hr⟩
 ·rintro ⟨j,hj,hc⟩;have hj:=List.mem_range.1 hj;rw [Bool.and_eq_true,decide_eq_true_iff] at hc;refine ⟨k + 1 - (gb s k).1,List.mem_range.2 om_,Uq.2 ⟨j - (gb s k).1,by omega,?_⟩⟩;rw [show (gb s k).1 + (j - (gb s k).1)=j by omega,show (gb s k).1 + (k + 1 - (gb s k).1)=k + 1 by omega];exact hc.2
theorem gle (k:Nat):g s k<=k:=by
 induction k with
 | zero=>exact Nat.le_refl _
 | succ k ih=>rcases Vs (s:=s) k with e | e <;> omega
theorem CK (h:Sq4 s):m99 FF s (0:Int)=some (cin (dv s)):=by
 have hn:=h.n;have h0:=h.q.n0;have hns:s.Steps.length=n s:=rfl;have key:∀ (m k:Nat),k < n s->n s - k < m->∃ a b,Gl FF s (0:Int) m (((k + 1 - (gb s k).1:Nat):Int),((k + 1:Nat):Int),cin (dl s k))=some (a,b,cin (dv s)):=by
  intro m
  induction m with
  | zero=>intro k _ h;omega
  | succ m ih=>
   intro k hk h2;have hb:=Wv (s:=s) k;have hg:=gle (s:=s) k;have hlen:(cin (dl s k)).length=g s k + 1:=by unfold cin;rw [List.length_map,Wb]
   rw [Gl];dsimp only;by_cases hk1:k + 1 < n s
   ·have hlast:idx (cin (dl s k)) (wr (((cin (dl s k)).length:Int) - 1))=some (((gb s k).1:Nat):Int):=by
     rw [hlen,Ao om_ om_,show ((g s k + 1:Nat):Int) - 1=((g s k:Nat):Int) by omega,Aj,Jl,Mv];rfl
    obtain ⟨r,hr,hr2⟩:=Sh h (f:=(gb s k).1) (z:=k + 1 - (gb s k).1 + 1) om_;rw [show decide (((k + 1:Nat):Int) < (s.Steps.length:Int))=true from dt_ om_,ct_,hlast,ob_,Am om_,hr,ob_,hr2,grp_any,Bool.not_not];have hd:=dl_s (s:=s) k;have hgb:=gb_s (s:=s) k;cases hbk:brk s (gb s k).1 (k + 1) with
    | true=>
     rw [hbk,if_pos rfl] at hd hgb;rw [ct_,Ao (x:=(0:Int) + ((k + 1:Nat):Int)) om_ om_,Be (by rw [hlen];simp;omega),ob_,ob_];have e1:(gb s (k + 1)).1=k + 1:=by rw [hgb]
     have:=ih (k + 1) hk1 om_;rw [e1,hd,show k + 1 + 1 - (k + 1)=1 by omega] at this;rw [Am om_,show wr ((0:Int) + 1)=((1:Nat):Int) from rfl];unfold cin at this ⊢;rw [List.map_append] at this;rw [show (0:Int) + ((k + 1:Nat):Int)=((k + 1:Nat):Int) by omega];exact this
    | false=>
     rw [hbk,if_neg (by decide)] at hd hgb;rw [cf_,ob_,Am om_,Am om_];have:=ih (k + 1) hk1 om_;rw [hgb,hd] at this;rw [show k + 1 + 1 - (gb s k).1=k + 1 - (gb s k).1 + 1 by omega] at this;exact this
   ·rw [show decide (((k + 1:Nat):Int) < (s.Steps.length:Int))=false from df_ om_,cf_];obtain rfl:k=n s - 1:=by omega
    exact ⟨_,_,rfl⟩
 unfold m99;have first:Gl FF s (0:Int) FF ((0:Int),(0:Int),([(0:Int)]:List Int))=Gl FF s (0:Int) 99999 (((0 + 1 - (gb s 0).1:Nat):Int),((0 + 1:Nat):Int),cin (dl s 0)):=by
  show Gl FF s (0:Int) (99999 + 1) _=_;obtain ⟨r,hr,hr2⟩:=Sh h (f:=0) (z:=1) om_;have hc:cfm s 0 0=false:=by
   cases e:cfm s 0 0 with
   | false=>rfl
   | true=>obtain ⟨j,hj,_⟩:=Uq.1 e;omega
  rw [Gl];dsimp only;rw [show decide ((0:Int) < (s.Steps.length:Int))=true from dt_ om_,ct_];rw [show idx ([(0:Int)]:List Int) (wr (((([(0:Int)]:List Int).length:Nat):Int) - 1))=some (((0:Nat):Int)) from rfl,ob_,show wr ((0:Int) + 1)=((1:Nat):Int) from rfl,hr,ob_,hr2];have h1:((List.range 1).any λi=>cfm s 0 i)=false:=by
   show (cfm s 0 0 || false)=false;rw [hc];rfl
  have e:((((0 + 1 - (gb s 0).1:Nat):Int),((0 + 1:Nat):Int),cin (dl s 0)):Int×Int×List Int)=(((1:Nat):Int),((1:Nat):Int),([(0:Int)]:List Int)):=rfl;rw [h1,Bool.not_false,Bool.not_true,cf_,ob_,e,show wr ((0:Int) + 1)=((1:Nat):Int) from rfl]
 obtain ⟨a,b,hk⟩:=key 99999 0 h0 om_;rw [first,hk];rfl
theorem CT (h:Sq4 s):m34 FF s=some (cin (dv s),0):=by
 unfold m34;rw [Pg h,ob_,zf_,cf_,CK h];rfl
end Go.Pn
namespace Go.Pn
open Go
open Csc
variable {s:Ah}
theorem Bk {n:Nat}:m230 FF (n:Int)=some (lnx n):=rfl
theorem Dx {op:Int}:∀ {l:List Nat},m226 FF op (l.map lnx)=some (Do op l)
 | []=>rfl
 | [n]=>rfl
 | a :: b :: t=>by
  unfold m226;rw [show ((((a :: b :: t).map lnx).length:Int) == 1)=false by rw [beq_eq_false_iff_ne];simp;omega,cf_];rfl
theorem Lx {n:Nat} {l:List Nat} (hl:l.length<=1000):m232 FF (n:Int) (l.map lnx)=some (Do 3 (n :: l)):=by
 unfold m232;rw [Bk,ob_,Be so_,ob_,show [lnx n] ++ l.map lnx=(n :: l).map lnx from rfl,Dx];rfl
theorem itz_tab:((List.range 64).all λk=>decide (((m231 FF (k:Int)).bind λx=>cat (⟨#[103]⟩:ByteArray) x)=some (nbr 103 k)) && decide (((m231 FF (k:Int)).bind λx=>cat (⟨#[119]⟩:ByteArray) x)=some (nbr 119 k)) && decide (((m231 FF (k:Int)).bind λx=>cat (⟨#[115]⟩:ByteArray) x)=some (nbr 115 k)))=true:=by kernel_rfl
theorem itz {k:Nat} (h:k < 64):∃ x,m231 FF (k:Int)=some x/\cat (⟨#[103]⟩:ByteArray) x=some (nbr 103 k)/\cat (⟨#[119]⟩:ByteArray) x=some (nbr 119 k)/\cat (⟨#[115]⟩:ByteArray) x=some (nbr 115 k):=by
 have h1:=List.all_eq_true.1 itz_tab k (List.mem_range.2 h);rw [Bool.and_eq_true,Bool.and_eq_true,decide_eq_true_iff,decide_eq_true_iff,decide_eq_true_iff] at h1;obtain ⟨⟨h1,h2⟩,h3⟩:=h1;obtain ⟨x,hx,h1⟩:=Option.bind_eq_some_iff.1 h1;rw [hx,ob_] at h2 h3;exact ⟨x,hx,h1,h2,h3⟩
theorem Ly (h:Sq4 s) {b:Builder} (hb:b.division=cin (dv s)) (hs:b.s.Steps.length=n s) {j:Nat} (hj:j < G s):m228 FF b (j:Int)=some ((las s j:Nat):Int):=by
 have hG:=h.G64;have hn:=h.n;have h0:=h.q.n0;have hGe:=D3 (s:=s);unfold m228 las;rw [Am om_,hb,Ke,hs,Al];by_cases h1:j + 1 < G s
 ·rw [dt_ h1,ct_,if_pos h1,Aj,Jl];obtain ⟨b,h2,h3,h4,_,_⟩:=Og (s:=s) (j:=j + 1) (k:=n s - 1) om_;have h5:(dv s)[j + 1]?=some b:=h2;have hb:0 < b:=by
   rcases Nat.eq_zero_or_pos b with e | e
   ·subst e;have:g s 0=0:=rfl;omega
   ·exact e
  rw [h5,List.getD_eq_getElem?_getD,h5];show some (wr ((b:Int) - 1))=some ((b - 1:Nat):Int);rw [Ao om_ om_];congr 1;omega
 ·rw [df_ h1,cf_,if_neg h1];show some (wr (((n s:Nat):Int) - 1))=_;rw [Ao om_ om_];congr 1;omega
theorem Sc (h:Sq4 s) {b:Builder} (hb:b.division=cin (dv s)) {k:Nat} (hk:k < n s):m233 FF b (k:Int)=some ((g s k:Nat):Int):=by
 have hG:=h.G64;have hn:=h.n;have hg:=g_lt h hk;have key:∀ (m i:Nat),g s k<=i->i < G s->i < m->Lw b (k:Int) m (i:Int)=some ((g s k:Nat):Int):=by
  intro m
  induction m with
  | zero=>intro i _ _ h;omega
  | succ m ih=>
   intro i h1 h2 h3;obtain ⟨c,h4,h5,_,_⟩:=dv_le h2 hk;rw [Lw,hb,Aj,Jl,h4];rw [show (some c).map (λx=>((x:Nat):Int))=some (c:Int) from rfl,ob_];by_cases hc:c<=k
   ·have:=h5.1 hc;obtain rfl:i=g s k:=by omega
    rw [df_ om_,cf_]
   ·have hne:¬ i<=g s k:=λe=>hc (h5.2 e);rw [dt_ om_,ct_,Ao om_ om_,show (i:Int) - 1=((i - 1:Nat):Int) by omega];exact ih (i - 1) om_ om_ om_
 unfold m233;rw [hb,Ke,Ao om_ om_,show (G s:Int) - 1=((G s - 1:Nat):Int) by omega,key FF (G s - 1) om_ om_ uF];rfl
theorem Ry (h:Sq4 s) {k:Nat} (hk:k < n s) {a b:Int} {d g t st:List Int} {i:List ByteArray} {sg:List Ae} {p q:List Int}:m234 FF (k:Int) a b s.Steps d g t st i sg p q=some (((S s k).map CasD.sw).map lnx):=by
 have h6:=(h.st k hk).le;unfold m234;rw [Aj,Bg hk,ob_];have:=bldI (L:=Hr FF (stp s k)) (N:=(stp s k).Strokes.length) (f:=λi=>[lnx (CasD.sw (((stp s k).Strokes.getD i default).Actuator.toNat,((stp s k).Strokes.getD i default).Out))]) (acc0:=[]) om_ (λ_ _=>by simp) Av (λm i acc hi ha=>by
  have hx:=gE_ hi;have hac:=(h.st k hk).ac _ (List.getElem_mem hi);have hd:(stp s k).Strokes.getD i default=(stp s k).Strokes[i]:=by rw [List.getD_eq_getElem?_getD,hx];rfl
  rw [Hr];dsimp only;rw [Al,dt_ hi,ct_,Aj,hx,ob_,Am om_,hd];rw [Ao (x:=2 * (stp s k).Strokes[i].Actuator) om_ om_];cases ho:(stp s k).Strokes[i].Out with
  | true=>
   rw [ct_,Ao om_ om_,ob_,show 2 * (stp s k).Strokes[i].Actuator + 1=((CasD.sw ((stp s k).Strokes[i].Actuator.toNat,true):Nat):Int) by unfold CasD.sw;show _=((2 * (stp s k).Strokes[i].Actuator.toNat + 1:Nat):Int);omega,Bk,ob_,Be so_,ob_]
  | false=>
   rw [cf_,ob_,show 2 * (stp s k).Strokes[i].Actuator=((CasD.sw ((stp s k).Strokes[i].Actuator.toNat,false):Nat):Int) by unfold CasD.sw;show _=((2 * (stp s k).Strokes[i].Actuator.toNat + 0:Nat):Int);omega,Bk,ob_,Be so_,ob_]) (λm acc=>by
  rw [Hr];dsimp only;rw [Al,df_ om_,cf_])
 rw [this,AV,ob_];unfold S;rw [List.map_map,List.map_map,List.nil_append];exact congrArg some (map_rg (l:=(stp s k).Strokes) (d:=default) (f:=λy=>lnx (CasD.sw (y.Actuator.toNat,y.Out))))
theorem Gu (h:Sq4 s) {k:Nat} (hk:k < n s) {a b:Int} {d g st:List Int} {i:List ByteArray} {sg:List Ae} {p q:List Int}:m227 FF (k:Int) a b s.Steps d g (tms s) st i sg p q=some (((dat s).en k).map lnx):=by
 unfold m227;rw [Aj,tms_get hk,ob_];unfold CasD.en;by_cases hw:W s k=true
 ·rw [if_pos hw,if_pos (show (dat s).W k=true from hw),dt_ om_,ct_,ob_,Bk];rfl
 ·rw [if_neg hw,if_neg (show ¬ (dat s).W k=true from hw),df_ om_,cf_,Ry h hk];rfl
theorem Zt (h:Sq4 s) {b:Int} {st:List Int} {i:List ByteArray} {sg:List Ae} {p q:List Int}:m157 FF s.Actuators b s.Steps (cin (dv s)) [] [] st i sg p q=some (cin (lnz s),tms s):=by
 have hA:=h.A6;have hG:=h.G64;have hn:=h.n;have h2:=h.q.g2;unfold m157;have e1:=bldI (L:=Jh s.Actuators (cin (dv s))) (N:=G s) (f:=λj=>[((2 * A s + 1 + j:Nat):Int)]) (acc0:=[]) om_ (λ_ _=>by simp) Av (λm i acc hi ha=>by
  rw [Jh];dsimp only;rw [Ke,Al,dt_ hi,ct_,h.Ac,Ao (x:=2 * ((A s:Nat):Int)) om_ om_,Ao (x:=2 * ((A s:Nat):Int) + 1) om_ om_,Ao om_ om_,Be so_,ob_,Am om_];congr 4) (λm acc=>by
  rw [Jh];dsimp only;rw [Ke,Al,df_ om_,cf_])
 rw [e1,AV,ob_,List.nil_append];dsimp only;rw [Ke];have e2:(bif ((G s:Int) == 2) then (Vm FF ((List.range (G s)).map λj=>((2 * A s + 1 + j:Nat):Int))).bind λx6=>some x6 else some ((List.range (G s)).map λj=>((2 * A s + 1 + j:Nat):Int)))=some (cin (lnz s)):=by
  by_cases e:G s=2
  ·rw [show ((G s:Int) == 2)=true by rw [beq_iff_eq];omega,ct_,e];have:cin (lnz s)=[((2 * A s + 1 + 1:Nat):Int),((2 * A s + 1:Nat):Int)]:=by
    unfold lnz cin;rw [e];show [((2 * A s + 1 + (if G s=2 then 1 - 0 else 0):Nat):Int),((2 * A s + 1 + (if G s=2 then 1 - 1 else 1):Nat):Int)]=_
    rw [e];rfl
   rw [this];rfl
  ·rw [show ((G s:Int) == 2)=false by rw [beq_eq_false_iff_ne];omega,cf_];unfold lnz cin;rw [List.map_map];refine congrArg some (List.map_congr_left λj hj=>?_);show _=((2 * A s + 1 + (if G s=2 then 1 - j else j):Nat):Int)
   rw [if_neg e]
 rw [e2,ob_,h.Ac,Ao (x:=2 * ((A s:Nat):Int)) om_ om_,Ao (x:=2 * ((A s:Nat):Int) + 1) om_ om_,Ao om_ om_];obtain ⟨v,hv,hh⟩:=Te (L:=Fp s.Steps) (mk:=λi (v:Int×List Int)=>(v.1,(i:Int),v.2)) (N:=n s) (I:=λi v=>v=(((2 * A s + 1 + G s + cts s i:Nat):Int),(List.range i).map λk=>if W s k=true then (((dat s).L (.tm k):Nat):Int) else -1)) (λm i v hi hI=>by
  subst hI;have hc:=Oh (s:=s) (k:=i);have hcs:=cts_s (s:=s) i;rw [Fp];dsimp only;rw [C7 hi,ct_,Aj,Bg hi,ob_];by_cases hw:W s i=true
  ·have:=BM.1 hw;rw [show ((stp s i).Wait == 0)=false by rw [beq_eq_false_iff_ne];exact this,cf_,Be so_,ob_,Am om_,Am om_];refine ⟨(((2 * A s + 1 + G s + cts s i + 1:Nat):Int),(List.range i).map (λk=>if W s k=true then (((dat s).L (.tm k):Nat):Int) else -1) ++ [((2 * A s + 1 + G s + cts s i:Nat):Int)]),?_,rfl⟩
   rw [List.range_succ,List.map_append,hcs];simp only [List.map_cons,List.map_nil,if_pos hw];have e:(dat s).L (.tm i)=2 * A s + 1 + G s + cts s i:=by show 2 * A s + 1 + (G s + cts s i)=_;omega
   rw [e];rfl
  ·have:(stp s i).Wait=0:=by
    rcases Int.lt_trichotomy (stp s i).Wait 0 with e | e | e
    ·exact absurd (BM.2 om_) hw
    ·exact e
    ·exact absurd (BM.2 om_) hw
   rw [show ((stp s i).Wait == 0)=true by rw [beq_iff_eq];exact this,ct_,Be so_,ob_,Am om_];refine ⟨(((2 * A s + 1 + G s + cts s i:Nat):Int),(List.range i).map (λk=>if W s k=true then (((dat s).L (.tm k):Nat):Int) else -1) ++ [-1]),?_,rfl⟩
   rw [List.range_succ,List.map_append,hcs];simp only [List.map_cons,List.map_nil,if_neg hw];rfl) (λm v hI=>by
  rw [Fp];dsimp only;rw [C6,cf_]) FF 0 (((2 * A s + 1 + G s:Nat):Int),[]) om_ uF rfl
 try dsimp only at hh
 rw [n0] at hh;rw [show 2 * ((A s:Nat):Int) + 1 + (G s:Int)=((2 * A s + 1 + G s:Nat):Int) by omega,hh,ob_];subst hv;rfl
theorem Gv (h:Sq4 s) {x:Ae} {b:List Step} {d g t st:List Int} {i:List ByteArray} {sg:List Ae} {p q:List Int} {a:Int} (hl:sg.length<=100000):m225 FF x s.Actuators a b d g t st i sg p q=some (((2 * A s + (sg.length + 1):Nat):Int),sg ++ [x]):=by
 have hA:=h.A6;unfold m225;rw [Be so_,ob_,h.Ac,List.length_append,Ao (x:=2 * ((A s:Nat):Int)) om_ om_,Ao so_ so_];rfl
theorem Gr (h:Sq4 s) {x:ByteArray} {e:Expr} {b:List Step} {d g t st:List Int} {i:List ByteArray} {sg:List Ae} {p q:List Int} {a:Int} (hl:sg.length<=100000):m229 FF x e s.Actuators a b d g t st i sg p q=some (((2 * A s + (sg.length + 1):Nat):Int),sg ++ [⟨x,0,e,zxp,0,false⟩]):=by
 unfold m229;rw [Gv h hl,ob_]
theorem Zs (h:Sq4 s) {st:List Int} {i:List ByteArray} {p q:List Int}:m158 FF s.Actuators s.Actuators s.Steps (cin (dv s)) (cin (lnz s)) (tms s) st i [] p q=some (s.Actuators,s.Actuators,s.Steps,cin (dv s),cin (lnz s),tms s,st,i,sgG nmS s,p,q):=by
 have hG:=h.G64;have hn:=h.n;have h0:=h.q.n0;have h2:=h.q.g2;have hA:=h.A6;unfold m158;rw [Ke];by_cases e:G s=2
 ·rw [show ((G s:Int) == 2)=true by rw [beq_iff_eq];omega,ct_];rw [show (0:Int)=((0:Nat):Int) from rfl,show (1:Int)=((1:Nat):Int) from rfl];rw [Ly h (j:=0) rfl rfl om_,ob_,Gu h (Et h om_),ob_,Dx,ob_];rw [Ly h (j:=1) rfl rfl om_,ob_,Gu h (Et h om_),ob_,Dx,ob_];rw [Gv h Av,ob_];dsimp only;rw [Bk,ob_,Gr h Av,ob_];have hs:sgG nmS s=[⟨nmS (.gl 1),1,Do 3 ((dat s).en (las s 0)),Do 3 ((dat s).en (las s 1)),0,false⟩,⟨nmS (.gl 0),0,⟨2,0,[lnx ((dat s).L (.gl 1))]⟩,zxp,0,false⟩]:=by unfold sgG;rw [if_pos e]
  rw [hs];have hL:(dat s).L (.gl 1)=2 * A s + (([]:List Ae).length + 1):=by
   rw [L_eq];show 2 * A s + 1 + (if G s=2 then 1 - 1 else 1)=_
   rw [if_pos e];rfl
  rw [hL];rfl
 ·rw [show ((G s:Int) == 2)=false by rw [beq_eq_false_iff_ne];omega,cf_];have:=bldI (L:=Jg FF s.Actuators s.Actuators s.Steps (cin (dv s)) (cin (lnz s)) (tms s) st i p q) (N:=G s) (f:=λj=>[(⟨nmS (.gl j),1,Do 3 ((dat s).L (.gl ((dat s).pv j)) :: (dat s).en (las s ((dat s).pv j))),lnx ((dat s).L (.gl ((dat s).nx j))),0,decide (j=0)⟩:Ae)]) (acc0:=[]) om_ (λ_ _=>by simp) Av (λm j acc hi ha=>by
   have hp:(dat s).pv j < G s:=CasD.pvl (q:=dat s) h2 hi;have hx:(dat s).nx j < G s:=CasD.nxl (q:=dat s) h2;have ep:(j + G s - 1) % G s=(dat s).pv j:=by
    show _=if j=0 then G s - 1 else j - 1
    by_cases e0:j=0
    ·subst e0;rw [if_pos rfl,Nat.zero_add,Nat.mod_eq_of_lt om_]
    ·rw [if_neg e0,show j + G s - 1=(j - 1) + G s by omega,Nat.add_mod_right,Nat.mod_eq_of_lt om_]
   have ex:(j + 1) % G s=(dat s).nx j:=by
    show _=if j + 1 < G s then j + 1 else 0
    by_cases e0:j + 1 < G s
    ·rw [if_pos e0,Nat.mod_eq_of_lt e0]
    ·rw [if_neg e0,show j + 1=G s by omega,Nat.mod_self]
   obtain ⟨x,hx1,hx2,_⟩:=itz (k:=j) om_;have hl:acc.length<=100000:=by
    have:=ha.2;simp at this;omega
   rw [Jg];dsimp only;have e0:((j:Int) == 0)=decide (j=0):=by rw [Bool.eq_iff_iff];simp
   rw [Ke,Al,dt_ hi,ct_,Ao (x:=(j:Int) + (G s:Int)) om_ om_,Ao om_ om_,show (j:Int) + (G s:Int) - 1=((j + G s - 1:Nat):Int) by omega,Lb om_,ep,ob_,hx1,ob_,hx2,ob_,Aj,Py hp,ob_,Ly h rfl rfl hp,ob_,Am om_,Lb om_,ex,ob_,Aj,Py hx,ob_,Gu h (Et h hp),ob_,Lx (by have:=A9 h (Et h hp);omega),ob_,Bk,ob_,Gv h hl,ob_,e0];rfl) (λm acc=>by
   rw [Jg];dsimp only;rw [Ke,Al,df_ om_,cf_])
  rw [this,AV,ob_];have hs:sgG nmS s=(List.range (G s)).map λj=>(⟨nmS (.gl j),1,Do 3 ((dat s).L (.gl ((dat s).pv j)) :: (dat s).en (las s ((dat s).pv j))),lnx ((dat s).L (.gl ((dat s).nx j))),0,decide (j=0)⟩:Ae):=by unfold sgG;rw [if_neg e]
  rw [hs,List.nil_append]
end Go.Pn
namespace Go.Pn
open Go
theorem Qe {E:Nat->Int}:∀ {k i:Nat},(∀ j,i<=j->j < i + k->E j=0)->Vw E k i=0
 | 0,_,_=>rfl
 | k + 1,i,h=>by
  unfold Vw;rw [if_pos (h i om_ om_)];exact Qe λj h1 h2=>h j om_ om_
theorem C9 {c:Aa} (hw:Fw c):∃ e,m144 FF c=some e/\m22 FF c=some e/\(e=0->Rt c)/\(Bd_ c->(∀ i,i < c.Inputs.length->nme c (2 * cA c + i)=0)->(∀ i,i < c.Signals.length->sgE c i=0)->plE c=0->e=0):=by
 unfold m144 m213 m22;by_cases hA:c.Actuators < 1\/c.Actuators > 6
 ·have:(decide (c.Actuators < 1) || decide (c.Actuators > 6))=true:=by simpa using hA
  rw [this];exact ⟨2,rfl,rfl,by simp,λh=>by have:=h.a1;have:=h.a6;omega⟩
 have:(decide (c.Actuators < 1) || decide (c.Actuators > 6))=false:=by simp;omega
 rw [this,cf_,cf_];by_cases hI:c.Inputs.length > 16\/c.Signals.length > 64
 ·have:(decide ((c.Inputs.length:Int) > 16) || decide ((c.Signals.length:Int) > 64))=true:=by simp;omega
  rw [this];exact ⟨5,rfl,rfl,by simp,λh=>by have:=h.i;have:=h.s;omega⟩
 have:(decide ((c.Inputs.length:Int) > 16) || decide ((c.Signals.length:Int) > 64))=false:=by simp;omega
 rw [this,cf_,cf_];have h:Bd_ c:=⟨by omega,by omega,by omega,by omega⟩;have ha:=h.a';have h2:=h.i;have h3:=h.s;have hS:cS c=2 * cA c + c.Inputs.length:=rfl;have hL:cL c=cS c + c.Signals.length:=rfl;have hF:600<=FF:=by unfold FF;omega
 obtain ⟨z,m1,e1,k1⟩:=Jx h FF 0 [] om_ uF (Wj.zero c);rw [n0] at e1;rw [e1,ob_];dsimp only;have A1:=fnzI (L:=Dz FF c) (mk:=λi m=>((i:Int),m)) (N:=c.Inputs.length) (E:=λi=>nme c (2 * cA c + i)) (r:=λe=>Sum.inl e) (I:=λi m=>Wj c (2 * cA c + i) m) (λn i m hi hm=>by
  have hnm:nmF c (2 * cA c + i)=c.Inputs[i]:=by
   unfold nmF;rw [if_neg om_,if_pos om_,show 2 * cA c + i - 2 * cA c=i by omega];simp [gE_ hi]
  obtain ⟨m',hm',hk'⟩:=Rs h (hw.nm (2 * cA c + i)) hF hm c.Actuators c.Inputs c.Signals c.Plus c.Minus;rw [hnm] at hm';rw [Dz];dsimp only;rw [Al,dt_ hi,ct_,Aj,gE_ hi,ob_,hm',ob_];dsimp only;refine ⟨λh0=>⟨m',hk' h0,?_⟩,λh0=>?_⟩
  ·rw [h0,zf_,cf_,Am om_]
  ·rw [show (nme c (2 * cA c + i) != 0)=true by simpa using h0,ct_]) (λn m _=>by
  rw [Dz];dsimp only;rw [Al,df_ om_,cf_]) c.Inputs.length FF 0 m1 om_ uF k1
 have B1:=fnzI (L:=Nv FF c) (mk:=λi (_:Unit)=>(i:Int)) (N:=c.Inputs.length) (E:=λi=>nme c (2 * cA c + i)) (r:=λe=>e) (I:=λ_ _=>True) (λn i _ hi _=>by
  rw [Nv,Al,dt_ hi,ct_,h.wa,Ao om_ om_,show ((2 * cA c:Nat):Int) + (i:Int)=((2 * cA c + i:Nat):Int) by omega,Vh h om_ (hw.nm _) hF,ob_];refine ⟨λh0=>⟨(),trivial,?_⟩,λh0=>?_⟩
  ·rw [h0,zf_,cf_,Am om_]
  ·rw [show (nme c (2 * cA c + i) != 0)=true by simpa using h0,ct_]) (λn _ _=>by
  rw [Nv,Al,df_ om_,cf_]) c.Inputs.length FF 0 () om_ uF trivial
 try dsimp only at A1 B1
 rw [n0] at A1 B1;have hzA:(∀ i,i < c.Inputs.length->nme c (2 * cA c + i)=0)->Vw (λi=>nme c (2 * cA c + i)) c.Inputs.length 0=0:=λh=>Qe λj _ hj=>h j om_;generalize Vw (λi=>nme c (2 * cA c + i)) c.Inputs.length 0=E1 at A1 B1 hzA;rcases A1 with ⟨z1,m2,k2,A1⟩ | ⟨z1,A1⟩
 case inr=>
  rcases B1 with ⟨z2,_⟩ | ⟨_,B1⟩
  ·exact absurd z2 z1
  rw [A1,B1];exact ⟨E1,rfl,rfl,λh=>absurd h z1,λ_ h _ _=>absurd (hzA h) z1⟩
 rcases B1 with ⟨_,_,_,B1⟩ | ⟨z2,_⟩
 case inr=>exact absurd z1 z2
 rw [A1,B1,ob_,ob_];dsimp only;have hget:∀ i,i < c.Signals.length->∃ x,c.Signals[i]?=some x/\sgE c i=sge c i x:=λi hi=>⟨c.Signals[i],gE_ hi,by unfold sgE;rw [gE_ hi]⟩;have A2:=fnzI (L:=Dy FF c) (mk:=λi m=>((i:Int),m)) (N:=c.Signals.length) (E:=sgE c) (r:=λe=>Sum.inl e) (I:=λi m=>Wj c (cS c + i) m) (λn i m hi hm=>by
  obtain ⟨x,hx,hsg⟩:=hget i hi;obtain ⟨m',hm',hk'⟩:=Yr h hw hx hm;rw [Dy,hsg];dsimp only;rw [Al,dt_ hi,ct_,hm',ob_];dsimp only;refine ⟨λh0=>⟨m',hk' h0,?_⟩,λh0=>?_⟩
  ·rw [h0,zf_,cf_,Am om_]
  ·rw [show (sge c i x != 0)=true by simpa using h0,ct_]) (λn m _=>by
  rw [Dy];dsimp only;rw [Al,df_ om_,cf_]) c.Signals.length FF 0 m2 om_ uF k2
 have B2:=fnzI (L:=Nu FF c) (mk:=λi (_:Unit)=>(i:Int)) (N:=c.Signals.length) (E:=sgE c) (r:=λe=>e) (I:=λ_ _=>True) (λn i _ hi _=>by
  obtain ⟨x,hx,hsg⟩:=hget i hi;rw [Nu,Al,dt_ hi,ct_,CM h hw hx,ob_,hsg];refine ⟨λh0=>⟨(),trivial,?_⟩,λh0=>?_⟩
  ·rw [h0,zf_,cf_,Am om_]
  ·rw [show (sge c i x != 0)=true by simpa using h0,ct_]) (λn _ _=>by
  rw [Nu,Al,df_ om_,cf_]) c.Signals.length FF 0 () om_ uF trivial
 try dsimp only at A2 B2
 rw [n0] at A2 B2;have hz:Vw (sgE c) c.Signals.length 0=0->∀ j,j < c.Signals.length->sgE c j=0:=λh j hj=>Tg h j om_ om_;have hzB:(∀ i,i < c.Signals.length->sgE c i=0)->Vw (sgE c) c.Signals.length 0=0:=λh=>Qe λj _ hj=>h j om_;generalize Vw (sgE c) c.Signals.length 0=E2 at A2 B2 hz hzB;rcases A2 with ⟨z1,m3,k3,A2⟩ | ⟨z1,A2⟩
 case inr=>
  rcases B2 with ⟨z2,_⟩ | ⟨_,B2⟩
  ·exact absurd z2 z1
  rw [A2,B2];exact ⟨E2,rfl,rfl,λh=>absurd h z1,λ_ _ h _=>absurd (hzB h) z1⟩
 rcases B2 with ⟨_,_,_,B2⟩ | ⟨z2,_⟩
 case inr=>exact absurd z1 z2
 rw [A2,B2,ob_,ob_];dsimp only;rw [CL h];refine ⟨plE c,?_,rfl,λh0=>?_,λ_ _ _ h=>h⟩
 ·unfold plE;by_cases h1:(c.Plus.length:Int)≠c.Actuators\/(c.Minus.length:Int)≠c.Actuators
  ·rw [if_pos h1,show (((c.Plus.length:Int) != c.Actuators) || ((c.Minus.length:Int) != c.Actuators))=true by simpa using h1,ct_];rfl
  ·rw [if_neg h1,show (((c.Plus.length:Int) != c.Actuators) || ((c.Minus.length:Int) != c.Actuators))=false by simp;omega,cf_];have h6:=h.a6;rw [Md om_ om_,ob_,CO h so_,ob_];cases (c.Plus ++ c.Minus).any (bad (cL c)) <;> rfl
 ·unfold plE at h0;split at h0
  ·contradiction
  ·split at h0
   ·contradiction
   ·rename_i h1 h2;have h6:=h.a;have hsz:∀ x∈c.Signals,(0<=x.Kind/\x.Kind < 3/\okE 16 (cL c) x.On/\(x.Kind=1->okE 16 (cL c) x.Off))/\(x.Kind=2->x.Init=false):=λx hx=>by
     obtain ⟨i,hi⟩:=List.getElem?_of_mem hx;have h5:=hz z1 i (List.getElem?_eq_some_iff.1 hi).1;have:sge c i x=0:=by
      unfold sgE at h5;rw [hi] at h5;exact h5
     exact B6 hw hi this
    refine ⟨h,λx hx=>(hsz x hx).1,by omega,by omega,λl hl=>?_,λx hx=>(hsz x hx).2⟩
    ·have h5:(c.Plus ++ c.Minus).any (bad (cL c))=false:=by simpa using h2
     have:=List.any_eq_false.1 h5 l hl;unfold bad at this;simp at this;omega
end Go.Pn
namespace Go.Pn
open Go
structure Fla (x:Expr):Prop where
 l:x.Args.length<=100
 a:∀ y∈x.Args,y.Args=[]
theorem Fla.lnx (n:Nat):Fla (lnx n):=⟨by unfold Pn.lnx;simp,λy h=>by cases h⟩
theorem Fla.sev {op:Int}:∀ {l:List Nat},l.length<=100->Fla (Do op l)
 | [],_=>⟨by unfold Do;simp,λy h=>by cases h⟩
 | [n],_=>Fla.lnx n
 | a :: b :: t,h=>⟨by show ((a :: b :: t).map Pn.lnx).length<=100;rw [List.length_map];exact h,λy hy=>by
   have hy:y∈(a :: b :: t).map Pn.lnx:=hy;obtain ⟨n,_,rfl⟩:=List.mem_map.1 hy;rfl⟩
theorem Fla.not {n:Nat}:Fla ⟨2,0,[Pn.lnx n]⟩:=⟨by simp,λy hy=>by
 obtain rfl:=List.mem_singleton.1 hy;rfl⟩
theorem Fla.zxp:Fla zxp:=⟨by simp,λy h=>by cases h⟩
theorem Yz {f:Nat} {y:Expr} {v:Int} (h:y.Args=[]):m205 (f + 2) y v=some 1:=by
 show (Ci (m205 (f + 1)) y v (f + 1) (1,0)).bind _=_;rw [Ci];dsimp only;rw [h];rfl
theorem Yx {f:Nat} {y:Expr} {v:Int} (h:y.Args=[]) (hv:2<=v):m206 (f + 2) y v=some true:=by
 show (bif decide (v < 1) then some false else bif v == 1 then _ else (Ca (m206 (f + 1)) y v (f + 1) 0).bind _)=_;rw [df_ om_,cf_,show (v == 1)=false by rw [beq_eq_false_iff_ne];omega,cf_,Ca,h];rfl
theorem Zv {x:Expr} (h:Fla x):m139 FF x=some true:=by
 have hl:=h.l;have h30:m205 FF x 256=some ((1 + x.Args.length:Nat):Int):=by
  have key:∀ (m i:Nat),i<=x.Args.length->x.Args.length - i < m->Ci (m205 99999) x 256 m (((1 + i:Nat):Int),(i:Int))=some (((1 + x.Args.length:Nat):Int),(x.Args.length:Int)):=by
   intro m
   induction m with
   | zero=>intro i _ h;omega
   | succ m ih=>
    intro i h1 h2;rw [Ci];dsimp only;by_cases hi:i < x.Args.length
    ·rw [Al,dt_ hi,dt_ (by omega:((1 + i:Nat):Int)<=256),Bool.and_true,ct_,Aj,gE_ hi,ob_];have:=Yz (f:=99997) (v:=wr (256 - ((1 + i:Nat):Int))) (h.a _ (List.getElem_mem hi));rw [this,ob_,Am om_,Am om_];exact ih (i + 1) om_ om_
    ·obtain rfl:i=x.Args.length:=by omega
     rw [Al,df_ om_,Bool.false_and,cf_]
  show (Ci (m205 99999) x 256 99999 (((1 + 0:Nat):Int),((0:Nat):Int))).bind _=_;rw [key 99999 0 om_ om_];rfl
 have h31:m206 FF x 16=some true:=by
  have key:∀ (m i:Nat),i<=x.Args.length->x.Args.length - i < m->Ca (m206 99999) x 16 m (i:Int)=some (.brk (x.Args.length:Int)):=by
   intro m
   induction m with
   | zero=>intro i _ h;omega
   | succ m ih=>
    intro i h1 h2;rw [Ca];by_cases hi:i < x.Args.length
    ·rw [Al,dt_ hi,ct_,Aj,gE_ hi,ob_,show wr ((16:Int) - 1)=15 from rfl,Yx (f:=99997) (h.a _ (List.getElem_mem hi)) om_,ob_,Bool.not_true,cf_,Am om_];exact ih (i + 1) om_ om_
    ·obtain rfl:i=x.Args.length:=by omega
     rw [Al,df_ om_,cf_]
  show (Ca (m206 99999) x 16 99999 ((0:Nat):Int)).bind _=_;rw [key 99999 0 om_ om_];rfl
 unfold m139;rw [h30,ob_,dt_ (by omega:((1 + x.Args.length:Nat):Int)<=256),ct_,h31];rfl
theorem BQ {x:Expr} (h:Fla x):Lt_ x/\m139 FF x=some true:=by
 have h1:=Zv h;obtain ⟨b,hb,hb2⟩:=Zu (f:=FF) uF x;rw [h1] at hb;exact ⟨hb2 (Option.some.inj hb).symm,h1⟩
theorem nod_lnx {N n:Nat} (h:n < N):nod (N:Int) (lnx n)=0:=by
 unfold nod lnx;simp;rw [df_ om_,df_ om_];rfl
theorem Ql {d N n:Nat} (h:n < N):chE (d + 1) (N:Int) (lnx n)=0:=by
 unfold chE;rw [if_pos (nod_lnx h)];rfl
theorem Un:∀ {l:List Int},(∀ a∈l,a=0)->fnz l=0
 | [],_=>rfl
 | a :: l,h=>by
  unfold fnz;rw [if_pos (h a Av)];exact Un λb hb=>h b (by simp [hb])
theorem Jm {d N:Nat} {op:Int} (ho:op=3\/op=4):∀ {l:List Nat},l≠[]->(∀ n∈l,n < N)->chE (d + 2) (N:Int) (Do op l)=0
 | [],h,_=>absurd rfl h
 | [n],_,h=>Ql (h n Av)
 | a :: b :: t,_,h=>by
  have hn:nod (N:Int) (Do op (a :: b :: t))=0:=by
   show nod (N:Int) ⟨op,0,(a :: b :: t).map lnx⟩=0;unfold nod;rcases ho with rfl | rfl <;> simp <;> (rw [df_ om_]; rfl)
  show (if nod (N:Int) (Do op (a :: b :: t))=0 then fnz (((a :: b :: t).map lnx).map (chE (d + 1) (N:Int))) else _)=0
  rw [if_pos hn];refine Un λe he=>?_;obtain ⟨y,hy,rfl⟩:=List.mem_map.1 he;obtain ⟨n,hn,rfl⟩:=List.mem_map.1 hy;exact Ql (h n hn)
theorem chE_not {d N n:Nat} (h:n < N):chE (d + 2) (N:Int) ⟨2,0,[lnx n]⟩=0:=by
 have hn:nod (N:Int) ⟨2,0,[lnx n]⟩=0:=by unfold nod;simp
 show (if nod (N:Int) ⟨2,0,[lnx n]⟩=0 then fnz (([lnx n]).map (chE (d + 1) (N:Int))) else _)=0
 rw [if_pos hn];refine Un λe he=>?_;obtain ⟨y,hy,rfl⟩:=List.mem_map.1 he;obtain rfl:=List.mem_singleton.1 hy;exact Ql h
theorem Ua {d n:Nat} {k:Int} (h:occ (d + 1) k (lnx n)=true):k=(n:Int):=by
 unfold occ lnx at h;simp at h;omega
theorem Xy {d:Nat} {op:Int} {k:Int} (ho:op=3\/op=4):∀ {l:List Nat},occ (d + 2) k (Do op l)=true->∃ n∈l,k=(n:Int)
 | [],h=>by
  unfold Do occ at h;rcases ho with rfl | rfl <;> simp at h
 | [n],h=>⟨n,by simp,Ua h⟩
 | a :: b :: t,h=>by
  have h:occ (d + 2) k ⟨op,0,(a :: b :: t).map lnx⟩=true:=h;unfold occ at h;rw [if_neg (by show ¬ op=1;omega),List.any_eq_true] at h;obtain ⟨y,hy,h⟩:=h;obtain ⟨n,hn,rfl⟩:=List.mem_map.1 hy;exact ⟨n,hn,Ua h⟩
theorem occ_not {d n:Nat} {k:Int} (h:occ (d + 2) k ⟨2,0,[lnx n]⟩=true):k=(n:Int):=by
 unfold occ at h;rw [if_neg (by show ¬ (2:Int)=1;omega),List.any_eq_true] at h;obtain ⟨y,hy,h⟩:=h;obtain rfl:=List.mem_singleton.1 hy;exact Ua h
end Go.Pn
namespace Go.Pn
open Go
open Csc
variable {s:Ah}
structure Sq5 (s:Ah):Prop extends Sq4 s where
 sig:(sgs nmS s).length<=64
def nma:List ByteArray:=(List.range 12).map fx ++ ([⟨#[115,116,97,114,116]⟩] ++ ((List.range 64).map (nbr 103) ++ ((List.range 64).map (nbr 119) ++ ((List.range 64).map (nbr 115) ++ (List.range 6).flatMap λa=>[nmS (.pl a true),nmS (.pl a false)]))))
theorem nma_len:nma.length=217:=by kernel_rfl
set_option maxRecDepth 100000 in
theorem nma_tab:nma.all (λx=>wd x && decide (x.size<=24))=true:=by kernel_rfl
set_option maxRecDepth 100000 in
theorem CG:((List.range 217).all λi=>(List.range i).all λj=>!((nma.getD j ⟨#[]⟩).data.toList == (nma.getD i ⟨#[]⟩).data.toList))=true:=by kernel_rfl
def bdS (A n:Nat) (x:Sg):Prop:=match x with
 | .gl j=>j < n
 | .tm k=>k < n
 | .sg k=>k < n
 | .pl a _=>a < A
def nix (s:Ah) (x:Sg):Nat:=match x with
 | .gl j=>13 + j
 | .tm k=>77 + k
 | .sg k=>141 + k
 | .pl a o=>205 + 2 * a + (if o=true then 0 else 1)
set_option maxRecDepth 100000 in
theorem nma_fx {i:Nat} (h:i < 12):nma[i]?=some (fx i):=by
 unfold nma;rw [List.getElem?_append_left (by simpa using h),List.getElem?_map,List.getElem?_range h];rfl
set_option maxRecDepth 100000 in
theorem nma_sg {x:Sg} {A n:Nat} (hA:A<=6) (hn:n<=64) (hx:bdS A n x):nma[nix s x]?=some (nmS x):=by
 unfold nma;cases x with
 | gl j=>
  have hj:j < n:=hx;rw [List.getElem?_append_right (by simp [nix];omega),List.getElem?_append_right (by simp [nix];omega),List.getElem?_append_left (by simp [nix];omega),List.getElem?_map,List.getElem?_range (by simp [nix];omega)];simp only [nix,List.length_map,List.length_range,List.length_cons,List.length_nil,Option.map_some];congr 2;omega
 | tm k=>
  have hk:k < n:=hx;rw [List.getElem?_append_right (by simp [nix];omega),List.getElem?_append_right (by simp [nix];omega),List.getElem?_append_right (by simp [nix];omega),List.getElem?_append_left (by simp [nix];omega),List.getElem?_map,List.getElem?_range (by simp [nix];omega)];simp only [nix,List.length_map,List.length_range,List.length_cons,List.length_nil,Option.map_some];congr 2;omega
 | sg k=>
  have hk:k < n:=hx;rw [List.getElem?_append_right (by simp [nix];omega),List.getElem?_append_right (by simp [nix];omega),List.getElem?_append_right (by simp [nix];omega),List.getElem?_append_right (by simp [nix];omega),List.getElem?_append_left (by simp [nix];omega),List.getElem?_map,List.getElem?_range (by simp [nix];omega)];simp only [nix,List.length_map,List.length_range,List.length_cons,List.length_nil,Option.map_some];congr 2;omega
 | pl a o=>
  have ha:a < A:=hx;obtain ⟨h1,h2⟩:=Mo (f:=λa=>nmS (.pl a true)) (h:=λa=>nmS (.pl a false)) (n:=6) (a:=a) om_;rw [List.getElem?_append_right (by simp [nix];omega),List.getElem?_append_right (by simp [nix];omega),List.getElem?_append_right (by simp [nix];omega),List.getElem?_append_right (by simp [nix];omega),List.getElem?_append_right (by simp [nix];omega)];simp only [nix,List.length_map,List.length_range,List.length_cons,List.length_nil];cases o with
  | true=>rw [if_pos rfl,show 205 + 2 * a + 0 - 12 - (0 + 1) - 64 - 64 - 64=2 * a by omega];exact h1
  | false=>rw [if_neg (by decide),show 205 + 2 * a + 1 - 12 - (0 + 1) - 64 - 64 - 64=2 * a + 1 by omega];exact h2
theorem nix_inj {x y:Sg} {A n:Nat} (hA:A<=6) (hn:n<=64) (hx:bdS A n x) (hy:bdS A n y) (h:nix s x=nix s y):x=y:=by
 cases x <;> cases y <;> simp only [nix] at h <;> simp only [bdS] at hx hy
 case gl.gl=>congr 1;omega
 case tm.tm=>congr 1;omega
 case sg.sg=>congr 1;omega
 case pl.pl a o b p=>
  cases o <;> cases p <;> simp at h
  ·congr 1;omega
  ·omega
  ·omega
  ·congr 1;omega
 all_goals first | omega | (split at h <;> omega)
theorem ok_bd (h:Sq4 s) {x:Sg} (hx:(dat s).ok x):bdS (A s) (n s) x:=by
 have hG:=h.G64;cases x with
 | gl j=>have hj:j < G s:=hx;show j < n s;omega
 | tm k=>exact hx.1
 | sg k=>exact hx
 | pl a o=>exact hx
set_option maxRecDepth 100000 in
theorem DJ (h:Sq5 s) {i:Nat} (hi:i < cL (cbl s)):∃ p,nma[p]?=some (nmF (cbl s) i)/\((i < 2 * A s/\p=i)\/(i=2 * A s/\p=12)\/∃ x,(dat s).ok x/\i=2 * A s + 1 + no s x/\p=nix s x):=by
 have h4:=h.toSq4;have hA:=h4.A6;have hcS:cS (cbl s)=2 * A s + 1:=rfl;have hcL:cL (cbl s)=cS (cbl s) + (sgs nmS s).length:=rfl;have hcas:=h.q.cas (N:=nmS) (i:=⟨#[115,116,97,114,116]⟩);unfold nmF;show ∃ p,nma[p]?=some (if i < 2 * A s then fx i else if i < cS (cbl s) then _ else _)/\_
 by_cases h1:i < 2 * A s
 ·rw [if_pos h1];exact ⟨i,nma_fx om_,.inl ⟨h1,rfl⟩⟩
 ·rw [if_neg h1];by_cases h2:i < cS (cbl s)
  ·obtain rfl:i=2 * A s:=by omega
   rw [if_pos h2];refine ⟨12,?_,.inr (.inl ⟨rfl,rfl⟩)⟩;show nma[12]?=some (([⟨#[115,116,97,114,116]⟩]:List ByteArray).getD (2 * A s - 2 * A s) _);rw [Nat.sub_self];unfold nma;rw [List.getElem?_append_right Av];rfl
  ·rw [if_neg h2];obtain ⟨x,hx,he,_⟩:=hcas.sur (i - cS (cbl s)) (by show _ < (sgs nmS s).length;omega);have he:no s x=i - cS (cbl s):=he;refine ⟨nix s x,?_,.inr (.inr ⟨x,hx,by omega,rfl⟩)⟩;rw [nma_sg hA h4.n (ok_bd h4 hx)];show _=some ((((sgs nmS s)[i - cS (cbl s)]?).map (·.Name)).getD _);rw [← he];have hnm:((sgs nmS s)[no s x]?).map (·.Name)=some (nmS x):=by
    cases x with
    | gl j=>
     have hj:j < G s:=hx;have h2:=h.q.g2;by_cases e:G s=2
     ·rcases (show j=0\/j=1 by omega) with rfl | rfl
      ·show ((sgs nmS s)[if G s=2 then 1 - 0 else 0]?).map _=_
       rw [if_pos e,Kx om_];unfold sgG;rw [if_pos e];rfl
      ·show ((sgs nmS s)[if G s=2 then 1 - 1 else 1]?).map _=_
       rw [if_pos e,Kx om_];unfold sgG;rw [if_pos e];rfl
     ·show ((sgs nmS s)[if G s=2 then 1 - j else j]?).map _=_
      rw [if_neg e,Kx hj];unfold sgG;rw [if_neg e,List.getElem?_map,List.getElem?_range hj];rfl
    | tm k=>show ((sgs nmS s)[G s + cts s k]?).map _=_;rw [B5 hx.1 hx.2];rfl
    | sg k=>show ((sgs nmS s)[G s + cts s (n s) + k]?).map _=_;rw [sgs_S hx];rfl
    | pl a o=>show ((sgs nmS s)[G s + cts s (n s) + n s + 2 * a + (if o=true then 0 else 1)]?).map _=_;rw [sgs_P hx];rfl
   rw [hnm];rfl
theorem Vf (h:Sq5 s) {i:Nat} (hi:i < cL (cbl s)):nme (cbl s) i=0:=by
 have h4:=h.toSq4;have hA:=h4.A6;have hn:=h4.n;obtain ⟨p,hp,hpk⟩:=DJ h hi;have hpl:=(List.getElem?_eq_some_iff.1 hp).1;have ok:=List.all_eq_true.1 nma_tab _ (List.mem_of_getElem? hp);rw [Bool.and_eq_true,decide_eq_true_iff] at ok;unfold nme;rw [if_pos ok.1,if_neg om_];have:((List.range i).any λj=>(nmF (cbl s) j).data.toList == (nmF (cbl s) i).data.toList)=false:=by
  rw [List.any_eq_false];intro j hj he;have hj:=List.mem_range.1 hj;obtain ⟨r,hr,hrk⟩:=DJ h (show j < cL (cbl s) by omega);have hrl:=(List.getElem?_eq_some_iff.1 hr).1;rw [nma_len] at hpl hrl;have hne:p≠r:=by
   intro e;subst e;have b1:∀ x,(dat s).ok x->13<=nix s x:=λx _=>by cases x <;> simp only [nix] <;> omega
   rcases hpk with ⟨a1,a2⟩ | ⟨a1,a2⟩ | ⟨x,a0,a1,a2⟩ <;> rcases hrk with ⟨c1,c2⟩ | ⟨c1,c2⟩ | ⟨y,c0,c1,c2⟩
   ·omega
   ·omega
   ·have:=b1 y c0;omega
   ·omega
   ·omega
   ·have:=b1 y c0;omega
   ·have:=b1 x a0;omega
   ·have:=b1 x a0;omega
   ·have:=nix_inj (s:=s) hA hn (ok_bd h4 a0) (ok_bd h4 c0) (a2.symm.trans c2);subst this;omega
  have key:∀ a b,a < 217->b < a->((nma.getD b ⟨#[]⟩).data.toList == (nma.getD a ⟨#[]⟩).data.toList)=false:=λa b ha hb=>by
   have h1:=List.all_eq_true.1 CG a (List.mem_range.2 ha);have h2:=List.all_eq_true.1 h1 b (List.mem_range.2 hb);simpa using h2
  have gp:nma.getD p ⟨#[]⟩=nmF (cbl s) i:=by rw [List.getD_eq_getElem?_getD,hp];rfl
  have gr:nma.getD r ⟨#[]⟩=nmF (cbl s) j:=by rw [List.getD_eq_getElem?_getD,hr];rfl
  rcases Nat.lt_or_ge r p with h5 | h5
  ·have:=key p r hpl h5;rw [gp,gr,he] at this;cases this
  ·have:=key r p hrl om_;rw [gp,gr,beq_iff_eq.1 he] at this;simp at this
 rw [this,if_neg (by decide)]
theorem L_lt {x:Sg} (hx:no s x < (sgs nmS s).length):(dat s).L x < cL (cbl s):=by
 show 2 * A s + 1 + no s x < 2 * A s + 1 + (sgs nmS s).length;omega
theorem no_lt (h:Sq4 s) {x:Sg} (hx:(dat s).ok x):no s x < (sgs nmS s).length:=by
 have h2:=h.q.g2;rw [Ew];cases x with
 | gl j=>
  have hj:j < G s:=hx;show (if G s=2 then 1 - j else j) < _
  split <;> omega
 | tm k=>
  have hk:k < n s:=hx.1;have h1:=(List.getElem?_eq_some_iff.1 (Cu hk hx.2)).1;show G s + cts s k < G s + cts s (n s) + n s + 2 * A s;have:cts s k < cts s (n s):=h1;omega
 | sg k=>
  have hk:k < n s:=hx;show G s + cts s (n s) + k < _;omega
 | pl a o=>
  have ha:a < A s:=hx;show G s + cts s (n s) + n s + 2 * a + (if o=true then 0 else 1) < _
  split <;> omega
theorem sw_lt (h:Sq4 s) {k:Nat} (hk:k < n s):∀ m∈(S s k).map CasD.sw,m < 2 * A s:=by
 intro m hm;obtain ⟨x,hx,rfl⟩:=List.mem_map.1 hm;have:=(h.q.cas (N:=nmS) (i:=⟨#[]⟩)).Sa k hk x hx;have hb:x.2.toNat<=1:=by cases x.2 <;> decide
 have:x.1 < A s:=this;unfold CasD.sw;omega
def Wt (s:Ah) (m:Nat):Prop:=m < 2 * A s + 1 + (G s + cts s (n s))
theorem Wa (h:Sq4 s) {k:Nat} (hk:k < n s):∀ m∈(dat s).en k,Wt s m:=by
 intro m hm;unfold CasD.en at hm;split at hm
 ·rename_i hw;obtain rfl:=List.mem_singleton.1 hm;have h1:=(List.getElem?_eq_some_iff.1 (Cu (p:=W s) hk hw)).1;have:cts s k < cts s (n s):=h1;show 2 * A s + 1 + (G s + cts s k) < _;omega
 ·have:=sw_lt h hk m hm;unfold Wt;omega
theorem Tc (h:Sq4 s) {j:Nat} (hj:j < G s):(dat s).L (.gl j) < 2 * A s + 1 + G s:=by
 have:=h.q.g2;show 2 * A s + 1 + (if G s=2 then 1 - j else j) < _
 split <;> omega
theorem bg_low (h:Sq4 s) {k:Nat} (hk:k < n s):∀ m∈(dat s).bg k,Wt s m:=by
 intro m hm;unfold CasD.bg at hm;split at hm
 ·obtain rfl:=List.mem_singleton.1 hm;show 2 * A s < _;omega
 ·split at hm
  ·exact Wa h om_ m hm
  ·cases hm
theorem Gy {m:Nat} (h:Wt s m):m < cL (cbl s):=by
 have hl:=Ew (N:=nmS) (s:=s);unfold Wt at h;show m < 2 * A s + 1 + (sgs nmS s).length;omega
theorem en_ne (h:Sq4 s) {k:Nat} (hk:k < n s):(dat s).en k≠[]:=by
 unfold CasD.en;split
 ·simp
 ·intro e;have:=List.map_eq_nil_iff.1 e;exact h.q.sq.ne k hk this
theorem at_ne (h:Sqc s) {a:Nat} (ha:a < A s) (o:Bool):(dat s).at_ a o≠[]:=by
 have hsq:=h.sq;obtain ⟨k,o',hk,hm⟩:=h.mv a ha;have key:∀ o,(∃ k,k < n s/\(a,o)∈S s k)->(dat s).at_ a o≠[]:=λo ⟨k,hk,hm⟩ e=>by
  have:k∈(dat s).at_ a o:=by
   unfold CasD.at_;rw [List.mem_filter,List.mem_range];exact ⟨hk,dt_ hm⟩
  rw [e] at this;cases this
 refine key o ?_;by_cases e:o=o'
 ·subst e;exact ⟨k,hk,hm⟩
 ·-- otherwise the actuator would not come back
  rcases Classical.em (∃ k,k < n s/\(a,o)∈S s k) with hx | hx
  ·exact hx
  ·exfalso;have hno:∀ i,i < n s->(a,o) ∉ S s i:=λi hi hm=>hx ⟨i,hi,hm⟩;cases o' with
   | true=>
    obtain rfl:o=false:=by cases o <;> simp_all
    have:∀ d,k + 1 + d<=n s->(dat s).pos (k + 1 + d) a=true:=by
     intro d
     induction d with
     | zero=>intro _;exact hsq.pos_in hk hm
     | succ d ih=>
      intro hd;have h1:=ih om_;show (if (a,true)∈S s (k + 1 + d) then true else if (a,false)∈S s (k + 1 + d) then false else (dat s).pos (k + 1 + d) a)=true
      rw [if_neg (hno (k + 1 + d) om_),h1]; split <;> rfl
    have:=this (n s - (k + 1)) om_;rw [show k + 1 + (n s - (k + 1))=n s by omega,h.back a] at this;cases this
   | false=>
    obtain rfl:o=true:=by cases o <;> simp_all
    have:∀ d,d<=n s->(dat s).pos d a=false:=by
     intro d
     induction d with
     | zero=>intro _;rfl
     | succ d ih=>
      intro hd;have h1:=ih om_;show (if (a,true)∈S s d then true else if (a,false)∈S s d then false else (dat s).pos d a)=false
      rw [if_neg (hno d om_),h1]; split <;> rfl
    have h2:=h.fits k hk a false hm;rw [this k om_] at h2;cases h2
theorem AK {c:Aa} {i:Nat} {x:Ae} (h:∀ k,occ 16 ((cS c + k:Nat):Int) x.On=true->k < i):late c i x=false:=by
 unfold late;rw [List.any_eq_false];intro k _ hk;rw [Bool.and_eq_true,Bool.and_eq_true,decide_eq_true_iff] at hk;have:=h k hk.2.2;omega
theorem Ou {c:Aa} {i:Nat} {N:ByteArray} {on:Expr} (hx:c.Signals[i]?=some ⟨N,0,on,zxp,0,false⟩) (hn:nme c (cS c + i)=0) (ho:chE 16 (cL c) on=0) (hl:∀ k,occ 16 ((cS c + k:Nat):Int) on=true->k < i):sgE c i=0:=by
 unfold sgE;rw [hx];show sge c i ⟨N,0,on,zxp,0,false⟩=0;unfold sge;rw [if_neg (by rw [hn];simp),if_neg (by show ¬ ((0:Int) < 0\/3<=(0:Int));omega),if_neg (by show ¬ chE 16 (cL c) on≠0;rw [ho];simp),if_neg (by show ¬ (0:Int)=1;omega),if_pos rfl,AK hl];rfl
theorem Xh {c:Aa} {i:Nat} {N:ByteArray} {on off:Expr} {b:Bool} (hx:c.Signals[i]?=some ⟨N,1,on,off,0,b⟩) (hn:nme c (cS c + i)=0) (ho:chE 16 (cL c) on=0) (hf:chE 16 (cL c) off=0):sgE c i=0:=by
 unfold sgE;rw [hx];show sge c i ⟨N,1,on,off,0,b⟩=0;unfold sge;rw [if_neg (by rw [hn];simp),if_neg (by show ¬ ((1:Int) < 0\/3<=(1:Int));omega),if_neg (by show ¬ chE 16 (cL c) on≠0;rw [ho];simp),if_pos rfl,if_neg (by show ¬ chE 16 (cL c) off≠0;rw [hf];simp),if_neg (by show ¬ (0:Int)≠0;simp)]
theorem sgE_tim {c:Aa} {i:Nat} {N:ByteArray} {on:Expr} {d:Int} (hx:c.Signals[i]?=some ⟨N,2,on,zxp,d,false⟩) (hn:nme c (cS c + i)=0) (ho:chE 16 (cL c) on=0) (h1:1<=d) (h2:d<=1000000):sgE c i=0:=by
 unfold sgE;rw [hx];show sge c i ⟨N,2,on,zxp,d,false⟩=0;unfold sge;rw [if_neg (by rw [hn];simp),if_neg (by show ¬ ((2:Int) < 0\/3<=(2:Int));omega),if_neg (by show ¬ chE 16 (cL c) on≠0;rw [ho];simp),if_neg (by show ¬ (2:Int)=1;omega),if_neg (by show ¬ (2:Int)=0;omega),if_neg (by show ¬ (d < 1\/d > 1000000);omega)];rfl
theorem B7 (h:Sq5 s) {i:Nat} (hi:i < (sgs nmS s).length):sgE (cbl s) i=0:=by
 have h4:=h.toSq4;have hcas:=h.q.cas (N:=nmS) (i:=⟨#[115,116,97,114,116]⟩);have h2:=h.q.g2;have hcS:cS (cbl s)=2 * A s + 1:=rfl;have hnm:nme (cbl s) (cS (cbl s) + i)=0:=Vf h (by show _ + i < _ + (sgs nmS s).length;omega);obtain ⟨x,hx,he,_⟩:=hcas.sur i hi;have hl:=Ew (N:=nmS) (s:=s);cases x with
 | gl j=>
  have hj:j < G s:=hx;have he:(if G s=2 then 1 - j else j)=i:=he
  by_cases e:G s=2
  ·rw [if_pos e] at he;rcases (show j=0\/j=1 by omega) with rfl | rfl
   ·obtain rfl:i=1:=by omega
    have hg:(cbl s).Signals[1]?=some ⟨nmS (.gl 0),0,⟨2,0,[lnx ((dat s).L (.gl 1))]⟩,zxp,0,false⟩:=by
     show (sgs nmS s)[1]?=_;rw [Kx om_];unfold sgG;rw [if_pos e];rfl
    refine Ou hg hnm (chE_not (Gy (by have:=Tc h4 (j:=1) om_;unfold Wt;omega))) λk hk=>?_;have:=occ_not hk;have h5:(dat s).L (.gl 1)=2 * A s + 1 + (if G s=2 then 1 - 1 else 1):=rfl
    rw [if_pos e] at h5;omega
   ·obtain rfl:i=0:=by omega
    have hg:(cbl s).Signals[0]?=some ⟨nmS (.gl 1),1,Do 3 ((dat s).en (las s 0)),Do 3 ((dat s).en (las s 1)),0,false⟩:=by
     show (sgs nmS s)[0]?=_;rw [Kx om_];unfold sgG;rw [if_pos e];rfl
    have l0:=Et h4 (j:=0) om_;have l1:=Et h4 (j:=1) om_;exact Xh hg hnm (Jm (.inl rfl) (en_ne h4 l0) λm hm=>Gy (Wa h4 l0 m hm)) (Jm (.inl rfl) (en_ne h4 l1) λm hm=>Gy (Wa h4 l1 m hm))
  ·rw [if_neg e] at he;subst he;have hg:(cbl s).Signals[j]?=some ⟨nmS (.gl j),1,Do 3 ((dat s).L (.gl ((dat s).pv j)) :: (dat s).en (las s ((dat s).pv j))),lnx ((dat s).L (.gl ((dat s).nx j))),0,decide (j=0)⟩:=by
    show (sgs nmS s)[j]?=_;rw [Kx hj];unfold sgG;rw [if_neg e,List.getElem?_map,List.getElem?_range hj];rfl
   have hp:(dat s).pv j < G s:=CasD.pvl (q:=dat s) h2 hj;have hn:(dat s).nx j < G s:=CasD.nxl (q:=dat s) h2;have lp:=Et h4 hp;exact Xh hg hnm (Jm (.inl rfl) Av λm hm=>by
    rcases List.mem_cons.1 hm with rfl | hm
    ·exact Gy (by have:=Tc h4 hp;unfold Wt;omega)
    ·exact Gy (Wa h4 lp m hm)) (Ql (Gy (by have:=Tc h4 hn;unfold Wt;omega)))
 | tm k=>
  have hk:k < n s:=hx.1;have hw:W s k=true:=hx.2;have he:G s + cts s k=i:=he;subst he;have hg:=B5 (N:=nmS) hk hw;have hwt:=(h.st k hk).w;have:=BM.1 hw;exact sgE_tim hg hnm (Jm (.inl rfl) Av λm hm=>by
   rcases List.mem_cons.1 hm with rfl | hm
   ·exact Gy (by have:=Tc h4 (g_lt h4 hk);unfold Wt;omega)
   ·exact Gy (by have:=sw_lt h4 hk m hm;unfold Wt;omega)) om_ hwt.2
 | sg k=>
  have hk:k < n s:=hx;have he:G s + cts s (n s) + k=i:=he;subst he;have hg:=sgs_S (N:=nmS) hk;have hlow:∀ m∈((dat s).L (.gl (g s k)) :: (dat s).bg k),Wt s m:=λm hm=>by
   rcases List.mem_cons.1 hm with rfl | hm
   ·have:=Tc h4 (g_lt h4 hk);unfold Wt;omega
   ·exact bg_low h4 hk m hm
  refine Ou hg hnm (Jm (.inl rfl) Av λm hm=>Gy (hlow m hm)) λj hj=>?_;obtain ⟨m,hm,he⟩:=Xy (.inl rfl) hj;have:=hlow m hm;unfold Wt at this;omega
 | pl a o=>
  have ha:a < A s:=hx;have he:G s + cts s (n s) + n s + 2 * a + (if o=true then 0 else 1)=i:=he
  have hg:=sgs_P (N:=nmS) (o:=o) ha;rw [he] at hg;have hlow:∀ m∈((dat s).at_ a o).map λk=>(dat s).L (.sg k),m < 2 * A s + 1 + (G s + cts s (n s) + n s):=λm hm=>by
   obtain ⟨k,hk,rfl⟩:=List.mem_map.1 hm;unfold CasD.at_ at hk;have hk:k < n s:=List.mem_range.1 (List.mem_filter.1 hk).1;show 2 * A s + 1 + (G s + cts s (n s) + k) < _;omega
  refine Ou hg hnm (Jm (.inr rfl) (by
   intro e;exact at_ne h.q ha o (List.map_eq_nil_iff.1 e)) λm hm=>?_) λj hj=>?_
  ·have:=hlow m hm;show m < 2 * A s + 1 + (sgs nmS s).length;omega
  ·obtain ⟨m,hm,hme⟩:=Xy (.inr rfl) hj;have:=hlow m hm;have:i>=G s + cts s (n s) + n s:=by rw [← he];omega
   omega
theorem fw_cbl (h:Sq5 s):Fw (cbl s):=by
 have h4:=h.toSq4;have hn64:=h4.n;have hG:=h4.G64;have hnames:∀ x∈(sgs nmS s),x.Name.size<=200/\Fla x.On/\Fla x.Off:=by
  intro x hx;have hnb:∀ p k,(nbr p k).size<=3:=λp k=>by
   unfold nbr;split
   ·show 2<=3;omega
   ·show 3<=3;omega
  have hen:∀ k,k < n s->((dat s).en k).length<=6:=λk hk=>A9 h4 hk;unfold sgs at hx;rcases List.mem_append.1 hx with hx | hx
  ·unfold sgG at hx;split at hx
   ·rcases List.mem_cons.1 hx with rfl | hx
    ·have l0:=hen _ (Et h4 (j:=0) (by have:=h.q.g2;omega));have l1:=hen _ (Et h4 (j:=1) (by have:=h.q.g2;omega));exact ⟨by have:=hnb 103 1;show (nbr 103 1).size<=200;omega,Fla.sev om_,Fla.sev om_⟩
    ·obtain rfl:=List.mem_singleton.1 hx;exact ⟨by have:=hnb 103 0;show (nbr 103 0).size<=200;omega,Fla.not,Fla.zxp⟩
   ·obtain ⟨j,hj,rfl⟩:=List.mem_map.1 hx;have hj:=List.mem_range.1 hj;have l0:=hen _ (Et h4 (CasD.pvl (q:=dat s) h.q.g2 hj));exact ⟨by have:=hnb 103 j;show (nbr 103 j).size<=200;omega,Fla.sev so_,Fla.lnx _⟩
  ·rcases List.mem_append.1 hx with hx | hx
   ·obtain ⟨k,hk,rfl⟩:=List.mem_map.1 hx;have hk:=List.mem_range.1 (List.mem_filter.1 hk).1;have:=BP h4 hk;exact ⟨by have:=hnb 119 k;show (nbr 119 k).size<=200;omega,Fla.sev (by simp at this ⊢;omega),Fla.zxp⟩
   ·rcases List.mem_append.1 hx with hx | hx
    ·obtain ⟨k,hk,rfl⟩:=List.mem_map.1 hx;have hk:=List.mem_range.1 hk;have hb:((dat s).bg k).length<=6:=by
      unfold CasD.bg;split
      ·simp
      ·split
       ·exact hen _ om_
       ·simp
     exact ⟨by have:=hnb 115 k;show (nbr 115 k).size<=200;omega,Fla.sev so_,Fla.zxp⟩
    ·obtain ⟨a,ha,hx⟩:=List.mem_flatMap.1 hx;have key:∀ o,(sP nmS s o a).Name.size<=200/\Fla (sP nmS s o a).On/\Fla (sP nmS s o a).Off:=λo=>by
      refine ⟨by show (2:Nat)<=200;omega,Fla.sev ?_,Fla.zxp⟩;rw [List.length_map];unfold CasD.at_;have:=List.length_filter_le (λk=>decide ((a,o)∈(dat s).S k)) (List.range (dat s).n);rw [List.length_range] at this;have:(dat s).n=n s:=rfl;omega
     rcases List.mem_cons.1 hx with rfl | hx
     ·exact key true
     ·obtain rfl:=List.mem_singleton.1 hx;exact key false
 exact ⟨λx hx=>by obtain rfl:=List.mem_singleton.1 hx;decide,λx hx=>(hnames x hx).1,λx hx=>BQ (hnames x hx).2.1,λx hx=>BQ (hnames x hx).2.2⟩
theorem Vd (h:Sq5 s):Rc (cbl s):=by
 have h4:=h.toSq4;have hw:=fw_cbl h;have hsg:=h.sig;have ha:=h4.Ac;obtain ⟨e,e1,e2,e3,e4⟩:=C9 hw;have hb:Bd_ (cbl s):=⟨h.q.a0,h.q.a6,by show 1<=16;omega,hsg⟩;have hl:=Ew (N:=nmS) (s:=s);have hp:∀ l∈(cbl s).Plus ++ (cbl s).Minus,bad (cL (cbl s)) l=false:=λl hl'=>by
  have:∃ a o,a < A s/\l=(((dat s).L (.pl a o):Nat):Int):=by
   rcases List.mem_append.1 hl' with h | h <;> obtain ⟨a,ha,rfl⟩:=List.mem_map.1 h
   ·exact ⟨a,true,List.mem_range.1 ha,rfl⟩
   ·exact ⟨a,false,List.mem_range.1 ha,rfl⟩
  obtain ⟨a,o,ha,rfl⟩:=this;have:=L_lt (no_lt h4 (x:=.pl a o) ha);unfold bad;rw [Bool.or_eq_false_iff,decide_eq_false_iff_not,decide_eq_false_iff_not];omega
 have h0:e=0:=e4 hb (λi hi=>Vf h (by
  have hi:i < 1:=hi;show 2 * A s + i < 2 * A s + 1 + (sgs nmS s).length;omega)) (λi hi=>B7 h hi) (by
  unfold plE;have l1:(cbl s).Plus.length=A s:=by show ((List.range (A s)).map _).length=_;rw [List.length_map,List.length_range]
  have l2:(cbl s).Minus.length=A s:=by show ((List.range (A s)).map _).length=_;rw [List.length_map,List.length_range]
  rw [if_neg (by rw [l1,l2];show ¬ (((A s:Nat):Int)≠s.Actuators\/((A s:Nat):Int)≠s.Actuators);omega),if_neg (by
   intro hh;obtain ⟨l,hl,hb⟩:=List.any_eq_true.1 hh;rw [hp l hl] at hb;cases hb)])
 subst h0;exact ⟨e3 rfl,hw,e1,e2⟩
end Go.Pn
namespace Go.Pn
open Go
open Csc
variable {s:Ah}
theorem W_pos (h:Sq4 s) {k:Nat} (hk:k < n s):decide ((stp s k).Wait > 0)=W s k:=by
 have:=h.q.w0 k hk;rw [Bool.eq_iff_iff,decide_eq_true_iff,BM];omega
theorem Zq (h:Sq4 s) {st:List Int} {i:List ByteArray} {p q:List Int} {sg:List Ae} (hsg:sg.length<=100):m159 FF s.Actuators s.Actuators s.Steps (cin (dv s)) (cin (lnz s)) (tms s) st i sg p q=some (s.Actuators,s.Actuators,s.Steps,cin (dv s),cin (lnz s),tms s,st,i,sg ++ ((List.range (n s)).filter (W s)).map (sT nmS s),p,q):=by
 have hG:=h.G64;have hn:=h.n;unfold m159;have:=bldI (L:=Jf FF s.Actuators s.Actuators s.Steps (cin (dv s)) (cin (lnz s)) (tms s) st i p q) (N:=n s) (f:=λk=>if W s k=true then [sT nmS s k] else []) (acc0:=sg) om_ (λi _=>by split <;> simp) om_ (λm k acc hi ha=>by
  have hl:acc.length<=100000:=by have:=ha.2;omega
  obtain ⟨x,hx1,_,hx2,_⟩:=itz (k:=k) om_;rw [Jf];dsimp only;rw [C7 hi,ct_,Aj,Bg hi,ob_,W_pos h hi];cases hw:W s k with
  | true=>
   rw [ct_,if_pos rfl,hx1,ob_,hx2,ob_,Sc h rfl hi,ob_,Aj,Py (g_lt h hi),ob_,Ry h hi,ob_,Lx (by have:=BP h hi;omega),ob_,Gv h hl,ob_,ob_,Am om_];rfl
  | false=>rw [cf_,if_neg (by decide),ob_,Am om_,List.append_nil]) (λm acc=>by
  rw [Jf];dsimp only;rw [C6,cf_])
 rw [this,fm_if];rfl
theorem Zp (h:Sq4 s) {i:List ByteArray} {p q:List Int} {sg:List Ae} (hsg:sg.length=G s + cts s (n s)):m160 FF s.Actuators s.Actuators s.Steps (cin (dv s)) (cin (lnz s)) (tms s) [] i sg p q=some (s.Actuators,s.Actuators,s.Steps,cin (dv s),cin (lnz s),tms s,cin (sts s),i,sg ++ (List.range (n s)).map (sS nmS s),p,q):=by
 have hG:=h.G64;have hn:=h.n;have hA:=h.A6;have hct:=Oh (s:=s) (k:=n s);unfold m160;obtain ⟨v,hv,hh⟩:=Te (L:=Je FF s.Actuators s.Actuators s.Steps (cin (dv s)) (cin (lnz s)) (tms s) i p q) (mk:=λi (v:List Int×List Ae)=>((i:Int),v.1,v.2)) (N:=n s) (I:=λi v=>v=(cin ((List.range i).map λk=>(dat s).L (.sg k)),sg ++ (List.range i).map (sS nmS s))) (λm k v hi hI=>by
  subst hI;have hg:=g_lt h hi;obtain ⟨x,hx1,_,_,hx2⟩:=itz (k:=k) om_;have hbg:(bif ((k:Int) == 0) then (m230 FF (wr ((2:Int) * s.Actuators))).bind λx5=>some ([x5]:List Expr) else (idx (cin (dv s)) ((g s k:Nat):Int)).bind λx6=>(bif (decide (x6 < (k:Int))) then (m227 FF (wr ((k:Int) - 1)) s.Actuators s.Actuators s.Steps (cin (dv s)) (cin (lnz s)) (tms s) (cin ((List.range k).map λk=>(dat s).L (.sg k))) i (sg ++ (List.range k).map (sS nmS s)) p q).bind λx8=>some x8 else some ([]:List Expr)).bind λz7=>some z7)=some (((dat s).bg k).map lnx):=by
   unfold CasD.bg;by_cases h0:k=0
   ·subst h0;rw [show (((0:Nat):Int) == 0)=true from rfl,ct_,if_pos rfl,h.Ac,Ao om_ om_,show 2 * ((A s:Nat):Int)=((2 * A s:Nat):Int) by omega,Bk];rfl
   ·rw [show ((k:Int) == 0)=false by rw [beq_eq_false_iff_ne];omega,cf_,if_neg h0];obtain ⟨b,h1,_,h3,_⟩:=dv_le (s:=s) hg hi;have h4:=h3 rfl;have hle:=Wv (s:=s) k;rw [Aj,Jl,h1,h4];show ((bif (decide ((((gb s k).1:Nat):Int) < (k:Int))) then _ else _):Option _).bind _=_;by_cases hf:g s (k - 1)=g s k
    ·have hne:(gb s k).1≠k:=λe=>(Vr om_).1 e hf;rw [dt_ om_,ct_,if_pos (show (dat s).g (k - 1)=(dat s).g k from hf),Ao om_ om_,show (k:Int) - 1=((k - 1:Nat):Int) by omega,Gu h om_];rfl
    ·have he:(gb s k).1=k:=(Vr om_).2 hf;rw [df_ om_,cf_,if_neg (show ¬ (dat s).g (k - 1)=(dat s).g k from hf)];rfl
  refine ⟨_,rfl,?_⟩;rw [Je];dsimp only;have hbl:((dat s).bg k).length<=1000:=by
   unfold CasD.bg;split
   ·simp
   ·split
    ·have:=A9 h (show k - 1 < n s by omega);omega
    ·simp
  rw [C7 hi,ct_,Sc h rfl hi,ob_,hbg,ob_,hx1,ob_,hx2,ob_,Aj,Py hg,ob_,Lx hbl,ob_,Gr h so_,ob_,Be (by simp [cin];omega),ob_,Am om_];congr 3
  ·rw [List.range_succ,List.map_append];unfold cin;rw [List.map_append];simp only [List.map_cons,List.map_nil];congr 2;rw [L_eq];show ((2 * A s + ((sg ++ (List.range k).map (sS nmS s)).length + 1):Nat):Int)=((2 * A s + 1 + (G s + cts s (n s) + k):Nat):Int);rw [List.length_append,List.length_map,List.length_range,hsg];omega
  ·rw [List.range_succ,List.map_append,← List.append_assoc];rfl) (λm v _=>by
  rw [Je];dsimp only;rw [C6,cf_]) FF 0 ([],sg) om_ uF (by simp [cin])
 try dsimp only at hh
 rw [n0] at hh;rw [hh,hv];rfl
theorem Yw (h:Sq4 s) {k a:Nat} {o:Bool} (hk:k < n s):m235 FF (stp s k).Strokes (⟨(a:Int),o⟩:Ab)=some (decide ((a,o)∈S s k)):=by
 have hS:=h.st k hk;have h6:=hS.le;have hh:=Cw (L:=Hs (stp s k).Strokes (⟨(a:Int),o⟩:Ab)) (N:=(stp s k).Strokes.length) (Q:=λi=>match (stp s k).Strokes[i]? with | some y=>Tl (⟨(a:Int),o⟩:Ab) y | none=>false) (r:=λi=>i) (λm i hi=>by
  rw [Hs,Al,dt_ hi,ct_,Aj,gE_ hi,ob_,Am om_]) (λm=>by
  rw [Hs,Al,df_ om_,cf_]) FF 0 om_ uF
 rw [n0] at hh;unfold m235 m194;rcases hh with ⟨i,_,hi,hq,hh⟩ | ⟨hh,hq⟩
 ·rw [hh,ob_];dsimp only;rw [ob_,dt_ (show (i:Int)>=0 by omega)];rw [gE_ hi] at hq;dsimp only at hq;have e:(⟨(a:Int),o⟩:Ab)=(stp s k).Strokes[i]:=by
   unfold Tl at hq;simp at hq;cases hx:(stp s k).Strokes[i] with
   | mk p r=>rw [hx] at hq;dsimp only at hq;rw [hq.1,hq.2]
  rw [dt_];exact List.mem_map.2 ⟨_,List.getElem_mem hi,by rw [← e];rfl⟩
 ·rw [hh,ob_];dsimp only;rw [ob_,df_ (by omega:¬ ((-1:Int)>=0))];rw [df_];intro hm;obtain ⟨y,hy,he⟩:=List.mem_map.1 hm;obtain ⟨he1,he2⟩:=Prod.mk.inj he;obtain ⟨i,hi⟩:=List.getElem?_of_mem hy;have:=hq i (Nat.zero_le _) (List.getElem?_eq_some_iff.1 hi).1;rw [hi] at this;dsimp only at this;have hac:=hS.ac y hy;unfold Tl at this;rw [show ((⟨(a:Int),o⟩:Ab).Actuator == y.Actuator)=true by rw [beq_iff_eq];show (a:Int)=_;omega,show ((⟨(a:Int),o⟩:Ab).Out == y.Out)=true by rw [beq_iff_eq];exact he2.symm] at this;cases this
theorem Ka (h:Sq4 s) {a:Nat} {o:Bool} (z1:Int×List Ae×List Int×List Int) (hz1:z1.1=(a:Int)):Fn FF s.Steps (cin (sts s)) z1 o FF ((0:Int),[])=some ((n s:Int),(((dat s).at_ a o).map λk=>(dat s).L (.sg k)).map lnx):=by
 have hn:=h.n;have:=bldI (L:=Fn FF s.Steps (cin (sts s)) z1 o) (N:=n s) (f:=λk=>if decide ((a,o)∈S s k)=true then [lnx ((dat s).L (.sg k))] else []) (acc0:=[]) om_ (λi _=>by split <;> simp) Av (λm i acc hi ha=>by
  have hl:acc.length<=6400:=by have:=ha.2;simp at this;omega
  rw [Fn];dsimp only;rw [C7 hi,ct_,Aj,Bg hi,ob_,hz1,Yw h hi,ob_];cases decide ((a,o)∈S s i) with
  | true=>rw [ct_,if_pos rfl,Aj,sts_get hi,ob_,Bk,ob_,Be so_,ob_,ob_,Am om_]
  | false=>rw [cf_,if_neg (by decide),ob_,Am om_,List.append_nil]) (λm acc=>by
  rw [Fn];dsimp only;rw [C6,cf_])
 rw [this,fm_if];unfold CasD.at_;rw [List.map_map];rfl
theorem Sq (h:Sq4 s) {a:Nat} (ha:a < A s) {i:List ByteArray} (z1:Int×List Ae×List Int×List Int) (hz1:z1.1=(a:Int)) {sg:List Ae} (hl:sg.length=G s + cts s (n s) + n s + 2 * a) {p q:List Int} (hp:p.length<=100) (hq:q.length<=100) :
  Cm FF s.Actuators s.Actuators s.Steps (cin (dv s)) (cin (lnz s)) (tms s) (cin (sts s)) i z1 FF ((0:Int),sg,p,q)=some (2,sg ++ [sP nmS s true a,sP nmS s false a],p ++ [(((dat s).L (.pl a true):Nat):Int)],q ++ [(((dat s).L (.pl a false):Nat):Int)]):=by
 have hA:=h.A6;have hG:=h.G64;have hn:=h.n;have hct:=Oh (s:=s) (k:=n s);obtain ⟨x,hx,hx2⟩:=Wi (show a < 6 by omega) true;obtain ⟨x',hx',hx2'⟩:=Wi (show a < 6 by omega) false;rw [hx] at hx';obtain rfl:=Option.some.inj hx';rw [ct_] at hx2;rw [cf_] at hx2';have e1:(((dat s).L (.pl a true):Nat):Int)=((2 * A s + (sg.length + 1):Nat):Int):=by
  rw [L_eq,hl];show ((2 * A s + 1 + (G s + cts s (n s) + n s + 2 * a + (if true=true then 0 else 1)):Nat):Int)=_
  rw [if_pos rfl];omega
 have e2:(((dat s).L (.pl a false):Nat):Int)=((2 * A s + ((sg ++ [sP nmS s true a]).length + 1):Nat):Int):=by
  rw [L_eq,List.length_append,hl];show ((2 * A s + 1 + (G s + cts s (n s) + n s + 2 * a + (if false=true then 0 else 1)):Nat):Int)=((2 * A s + (G s + cts s (n s) + n s + 2 * a + 1 + 1):Nat):Int)
  rw [if_neg (by decide)];omega
 show Cm FF s.Actuators s.Actuators s.Steps (cin (dv s)) (cin (lnz s)) (tms s) (cin (sts s)) i z1 (99999 + 1) (((0:Nat):Int),sg,p,q)=_;rw [Cm];dsimp only;rw [show decide (((0:Nat):Int) < (([true,false]:List Bool).length:Int))=true from rfl,ct_,Aj,show ([true,false]:List Bool)[0]?=some true from rfl,ob_,Ka h z1 hz1,ob_,hz1,hx,ob_,ct_,hx2,ob_];dsimp only;rw [Dx,ob_,Gr h om_,ob_];dsimp only;rw [Be so_,ob_,ob_,Am om_,← e1];show Cm FF s.Actuators s.Actuators s.Steps (cin (dv s)) (cin (lnz s)) (tms s) (cin (sts s)) i z1 (99998 + 1) (((1:Nat):Int),sg ++ [sP nmS s true a],p ++ [(((dat s).L (.pl a true):Nat):Int)],q)=_;rw [Cm];dsimp only;rw [show decide (((1:Nat):Int) < (([true,false]:List Bool).length:Int))=true from rfl,ct_,Aj,show ([true,false]:List Bool)[1]?=some false from rfl,ob_,Ka h z1 hz1,ob_,hz1,hx,ob_,cf_,hx2',ob_];dsimp only;rw [Dx,ob_,Gr h so_,ob_];dsimp only;rw [Be so_,ob_,ob_,Am om_,← e2];show Cm FF s.Actuators s.Actuators s.Steps (cin (dv s)) (cin (lnz s)) (tms s) (cin (sts s)) i z1 (99997 + 1) (((2:Nat):Int),sg ++ [sP nmS s true a] ++ [sP nmS s false a],p ++ [(((dat s).L (.pl a true):Nat):Int)],q ++ [(((dat s).L (.pl a false):Nat):Int)])=_;rw [Cm];dsimp only;rw [show decide (((2:Nat):Int) < (([true,false]:List Bool).length:Int))=false from rfl,cf_,List.append_assoc];rfl
def plL (s:Ah) (o:Bool) (k:Nat):List Int:=(List.range k).map λa=>(((dat s).L (.pl a o):Nat):Int)
theorem Zo (h:Sq4 s) {i:List ByteArray} {sg:List Ae} (hl:sg.length=G s + cts s (n s) + n s):m161 FF s.Actuators s.Actuators s.Steps (cin (dv s)) (cin (lnz s)) (tms s) (cin (sts s)) i sg [] []=some (s.Actuators,s.Actuators,s.Steps,cin (dv s),cin (lnz s),tms s,cin (sts s),i,sg ++ ((List.range (A s)).flatMap λa=>[sP nmS s true a,sP nmS s false a]),plL s true (A s),plL s false (A s)):=by
 have hA:=h.A6;have hG:=h.G64;have hn:=h.n;have hct:=Oh (s:=s) (k:=n s);unfold m161;obtain ⟨v,hv,hh⟩:=Te (L:=Jd FF s.Actuators s.Actuators s.Steps (cin (dv s)) (cin (lnz s)) (tms s) (cin (sts s)) i) (mk:=λi (v:List Ae×List Int×List Int)=>((i:Int),v.1,v.2.1,v.2.2)) (N:=A s) (I:=λi v=>v=(sg ++ ((List.range i).flatMap λa=>[sP nmS s true a,sP nmS s false a]),plL s true i,plL s false i)) (λm a v hi hI=>by
  subst hI;refine ⟨_,rfl,?_⟩;rw [Jd];dsimp only;rw [show decide ((a:Int) < s.Actuators)=true from dt_ (by rw [h.Ac];omega),ct_,Sq h hi _ rfl (by rw [List.length_append,Hg,hl]) (by unfold plL;simp;omega) (by unfold plL;simp;omega),ob_,Am om_];have e:∀ o,plL s o (a + 1)=plL s o a ++ [(((dat s).L (.pl a o):Nat):Int)]:=λo=>by unfold plL;rw [List.range_succ,List.map_append];rfl
  rw [e,e,List.range_succ,List.flatMap_append];congr 3;simp) (λm v _=>by
  rw [Jd];dsimp only;rw [show decide (((A s:Nat):Int) < s.Actuators)=false from df_ (by rw [h.Ac];omega),cf_]) FF 0 (sg,[],[]) om_ uF (by simp [plL])
 try dsimp only at hh
 rw [n0] at hh;rw [hh,hv];rfl
abbrev strt:List ByteArray:=[⟨#[115,116,97,114,116]⟩]
theorem CN (h:Sq5 s):m84 FF s=some (.inr ((0:Int),s.Actuators,s.Actuators,s.Steps,cin (dv s),cin (lnz s),tms s,cin (sts s),strt,sgs nmS s,plL s true (A s),plL s false (A s))):=by
 have h4:=h.toSq4;have hA:=h4.A6;have hG:=h4.G64;have hn:=h4.n;have hct:=Oh (s:=s) (k:=n s);have hT:(((List.range (n s)).filter (W s)).map (sT nmS s)).length=cts s (n s):=by rw [List.length_map];rfl
 unfold m84;rw [Pg h4,ob_,zf_,cf_,CT h4,ob_];dsimp only;rw [zf_,cf_,Zt h4,ob_];dsimp only;have loop:Bu FF FF ((0:Int),s.Actuators,s.Actuators,s.Steps,cin (dv s),cin (lnz s),tms s,([]:List Int),strt,([]:List Ae),([]:List Int),([]:List Int))=some (4,s.Actuators,s.Actuators,s.Steps,cin (dv s),cin (lnz s),tms s,cin (sts s),strt,sgs nmS s,plL s true (A s),plL s false (A s)):=by
  show Bu FF (99999 + 1) (((0:Nat):Int),_)=_;rw [Bu];dsimp only;rw [show decide (((0:Nat):Int) < 4)=true from rfl,ct_,Aj,List.getElem?_range om_,ob_,show ((0:Nat) == 0)=true from rfl,ct_,Zs h4,ob_,Am om_];dsimp only;show Bu FF (99998 + 1) (((1:Nat):Int),_)=_;rw [Bu];dsimp only;rw [show decide (((1:Nat):Int) < 4)=true from rfl,ct_,Aj,List.getElem?_range om_,ob_,show ((1:Nat) == 0)=false from rfl,cf_,show ((1:Nat) == 1)=true from rfl,ct_,Zq h4 (by rw [By];omega),ob_,Am om_];dsimp only;show Bu FF (99997 + 1) (((2:Nat):Int),_)=_;rw [Bu];dsimp only;rw [show decide (((2:Nat):Int) < 4)=true from rfl,ct_,Aj,List.getElem?_range om_,ob_,show ((2:Nat) == 0)=false from rfl,cf_,show ((2:Nat) == 1)=false from rfl,cf_,show ((2:Nat) == 2)=true from rfl,ct_,Zp h4 (by rw [List.length_append,By,hT]),ob_,Am om_];dsimp only;show Bu FF (99996 + 1) (((3:Nat):Int),_)=_;rw [Bu];dsimp only;rw [show decide (((3:Nat):Int) < 4)=true from rfl,ct_,Aj,List.getElem?_range om_,ob_,show ((3:Nat) == 0)=false from rfl,cf_,show ((3:Nat) == 1)=false from rfl,cf_,show ((3:Nat) == 2)=false from rfl,cf_,show ((3:Nat) == 3)=true from rfl,ct_,Zo h4 (by rw [List.length_append,List.length_append,By,hT,List.length_map,List.length_range]),ob_,Am om_];dsimp only;show Bu FF (99995 + 1) (((4:Nat):Int),_)=_;rw [Bu];dsimp only;rw [show decide (((4:Nat):Int) < 4)=false from rfl,cf_];unfold sgs;rw [List.append_assoc,List.append_assoc];rfl
 rw [loop,ob_];dsimp only;rw [df_ (by have:=h.sig;omega),cf_]
theorem CX (h:Sq5 s):m21 FF s=some (cbl s,0):=by
 unfold m21;rw [CN h,ob_];rfl
end Go.Pn
namespace Go.Pn
open Go
theorem A0 {α:Type} {l:List α} {q:α->Bool}:(∃ j,l.findIdx? q=some j/\l.any q=true)\/(l.findIdx? q=none/\l.any q=false):=by
 cases h:l.findIdx? q with
 | some j=>
  left;obtain ⟨h1,h2,_⟩:=List.findIdx?_eq_some_iff_getElem.1 h;exact ⟨j,rfl,List.any_eq_true.2 ⟨_,List.getElem_mem h1,h2⟩⟩
 | none=>
  right;rw [List.findIdx?_eq_none_iff] at h;exact ⟨rfl,List.any_eq_false.2 λx hx=>by simpa using h x hx⟩
theorem Zl {c:Aa} {s:Ad} (hb:Bd_ c):m168 FF c s=some (Vy c s):=by
 have h1:=hb.a6;have h2:=hb.i;have h3:=hb.s;unfold m168 Vy;rw [Vp];by_cases hl:(s.Ends.length:Int)≠c.Actuators\/(s.Valves.length:Int)≠c.Actuators\/s.Inputs.length≠c.Inputs.length\/s.Values.length≠c.Signals.length\/s.Timers.length≠c.Signals.length
 ·rw [if_pos hl,dt_ hl];rfl
 ·rw [if_neg hl,df_ hl,cf_];have hl:(s.Ends.length:Int)=c.Actuators/\(s.Valves.length:Int)=c.Actuators/\s.Inputs.length=c.Inputs.length/\s.Values.length=c.Signals.length/\s.Timers.length=c.Signals.length:=by omega
  have e1:=BU (L:=Ps s) (xs:=s.Ends) (p:=λz x=>(bif decide (x < 0) then some true else (idx s.Ends z).bind λx4=>some (decide (x4>=(4:Int))))) (q:=λx=>decide (x < 0) || decide (x>=4)) (r:=λ_=>(1:Int)) (λ_ _=>rfl) om_ (λi x hx=>by
   rw [Aj,hx]; cases decide (x < 0) <;> rfl) FF 0 om_ (by unfold FF; omega)
  have e2:=BU (L:=Pr s) (xs:=s.Timers) (p:=λz x=>(bif decide (x < 0) then some true else (idx s.Timers z).bind λx4=>some (decide (x4>=(3:Int))))) (q:=λx=>decide (x < 0) || decide (x>=3)) (r:=λ_=>(1:Int)) (λ_ _=>rfl) om_ (λi x hx=>by
   rw [Aj,hx]; cases decide (x < 0) <;> rfl) FF 0 om_ (by unfold FF; omega)
  rw [n0,List.drop_zero] at e1 e2;rcases A0 (l:=s.Ends) (q:=λx=>decide (x < 0) || decide (x>=4)) with ⟨j,hj,ha⟩ | ⟨hj,ha⟩
  ·rw [hj] at e1;rw [e1,if_pos ha];rfl
  ·rw [hj] at e1;rw [e1,if_neg (by rw [ha];simp),ob_];dsimp only;rcases A0 (l:=s.Timers) (q:=λx=>decide (x < 0) || decide (x>=3)) with ⟨j,hj,ha⟩ | ⟨hj,ha⟩
   ·rw [hj] at e2;rw [e2,if_pos ha];rfl
   ·rw [hj] at e2;rw [e2,if_neg (by rw [ha];simp),ob_];dsimp only;have hs:=Cw (L:=Ja c s) (N:=c.Signals.length) (Q:=BZ c s) (r:=λ_=>14) (λn i hi=>by
     have e1:c.Signals[i]?=some c.Signals[i]:=gE_ hi;have e2:s.Timers[i]?=some s.Timers[i]:=gE_ om_;have e3:s.Values[i]?=some s.Values[i]:=gE_ om_;rw [Ja];unfold BZ;simp only [hl.2.2.2.2,Al,dt_ hi,ct_,Aj,e1,e2,e3,ob_];rw [Am om_];cases hk:(c.Signals[i].Kind == 2) with
     | true=>
      have hk':(c.Signals[i].Kind != 2)=false:=by show (!(c.Signals[i].Kind == 2))=false;rw [hk];rfl
      rw [hk'];cases (s.Values[i] != (s.Timers[i] == 2)) <;> rfl
     | false=>
      have hk':(c.Signals[i].Kind != 2)=true:=by show (!(c.Signals[i].Kind == 2))=true;rw [hk];rfl
      rw [hk'];cases (s.Timers[i] != 0) <;> rfl) (λn=>by
     rw [Ja,hl.2.2.2.2,Al,df_ om_,cf_]) FF 0 om_ uF
    rw [n0] at hs;rcases hs with ⟨k,_,hk,hq,h⟩ | ⟨h,hn⟩
    ·rw [h,if_pos (List.any_eq_true.2 ⟨k,List.mem_range.2 hk,hq⟩)];rfl
    ·rw [h,if_neg ?_]
     ·rfl
     ·intro ha;obtain ⟨k,hk,h4⟩:=List.any_eq_true.1 ha;have:=hn k om_ (List.mem_range.1 hk);rw [this] at h4;cases h4
theorem zf:((0:Int) != 0)=false:=rfl
theorem Ph {c:Aa} {s:Ad} (hc:Rc c):m88 FF c s=some (Vy c s):=by
 unfold m88;rw [hc.ck',ob_,zf,cf_,Zl hc.rt.bd];rfl
end Go.Pn
namespace Go.Pn
open Go
def frE (s t:Ad) (i:Nat):Option Ab:=if (t.Ends.getD i 0=1\/t.Ends.getD i 0=3)/\s.Ends.getD i 0≠t.Ends.getD i 0 then some ⟨(i:Int),t.Ends.getD i 0 == 1⟩ else none
def frs (s t:Ad):List Ab:=(List.range s.Ends.length).filterMap (frE s t)
theorem frE_at {s t:Ad} {i:Nat} (h:i < s.Ends.length) (h':i < t.Ends.length):frE s t i=if (t.Ends[i]=1\/t.Ends[i]=3)/\s.Ends[i]≠t.Ends[i] then some ⟨(i:Int),t.Ends[i] == 1⟩ else none:=by
 unfold frE;rw [List.getD_eq_getElem?_getD,List.getD_eq_getElem?_getD,gE_ h,gE_ h'];rfl
theorem Za {s t:Ad} (he:t.Ends.length=s.Ends.length) (hl:s.Ends.length<=1000):m189 FF s t=some (frs s t):=by
 unfold m189;obtain ⟨v,hv,hh⟩:=Te (L:=Ht s t) (mk:=λi (v:List Ab)=>((i:Int),v)) (N:=s.Ends.length) (I:=λi v=>v=(List.range i).filterMap (frE s t)) (λn i v hi hI=>by
  subst hI;have hi':i < t.Ends.length:=by omega
  refine ⟨_,rfl,?_⟩;have hle:=Mn (g:=frE s t) (n:=i);rw [Ht];simp only [he,Al,dt_ hi,ct_,Aj,gE_ hi,gE_ hi',ob_];rw [Am om_,Qf,frE_at hi hi'];have k1:((t.Ends[i] != s.Ends[i]) && ((t.Ends[i] == 1) || (t.Ends[i] == 3)))=decide ((t.Ends[i]=1\/t.Ends[i]=3)/\s.Ends[i]≠t.Ends[i]):=by
   rw [Bool.eq_iff_iff];simp;omega
  rw [k1];by_cases ha:(t.Ends[i]=1\/t.Ends[i]=3)/\s.Ends[i]≠t.Ends[i]
  ·rw [dt_ ha,ct_,Be so_,ob_,ob_,if_pos ha]
  ·rw [df_ ha,cf_,ob_,if_neg ha,List.append_nil]) (λn v _=>by
  rw [Ht];dsimp only;rw [he,Al,df_ om_,cf_]) FF 0 [] om_ uF rfl
 subst hv;try dsimp only at hh
 rw [n0] at hh;rw [hh];rfl
theorem Ss {c:Aa} {s t:Ad} (hb:Bd_ c) (hs:Fit c s) (ht:Fit c t):m112 FF s t=some (frs s t,0):=by
 have h6:=hb.a';have h1:=hs.e;have h2:=ht.e;unfold m112;rw [show ((s.Ends.length:Int) != (t.Ends.length:Int))=false by simp;omega,df_ om_,Bool.or_false,cf_,Md om_ om_,ob_];have e1:=BU (L:=Pv (s.Ends ++ t.Ends)) (xs:=s.Ends ++ t.Ends) (p:=λ_ x=>some (decide (x < 0) || decide (x>=4))) (q:=λx=>decide (x < 0) || decide (x>=4)) (r:=λ_=>(([]:List Ab),(1:Int))) (λ_ _=>rfl) so_ (λ_ _ _=>rfl) FF 0 Av (by simp;unfold FF;omega);rw [n0,List.drop_zero] at e1;rcases A0 (l:=s.Ends ++ t.Ends) (q:=λx=>decide (x < 0) || decide (x>=4)) with ⟨j,hj,ha⟩ | ⟨hj,ha⟩
 ·exfalso;obtain ⟨x,hx,h3⟩:=List.any_eq_true.1 ha;have:0<=x/\x < 4:=(List.mem_append.1 hx).elim (hs.ee x) (ht.ee x);simp at h3;omega
 ·rw [hj] at e1;rw [e1,ob_];dsimp only;rw [Za om_ om_];rfl
end Go.Pn
namespace Go.Pn
open Go
theorem A5 {a b:Ab}:Tl a b=true↔a=b:=by
 cases a;cases b
 simp [Tl]
instance:DecidableEq Ab:=λ_ _=>decidable_of_iff _ A5
theorem frs_len {s t:Ad}:(frs s t).length<=s.Ends.length:=Mn
end Go.Pn
namespace Go.Pn
open Go
theorem Up (b:Bool):Qs b≠1/\Qs b≠3:=by cases b <;> decide
variable {c:Aa} {q:CasD} {s:Ad} {st:Bool}
theorem Bs.rg (hc:CasP c q) {E:Nat->Int} {V M:Nat->Bool} {T:Nat->Int} (h:Bs c q s E V M T st) {i:Nat} (hi:s.Timers.getD i 0=1):∃ k,k < q.n/\q.W k=true/\i=q.no (.tm k)/\T k=1:=by
 have hlt:i < c.Signals.length:=by
  rw [← h.fit.t];rcases Nat.lt_or_ge i s.Timers.length with h1 | h1
  ·exact h1
  ·rw [List.getD_eq_getElem?_getD,List.getElem?_eq_none h1] at hi;cases hi
 have hk2:c.Signals[i].Kind=2:=by
  rcases Classical.em (c.Signals[i].Kind=2) with e | e
  ·exact e
  ·have h1:i < s.Timers.length:=by rw [h.fit.t];exact hlt
   have h2:i < s.Values.length:=by rw [h.fit.x];exact hlt
   have:=(h.fit.k i _ _ _ (gE_ hlt) (gE_ h1) (gE_ h2)).1 e;rw [List.getD_eq_getElem?_getD,gE_ h1] at hi;have hi:s.Timers[i]=1:=hi;omega
 obtain ⟨x,hx,rfl,hsg⟩:=hc.sur i hlt;have hg:=gE_ hlt;cases x with
 | gl j=>
  exfalso;by_cases h2:q.G=2
  ·by_cases e:j=1
   ·subst e;obtain ⟨y,h1,h3,_⟩:=hc.glT h2;rw [hg] at h1;rw [Option.some.inj h1] at hk2;omega
   ·obtain rfl:j=0:=by have:j < q.G:=hx;omega
    obtain ⟨y,h1,h3,_⟩:=hc.glU h2;rw [hg] at h1;rw [Option.some.inj h1] at hk2;omega
  ·obtain ⟨y,h1,h3,_⟩:=hc.glS h2 j hx;rw [hg] at h1;rw [Option.some.inj h1] at hk2;omega
 | tm k=>exact ⟨k,hx.1,hx.2,rfl,by rw [← (h.t k hx.1 hx.2).1];exact hi⟩
 | sg k=>exfalso;obtain ⟨y,h1,h3,_⟩:=hc.sgS (hsg k rfl) k hx;rw [hg] at h1;rw [Option.some.inj h1] at hk2;omega
 | pl a o=>exfalso;obtain ⟨y,h1,h3,_⟩:=hc.plS a o hx;rw [hg] at h1;rw [Option.some.inj h1] at hk2;omega
theorem RunS.pend (hc:CasP c q) {k:Nat} {mv:Nat->Bool} {t:Int} (h:RunS c q s k mv t st) {x:Af} (hx:x∈Pn.pend s):(∃ a,a < q.A/\mv a=true/\x=⟨0,(a:Int),false⟩)\/(t=1/\q.W k=true/\x=⟨1,(q.no (.tm k):Int),false⟩):=by
 unfold Pn.pend at hx;rcases List.mem_append.1 hx with hx | hx
 ·obtain ⟨a,ha,he⟩:=List.mem_filterMap.1 hx;have ha:=List.mem_range.1 ha;have ha':a < q.A:=by rw [← hc.a,← h.at_.b.fit.e];exact ha
  unfold BV at he;split at he
  ·rename_i hE;rw [h.at_.b.e a ha'] at hE;refine .inl ⟨a,ha',?_,(Option.some.inj he).symm⟩;cases hm:mv a with
   | true=>rfl
   | false=>
    exfalso;unfold CasD.Ek at hE;rw [if_neg (by rw [hm];decide)] at hE;have:=Up (q.pos (k + 1) a);rcases hE with e | e
    ·exact this.1 e
    ·exact this.2 e
  ·cases he
 ·obtain ⟨i,hi,he⟩:=List.mem_filterMap.1 hx;unfold pndT at he;split at he
  ·rename_i hT;obtain ⟨k',h1,h2,rfl,h4⟩:=h.at_.b.rg hc hT;have he:=(Option.some.inj he).symm;unfold CasD.Tk at h4;split at h4
   ·rename_i e;subst e;exact .inr ⟨h4,h2,he⟩
   ·split at h4
    ·cases h4
    ·cases h4
  ·cases he
theorem RunS.pend_end (hc:CasP c q) {k:Nat} {mv:Nat->Bool} {t:Int} (h:RunS c q s k mv t st) {a:Nat} (ha:a < q.A) (hm:mv a=true):(⟨0,(a:Int),false⟩:Af)∈Pn.pend s:=by
 unfold Pn.pend;refine List.mem_append_left _ (List.mem_filterMap.2 ⟨a,List.mem_range.2 (by rw [h.at_.b.fit.e,hc.a];exact ha),?_⟩);unfold BV;rw [if_pos];rw [h.at_.b.e a ha];unfold CasD.Ek;rw [if_pos hm];cases q.pos (k + 1) a
 ·exact .inr rfl
 ·exact .inl rfl
theorem RunS.pend_tim (hc:CasP c q) {k:Nat} {mv:Nat->Bool} (h:RunS c q s k mv 1 st) (hw:q.W k=true):(⟨1,(q.no (.tm k):Int),false⟩:Af)∈Pn.pend s:=by
 obtain ⟨x,hx,_⟩:=hc.tmS k h.hk hw;have hlt:=(List.getElem?_eq_some_iff.1 hx).1;unfold Pn.pend;refine List.mem_append_right _ (List.mem_filterMap.2 ⟨q.no (.tm k),List.mem_range.2 (by rw [h.at_.b.fit.t];exact hlt),?_⟩);unfold pndT;rw [if_pos (by rw [(h.at_.b.t k h.hk hw).1,My])]
theorem RunS.pend_ne (hc:CasP c q) {k:Nat} {mv:Nat->Bool} {t:Int} (h:RunS c q s k mv t st):Pn.pend s≠[]:=by
 intro e;rcases h.hr with ⟨⟨a,o,ha,hm⟩,_⟩ | ⟨_,hw,ht⟩
 ·have:=h.pend_end hc (hc.Sa k h.hk _ ha) hm;rw [e] at this;cases this
 ·subst ht;have:=h.pend_tim hc hw;rw [e] at this;cases this
end Go.Pn
namespace Go.Pn
open Go
variable {c:Aa} {q:CasD} {s:Ad} {st:Bool}
theorem Ek_ne (hs:SqP q) {k a:Nat} {mv:Nat->Bool} {w:Bool} (hk:k + 1 < q.n) (ha:(a,w)∈q.S (k + 1)):q.Ek k mv a≠if w=true then 1 else 3:=by
 have h1:=hs.fits (k + 1) hk a w ha;unfold CasD.Ek;rw [h1];cases mv a <;> cases w <;> decide
theorem Ep_ne (hs:SqP q) {a:Nat} {w:Bool} (ha:(a,w)∈q.S 0):q.Ep 0 a≠if w=true then 1 else 3:=by
 have h1:=hs.fits 0 hs.n0 a w ha;unfold CasD.Ep;rw [h1];cases w <;> decide
end Go.Pn
namespace Go.Pn
open Go
variable {c:Aa} {q:CasD} {s u:Ad} {st:Bool}
def CasD.skw (q:CasD) (k:Nat):List Ab:=(List.range q.A).filterMap λa=>if q.ms k a=true then some ⟨(a:Int),q.pos (k + 1) a⟩ else none
def CasD.wrd (q:CasD) (k:Nat):List Ab:=(List.range k).flatMap q.skw
def CasD.cyc (q:CasD) (m:Nat):List Ab:=(List.range m).flatMap λ_=>q.wrd q.n
theorem Bw {k:Nat}:q.wrd (k + 1)=q.wrd k ++ q.skw k:=by
 unfold CasD.wrd;rw [List.range_succ,List.flatMap_append];simp
theorem Qj {m:Nat}:q.cyc (m + 1)=q.cyc m ++ q.wrd q.n:=by
 unfold CasD.cyc;rw [List.range_succ,List.flatMap_append];simp
theorem Oa {α β:Type} {f g:α->Option β}:∀ {l:List α},(∀ a∈l,f a=g a)->l.filterMap f=l.filterMap g
 | [],_=>rfl
 | a :: l,h=>by rw [List.filterMap_cons,List.filterMap_cons,h a (List.mem_cons_self ..),Oa λb hb=>h b (List.mem_cons_of_mem _ hb)]
theorem Um (hc:CasP c q) (hs:SqP q) {k:Nat} {E:Nat->Int} {V M V' M':Nat->Bool} {T T':Nat->Int} {st st':Bool} (hk:k < q.n) (h1:Bs c q s E V M T st) (h2:Bs c q u (q.Ek k (q.ms k)) V' M' T' st') (hE:∀ a w,(a,w)∈q.S k->E a≠if w=true then 1 else 3):frs s u=q.skw k:=by
 unfold frs CasD.skw;rw [h1.fit.e,hc.a];refine Oa λa ha=>?_;have haA:=List.mem_range.1 ha;unfold frE;rw [h1.e a haA,h2.e a haA];by_cases hm:q.ms k a=true
 ·obtain ⟨w,hw⟩:=Dp.1 hm;have hp:=hs.pos_in hk hw;have he:q.Ek k (q.ms k) a=if w=true then 1 else 3:=by unfold CasD.Ek;rw [if_pos hm,hp]
  rw [he,if_pos ⟨by cases w;exact .inr rfl;exact .inl rfl,hE a w hw⟩,if_pos hm,hp];cases w <;> rfl
 ·have he:q.Ek k (q.ms k) a=Qs (q.pos (k + 1) a):=by unfold CasD.Ek;rw [if_neg hm]
  rw [he,if_neg (λh=>by have:=Up (q.pos (k + 1) a);omega),if_neg hm]
theorem Vu (hc:CasP c q) {E E':Nat->Int} {V M V' M':Nat->Bool} {T T':Nat->Int} {st st':Bool} (h1:Bs c q s E V M T st) (h2:Bs c q u E' V' M' T' st') (hE:∀ a,a < q.A->E' a=E a\/∃ b,E' a=Qs b):frs s u=[]:=by
 unfold frs;rw [List.filterMap_eq_nil_iff];intro a ha;have haA:a < q.A:=by have:=List.mem_range.1 ha;rw [h1.fit.e,hc.a] at this;exact this
 unfold frE;rw [h1.e a haA,h2.e a haA,if_neg];rintro ⟨h3,h4⟩;rcases hE a haA with h | ⟨b,h⟩
 ·exact h4 h.symm
 ·have:=Up b;omega
def CasD.cnt (q:CasD) (mv:Nat->Bool):Nat:=((List.range q.A).filter mv).length
theorem cnt_le {mv:Nat->Bool}:q.cnt mv<=q.A:=by
 unfold CasD.cnt;have:=List.length_filter_le mv (List.range q.A);rw [List.length_range] at this;exact this
theorem cnt_un {mv:Nat->Bool} {a:Nat} (ha:a < q.A) (hm:mv a=true):q.cnt (CasD.un mv a) + 1<=q.cnt mv:=by
 unfold CasD.cnt;have key:∀ l:List Nat,a∈l->(l.filter (CasD.un mv a)).length + 1<=(l.filter mv).length:=by
  intro l;have le:∀ l:List Nat,(l.filter (CasD.un mv a)).length<=(l.filter mv).length:=by
   intro l
   induction l with
   | nil=>exact Nat.le_refl _
   | cons b l ih=>
    rw [List.filter_cons,List.filter_cons];by_cases h:CasD.un mv a b=true
    ·rw [if_pos h,if_pos (by unfold CasD.un at h;exact (Bool.and_eq_true_iff.1 h).1)];simp only [List.length_cons];omega
    ·rw [if_neg h];split
     ·simp only [List.length_cons];omega
     ·exact ih
  induction l with
  | nil=>intro h;cases h
  | cons b l ih=>
   intro h;rw [List.filter_cons,List.filter_cons];by_cases e:b=a
   ·subst e;rw [if_neg (by unfold CasD.un;simp),if_pos hm];have:=le l;simp only [List.length_cons];omega
   ·have h':a∈l:=by
     rcases List.mem_cons.1 h with h | h
     ·exact absurd h.symm e
     ·exact h
    have:=ih h';by_cases h:mv b=true
    ·rw [if_pos (by unfold CasD.un;rw [h];simpa using e),if_pos h];simp only [List.length_cons];omega
    ·rw [if_neg (by unfold CasD.un;simp [h]),if_neg h];exact this
 exact key _ (List.mem_range.2 ha)
def CasD.mea (q:CasD) (k:Nat) (mv:Nat->Bool) (t:Int):Nat:=(q.n - 1 - k) * (q.A + 2) + q.cnt mv + if t=1 then 1 else 2
theorem mea_ms {k:Nat} {mv:Nat->Bool} {t:Int} (hk:k + 1 < q.n):q.mea (k + 1) (q.ms (k + 1)) 0 < q.mea k mv t:=by
 unfold CasD.mea;have h1:=cnt_le (q:=q) (mv:=q.ms (k + 1));obtain ⟨d,hd⟩:∃ d,q.n - 1 - k=d + 1:=⟨q.n - 1 - k - 1,by omega⟩;rw [hd,show q.n - 1 - (k + 1)=d by omega,Nat.succ_mul,if_neg (by decide)];split <;> omega
theorem mea_un {k a:Nat} {mv:Nat->Bool} {t':Int} (ha:a < q.A) (hm:mv a=true):q.mea k (CasD.un mv a) t' < q.mea k mv 0:=by
 unfold CasD.mea;have:=cnt_un ha hm;rw [if_neg (by decide:¬ ((0:Int)=1))];split <;> omega
structure Rwd (c:Aa) (q:CasD) (s:Ad) (w:List Ab) (k:Nat) (mv:Nat->Bool) (t:Int) (st:Bool):Prop where
 r:RunS c q s k mv t st
 w:∃ m,w=q.cyc m ++ q.wrd (k + 1)
def Iw (c:Aa) (q:CasD) (s:Ad) (w:List Ab):Prop:=IdleS c q s/\∃ m,w=q.cyc m
theorem Iw.start (hc:CasP c q) (hs:SqP q) {w:List Ab} (h:Iw c q s w):∃ u,aft c s ⟨2,0,true⟩=(u,0)/\(∀ y,¬ afP c s ⟨2,0,true⟩ y)/\Rwd c q u (w ++ frs s u) 0 (q.ms 0) 0 true:=by
 obtain ⟨hi,m,rfl⟩:=h;obtain ⟨u,h1,h2,h3⟩:=C4 hc hs hi;refine ⟨u,h1,h2,h3,m,?_⟩;have hb:Bs c q s _ _ _ _ _:=hi.b;rw [Um hc hs hs.n0 hb h3.at_.b λa w ha=>Ep_ne hs ha,Bw];show _=_ ++ ([] ++ _);rw [List.nil_append]
theorem Nxt.word (hc:CasP c q) (hs:SqP q) {k:Nat} {mv:Nat->Bool} {t:Int} {m:Nat} (hr:RunS c q s k mv t st) (h:Nxt c q u k st) :
  (Rwd c q u (q.cyc m ++ q.wrd (k + 1) ++ frs s u) (q.nk k) (q.ms (q.nk k)) 0 st/\(q.nk k=0->st=true))\/(q.nk k=0/\st=false/\Iw c q u (q.cyc m ++ q.wrd (k + 1) ++ frs s u)):=by
 have hk:=hr.hk;rcases h with ⟨h,h0⟩ | ⟨h0,h1,h⟩
 ·refine .inl ⟨⟨h,?_⟩,h0⟩;by_cases e:k + 1 < q.n
  ·have:q.nk k=k + 1:=by unfold CasD.nk;rw [if_pos e]
   rw [this] at h ⊢;rw [Um hc hs e hr.at_.b h.at_.b λa w ha=>Ek_ne hs e ha];exact ⟨m,by rw [Bw (k:=k + 1),List.append_assoc]⟩
  ·have:q.nk k=0:=by unfold CasD.nk;rw [if_neg e]
   rw [this] at h ⊢;have hn:q.n=k + 1:=by omega
   rw [Um hc hs hs.n0 hr.at_.b h.at_.b λa w ha=>?_]
   ·refine ⟨m + 1,?_⟩;rw [Qj,hn,Bw (k:=0)];show _=_ ++ ([] ++ _);rw [List.nil_append]
   ·have h2:=hs.fits 0 hs.n0 a w ha;have h3:q.pos (k + 1) a=q.pos 0 a:=by rw [← hn,hs.back];rfl
    unfold CasD.Ek;rw [h3,h2];cases mv a <;> cases w <;> decide
 ·refine .inr ⟨h0,h1,h,m + 1,?_⟩;have hn:q.n=k + 1:=by unfold CasD.nk at h0; split at h0 <;> omega
  have hb:Bs c q u _ _ _ _ _:=h.b;rw [Vu hc hr.at_.b hb λa _=>.inr ⟨_,rfl⟩,List.append_nil,Qj,hn]
theorem Rwd.next (hc:CasP c q) (hs:SqP q) (hp:TmP q) {w:List Ab} {k:Nat} {mv:Nat->Bool} {t:Int} (h:Rwd c q s w k mv t st) {x:Af} (hx:x∈Pn.pend s) :
  ∃ u,aft c s x=(u,0)/\(∀ y,¬ afP c s x y)/\((∃ k' mv' t',Rwd c q u (w ++ frs s u) k' mv' t' st/\((st=true/\k'=0)\/q.mea k' mv' t' < q.mea k mv t))\/(st=false/\Iw c q u (w ++ frs s u))):=by
 obtain ⟨hr,m,rfl⟩:=h;have fin:∀ {u},Nxt c q u k st->(∃ k' mv' t',Rwd c q u (q.cyc m ++ q.wrd (k + 1) ++ frs s u) k' mv' t' st/\((st=true/\k'=0)\/q.mea k' mv' t' < q.mea k mv t))\/(st=false/\Iw c q u (q.cyc m ++ q.wrd (k + 1) ++ frs s u)):=λ{u} h=>by
  rcases h.word hc hs (m:=m) hr with ⟨h1,h2⟩ | ⟨_,h1,h2⟩
  ·refine .inl ⟨_,_,_,h1,?_⟩;by_cases e:k + 1 < q.n
   ·have:q.nk k=k + 1:=by unfold CasD.nk;rw [if_pos e]
    rw [this];exact .inr (mea_ms e)
   ·have:q.nk k=0:=by unfold CasD.nk;rw [if_neg e]
    exact .inl ⟨h2 this,this⟩
  ·exact .inr ⟨h1,h2⟩
 rcases hr.pend hc hx with ⟨a,ha,hm,rfl⟩ | ⟨rfl,hw,rfl⟩
 ·obtain ⟨u,h1,hn,h2⟩:=ev_end hc hs hr ha hm;refine ⟨u,h1,hn,?_⟩;rcases h2 with ⟨t',h2⟩ | ⟨_,h2⟩
  ·have ht:t=0:=by
    rcases hr.hr with ⟨_,h⟩ | ⟨h,_⟩
    ·exact h
    ·obtain ⟨o,ho⟩:=hr.hm a hm;rw [h a o ho] at hm;cases hm
   subst ht;refine .inl ⟨k,_,t',⟨h2,m,?_⟩,.inr (mea_un ha hm)⟩;rw [Vu hc hr.at_.b h2.at_.b λb _=>?_,List.append_nil];rw [Ek_un b];by_cases e:b=a
   ·rw [if_pos e];exact .inr ⟨_,rfl⟩
   ·rw [if_neg e];exact .inl rfl
  ·exact fin h2
 ·obtain ⟨u,h1,hn,h2⟩:=ev_tim hc hs hp hr;exact ⟨u,h1,hn,fin h2⟩
end Go.Pn
namespace Go.Pn
open Go
open Csc
theorem AY {f:Nat->Option Ab}:∀ (m lo:Nat) (l:List Ab),l.Pairwise (λx y=>x.Actuator < y.Actuator)->(∀ x∈l,(lo:Int)<=x.Actuator/\x.Actuator < ((lo + m:Nat):Int)) ->
  (∀ a,lo<=a->a < lo + m->(f a=none/\∀ x∈l,x.Actuator≠(a:Int))\/∃ x∈l,x.Actuator=(a:Int)/\f a=some x)->(List.range' lo m).filterMap f=l
 | 0,lo,l,_,hb,_=>by
  cases l with
  | nil=>rfl
  | cons x l=>have:=hb x (List.mem_cons_self ..);omega
 | m + 1,lo,l,hp,hb,hf=>by
  rw [List.range'_succ,List.filterMap_cons];rcases hf lo (Nat.le_refl _) om_ with ⟨h1,h2⟩ | ⟨x,hx,h1,h2⟩
  ·rw [h1];refine AY m (lo + 1) l hp (λx hx=>?_) λa ha hl=>hf a om_ om_;have:=hb x hx;have:=h2 x hx;omega
  ·rw [h2];cases l with
   | nil=>cases hx
   | cons y l=>
    have hp':=List.pairwise_cons.1 hp;have e:x=y:=by
     rcases List.mem_cons.1 hx with h | h
     ·exact h
     ·have:=hp'.1 x h;have:=hb y (List.mem_cons_self ..);omega
    subst e;dsimp only;congr 1;refine AY m (lo + 1) l hp'.2 (λz hz=>?_) λa ha hl=>?_
    ·have:=hp'.1 z hz;have:=hb z (List.mem_cons_of_mem _ hz);omega
    ·rcases hf a om_ om_ with ⟨g1,g2⟩ | ⟨z,hz,g1,g2⟩
     ·exact .inl ⟨g1,λw hw=>g2 w (List.mem_cons_of_mem _ hw)⟩
     ·refine .inr ⟨z,?_,g1,g2⟩;rcases List.mem_cons.1 hz with h | h
      ·subst h;omega
      ·exact h
variable {s:Ah}
theorem Stk.pw {x:Step} (h:Stk x):x.Strokes.Pairwise λy z=>y.Actuator < z.Actuator:=by
 rw [List.pairwise_iff_getElem];intro i j hi hj hij;exact h.asc hij (gE_ hi) (gE_ hj)
theorem Kv (h:Sq4 s) {k:Nat} (hk:k < n s):(dat s).skw k=(stp s k).Strokes:=by
 unfold CasD.skw;rw [List.range_eq_range'];have hst:=h.st k hk;have hac:=h.q.ac k hk;have hA:=h.Ac;refine AY _ 0 _ hst.pw (λx hx=>?_) λa _ ha=>?_
 ·have:=hac x hx;show _/\_ < ((0 + A s:Nat):Int);omega
 ·by_cases hm:(dat s).ms k a=true
  ·obtain ⟨w,hw⟩:=Dp.1 hm;have hw':(a,w)∈(stp s k).Strokes.map λx=>(x.Actuator.toNat,x.Out):=hw;obtain ⟨x,hx,he⟩:=List.mem_map.1 hw';have h1:x.Actuator.toNat=a:=congrArg Prod.fst he;have h2:x.Out=w:=congrArg Prod.snd he;refine .inr ⟨x,hx,by have:=(hac x hx).1;omega,?_⟩;have hq:SqP (dat s):=h.q.sq;rw [if_pos hm,hq.pos_in hk hw];have:=(hac x hx).1;cases x with
   | mk p o=>
    dsimp only at h1 h2 this;subst h2;congr 2;omega
  ·refine .inl ⟨if_neg hm,λx hx e=>hm (Dp.2 ⟨x.Out,?_⟩)⟩;show (a,x.Out)∈(stp s k).Strokes.map λx=>(x.Actuator.toNat,x.Out);exact List.mem_map.2 ⟨x,hx,by rw [e];rfl⟩
end Go.Pn
namespace Go.Pn
open Go
variable {q:CasD}
theorem cyc_len {m:Nat}:(q.cyc m).length=m * (q.wrd q.n).length:=by
 induction m with
 | zero=>simp [CasD.cyc]
 | succ m ih=>rw [Qj,List.length_append,ih,Nat.succ_mul]
theorem Xa {j:Nat}:∀ d,∃ X,q.wrd (j + d)=q.wrd j ++ X
 | 0=>⟨[],by simp⟩
 | d + 1=>by
  obtain ⟨X,h⟩:=Xa (j:=j) d;exact ⟨X ++ q.skw (j + d),by rw [show j + (d + 1)=j + d + 1 by omega,Bw,h,List.append_assoc]⟩
theorem Oo {j k:Nat} (h:j<=k):(q.wrd j).length<=(q.wrd k).length:=by
 obtain ⟨X,hX⟩:=Xa (q:=q) (j:=j) (k - j);rw [show j + (k - j)=k by omega] at hX;rw [hX,List.length_append];omega
theorem pos_mod {m k:Nat} (hk:k < q.n) (hne:0 < (q.skw k).length):((q.cyc m ++ q.wrd (k + 1)).length - 1) % (q.wrd q.n).length=(q.wrd k).length + ((q.skw k).length - 1):=by
 have h1:=Oo (q:=q) (show k + 1<=q.n by omega);have h2:(q.wrd (k + 1)).length=(q.wrd k).length + (q.skw k).length:=by rw [Bw,List.length_append]
 rw [List.length_append,cyc_len,show m * (q.wrd q.n).length + (q.wrd (k + 1)).length - 1=(q.wrd k).length + ((q.skw k).length - 1) + (q.wrd q.n).length * m by rw [Nat.mul_comm];omega,Nat.add_mul_mod_self_left];exact Nat.mod_eq_of_lt om_
end Go.Pn
namespace Go.Pn
open Go
open Csc
variable {s:Ah}
theorem frs6 {c:Aa} {s u:Ad} (hb:Bd_ c) (hf:Fit c s):(frs s u).length<=6:=by
 have h1:=frs_len (s:=s) (t:=u);have h2:=hf.e;have h3:=hb.a';omega
theorem hap_ok {c:Aa} {s u:Ad} {x:Af} {w:List Ab} (hc:Rc c) (hf:Fit c s) (hq:Qt c s) (ha:aft c s x=(u,0)) (hn:∀ y,¬ afP c s x y) (hu:Fit c u) (hw:w.length<=100000) :
  Yd FF x c.Actuators c.Inputs c.Signals c.Plus c.Minus s.Ends s.Valves s.Inputs s.Values s.Timers w=some (frs s u,true,u.Ends,u.Valves,u.Inputs,u.Values,u.Timers,w ++ frs s u):=by
 obtain ⟨l,h1,_,h3⟩:=DM (x:=x) hc hf hq;obtain rfl:=h3.eq (Cs.nil hn);have hl:=frs6 (u:=u) hc.rt.bd hf;rw [ha] at h1;unfold Yd;rw [show (⟨c.Actuators,c.Inputs,c.Signals,c.Plus,c.Minus⟩:Aa)=c from rfl,show (⟨s.Ends,s.Valves,s.Inputs,s.Values,s.Timers⟩:Ad)=s from rfl,h1,ob_];dsimp only;rw [Ss hc.rt.bd hf hu,ob_];dsimp only;rw [show (((wr ((0:Int) + 0)) != 0) || decide ((([]:List Int).length:Int) > 0))=false by rfl,cf_,Ph hc,(Bn hc.rt.bd).2 hu,ob_,ob_,zf,cf_,Be om_,ob_]
theorem hap0_ok {c:Aa} {s u:Ad} {x:Af} (hc:Rc c) (hf:Fit c s) (hq:Qt c s) (ha:aft c s x=(u,0)) (hn:∀ y,¬ afP c s x y) (hu:Fit c u) :
  m89 FF x c.Actuators c.Inputs c.Signals c.Plus c.Minus s.Ends s.Valves s.Inputs s.Values s.Timers=some (frs s u,true,c.Actuators,u.Ends,u.Valves,u.Inputs,u.Values,u.Timers,frs s u):=by
 obtain ⟨l,h1,_,h3⟩:=DM (x:=x) hc hf hq;obtain rfl:=h3.eq (Cs.nil hn);have hl:=frs6 (u:=u) hc.rt.bd hf;rw [ha] at h1;unfold m89;rw [show (⟨c.Actuators,c.Inputs,c.Signals,c.Plus,c.Minus⟩:Aa)=c from rfl,show (⟨s.Ends,s.Valves,s.Inputs,s.Values,s.Timers⟩:Ad)=s from rfl,h1,ob_];dsimp only;rw [Ss hc.rt.bd hf hu,ob_];dsimp only;rw [show (((wr ((0:Int) + 0)) != 0) || decide ((([]:List Int).length:Int) > 0))=false by rfl,cf_,Ph hc,(Bn hc.rt.bd).2 hu,ob_,ob_,zf,cf_,Be so_,ob_,List.nil_append]
theorem any_go {c:Aa} {s:Ad} {w:List Ab} {ch:UInt8} {P:Ad->Prop} (hc:Rc c) (hf:Fit c s) (hq:Qt c s) (hne:Pn.pend s≠[]) (hP:∀ x∈Pn.pend s,∃ u,aft c s x=(u,0)/\(∀ y,¬ afP c s x y)/\Fit c u/\P u) (hw:w.length<=100000) :
  ∃ u,P u/\m25 FF ch c.Actuators c.Inputs c.Signals c.Plus c.Minus s.Ends s.Valves s.Inputs s.Values s.Timers w=some (true,true,u.Ends,u.Valves,u.Inputs,u.Values,u.Timers,w ++ frs s u):=by
 have hpos:=List.length_pos_iff.2 hne;have hi:ch.toNat % (Pn.pend s).length < (Pn.pend s).length:=Nat.mod_lt _ hpos;have hx:=gE_ hi;obtain ⟨u,h1,h2,h3,h4⟩:=hP _ (List.getElem_mem hi);refine ⟨u,h4,?_⟩;have h8:ch.toNat < 256:=UInt8.toNat_lt ch;have hk:(Ik.ofI (Ik.toI ch):Int)=((ch.toNat:Nat):Int):=by
  show wr ((ch.toNat:Nat):Int)=_;exact Ao om_ om_
 unfold m25;rw [show (⟨c.Actuators,c.Inputs,c.Signals,c.Plus,c.Minus⟩:Aa)=c from rfl,show (⟨s.Ends,s.Valves,s.Inputs,s.Values,s.Timers⟩:Ad)=s from rfl,CR hc hf hq,ob_];dsimp only;rw [zf,Bool.false_or,show (((Pn.pend s).length:Int) == 0)=false by rw [beq_eq_false_iff_ne];omega,cf_,hk,Lb hpos,ob_,Aj,hx,ob_,hap_ok hc hf hq h1 h2 h3 hw];rfl
theorem beg_ok (h:Sq5 s):∃ u,m23 FF (cbl s)=some (true,(cbl s).Actuators,(cbl s).Inputs,(cbl s).Signals,(cbl s).Plus,(cbl s).Minus,u.Ends,u.Valves,u.Inputs,u.Values,u.Timers)/\Iw (cbl s) (dat s) u []:=by
 have hc':=Vd h;have hc:=h.q.cas (N:=nmS) (i:=⟨#[115,116,97,114,116]⟩);have hs:=h.q.sq;have hb:=(h.q.ini (N:=nmS) (i:=⟨#[115,116,97,114,116]⟩) (Ui hc'.rt)).gates hc;have hR:=Ov hc hs;have hchf:(dat s).ch=false:=rfl;rw [ij_f hchf,Ti_f hchf] at hR;obtain ⟨u,g1,g2,g3⟩:=idle_ hc hs hb (by rw [ij_f hchf,Ti_f hchf];exact .fix hR.fM hR.fT hR.fn) om_;have h8:=CS hc';rw [show rst (cbl s) 65 (gates (cbl s) (ini (cbl s)))=some u from g1] at h8;obtain ⟨l,h8,_,hl⟩:=h8;obtain rfl:=hl.eq (Cs.nil g3);have hbu:Bs (cbl s) (dat s) u _ _ _ _ _:=At_.b g2;refine ⟨u,?_,g2,0,rfl⟩;unfold m23;rw [show (⟨(cbl s).Actuators,(cbl s).Inputs,(cbl s).Signals,(cbl s).Plus,(cbl s).Minus⟩:Aa)=cbl s from rfl,h8,ob_];dsimp only;rw [show (((0:Int) == 0) && ((([]:List Int).length:Int) == 0))=true by rfl,ct_,show (⟨u.Ends,u.Valves,u.Inputs,u.Values,u.Timers⟩:Ad)=u from rfl,Ph hc',(Bn hc'.rt.bd).2 hbu.fit];rfl
theorem B4 (h:Sq5 s) {u:Ad} (hi:Iw (cbl s) (dat s) u []):∃ v,m24 FF true (cbl s).Actuators (cbl s).Inputs (cbl s).Signals (cbl s).Plus (cbl s).Minus u.Ends u.Valves u.Inputs u.Values u.Timers=some (true,(cbl s).Actuators,v.Ends,v.Valves,v.Inputs,v.Values,v.Timers,frs u v)/\Rwd (cbl s) (dat s) v (frs u v) 0 ((dat s).ms 0) 0 true:=by
 have hc':=Vd h;have hc:=h.q.cas (N:=nmS) (i:=⟨#[115,116,97,114,116]⟩);obtain ⟨v,h1,h2,h3⟩:=hi.start hc h.q.sq;have hbu:Bs (cbl s) (dat s) u _ _ _ _ _:=At_.b hi.1;refine ⟨v,?_,by simpa using h3⟩;unfold m24;rw [hap0_ok hc' hbu.fit (At_.qt hc hi.1) h1 h2 h3.r.at_.b.fit];rfl
theorem few7 (s:Ah):∃ b,m50 FF s=some b:=by
 unfold m50;by_cases h:s.Steps.length > 128
 ·rw [dt_ (by omega:(s.Steps.length:Int) > 128),ct_];exact ⟨_,rfl⟩
 ·rw [df_ (by omega:¬ (s.Steps.length:Int) > 128),cf_];have h1:=Cw (L:=Jv s) (N:=s.Steps.length) (Q:=λi=>match s.Steps[i]? with | some x=>decide ((x.Strokes.length:Int) > 40) | none=>false) (r:=λ_=>false) (λn i hi=>by
   rw [Jv,Al,dt_ hi,ct_,Aj,gE_ hi,ob_,Am om_]) (λn=>by
   rw [Jv,Al,df_ om_,cf_]) FF 0 om_ uF
  rw [n0] at h1;rcases h1 with ⟨_,_,_,_,h1⟩ | ⟨h1,_⟩ <;> rw [h1] <;> exact ⟨_,rfl⟩
theorem Wk (s:Ah) (m:Int):∃ b,m19 FF s m=some b/\(b=true->Sq4 s/\(n s:Int)<=m):=by
 obtain ⟨b,hb⟩:=few7 s;obtain ⟨e,he,hst⟩:=CY s;unfold m19;by_cases h:(s.Steps.length:Int)<=m
 ·rw [dt_ h,ct_,hb,ob_,ob_];cases b with
  | false=>exact ⟨false,rfl,λh=>by cases h⟩
  | true=>
   rw [ct_,he];refine ⟨_,rfl,λh0=>?_⟩;have h0:e=0:=by simpa using h0
   obtain ⟨h1,h2,h3⟩:=hst h0;exact ⟨⟨h1,h2,h3⟩,h⟩
 ·rw [df_ h];exact ⟨false,rfl,λh=>by cases h⟩
theorem DQ (h:Sq4 s) {k:Nat} (hk:k<=n s):((dat s).wrd k).length<=6 * k:=by
 induction k with
 | zero=>simp [CasD.wrd]
 | succ k ih=>
  have:=ih om_;rw [Bw,List.length_append,Kv h (show k < n s by omega)];have:=(h.st k om_).le;omega
theorem CW (h:Sq4 s):m26 FF s=some ((dat s).wrd (n s)):=by
 have hn:=h.n;unfold m26;obtain ⟨v,hv,hh⟩:=Te (L:=Ns s) (mk:=λi (v:List Ab)=>((i:Int),v)) (N:=n s) (I:=λi v=>v=(dat s).wrd i) (λm i v hi hI=>by
  subst hI;have:=DQ h (show i<=n s by omega);have h6:=(h.st i hi).le;refine ⟨_,rfl,?_⟩;rw [Ns];dsimp only;rw [show decide ((i:Int) < (s.Steps.length:Int))=true from dt_ (by show (i:Int) < ((n s:Nat):Int);omega),ct_,Aj,Bg hi,ob_,Be om_,ob_,Am om_,Bw,Kv h hi]) (λm v _=>by
  rw [Ns];dsimp only;rw [show decide (((n s:Nat):Int) < (s.Steps.length:Int))=false from df_ (by show ¬ ((n s:Nat):Int) < ((n s:Nat):Int);omega),cf_]) FF 0 [] om_ uF rfl
 subst hv;try dsimp only at hh
 rw [n0] at hh;rw [hh];rfl
theorem CU (h:Sq4 s) {k:Nat} (hk:k < n s) {a:Nat}:m28 FF (stp s k).Strokes (a:Int)=some ((dat s).ms k a):=by
 have hst:=h.st k hk;have h6:=hst.le;have e1:=Cw (L:=Nj FF (stp s k).Strokes (a:Int)) (N:=(stp s k).Strokes.length) (Q:=λi=>match (stp s k).Strokes[i]? with | some x=>x.Actuator == (a:Int) | none=>false) (r:=λi=>i) (λm i hi=>by
  have hx:=gE_ hi;rw [Nj,Al,dt_ hi,ct_,Aj,hx,ob_,Am om_];rfl) (λm=>by
  rw [Nj,Al,df_ om_,cf_]) FF 0 om_ uF
 rw [n0] at e1;unfold m28 m93;rcases e1 with ⟨j,_,hj,hq,e1⟩ | ⟨e1,hq⟩
 ·rw [gE_ hj] at hq;have hq:(stp s k).Strokes[j].Actuator=(a:Int):=by simpa using hq
  rw [e1];have:(dat s).ms k a=true:=Dp.2 ⟨(stp s k).Strokes[j].Out,by
   show (a,_)∈(stp s k).Strokes.map λx=>(x.Actuator.toNat,x.Out);exact List.mem_map.2 ⟨_,List.getElem_mem hj,by rw [hq];rfl⟩⟩
  rw [this];show some (decide ((j:Int)>=0))=_;rw [dt_ om_]
 ·rw [e1];have:(dat s).ms k a=false:=by
   cases hm:(dat s).ms k a with
   | false=>rfl
   | true=>
    exfalso;obtain ⟨w,hw⟩:=Dp.1 hm;have hw:(a,w)∈(stp s k).Strokes.map λx=>(x.Actuator.toNat,x.Out):=hw;obtain ⟨x,hx,he⟩:=List.mem_map.1 hw;have h1:x.Actuator.toNat=a:=congrArg Prod.fst he;obtain ⟨j,hj⟩:=List.getElem?_of_mem hx;have hlt:=(List.getElem?_eq_some_iff.1 hj).1;have h2:=hq j om_ hlt;rw [hj] at h2;have h3:=h.q.ac k hk x hx;have h2:¬ x.Actuator=(a:Int):=by simpa using h2
    omega
  rw [this];rfl
theorem CV (h:Sq4 s) {k:Nat} (hk:k<=n s):∃ l,m27 FF s (k:Int)=some (l,0)/\l.length=A s/\∀ a,a < A s->l[a]?=some ((dat s).pos k a):=by
 have hn:=h.n;have hA:=h.A6;have hac:=h.Ac;have hns:s.Steps.length=n s:=rfl;unfold m27;rw [Pg h,ob_,zf,cf_];unfold m91;rw [ob_];have yes:∀ {z:Ar6},Endz s z k->∃ l,Dw FF s (k:Int) ((k:Int),z) ([],0)=some (false,(l,1))/\l.length=A s/\∀ a,a < A s->l[a]?=some ((dat s).pos k a):=λ{z} hz=>by
  have hzl:=hz.l;refine ⟨z.l.take (A s),?_,by rw [List.length_take];omega,λa ha=>?_⟩
  ·unfold Dw;dsimp only;rw [show ((k:Int) == (k:Int))=true by simp,ct_];unfold lsl;rw [if_pos ⟨by omega,by omega,by omega⟩,ob_,Dc so_,ob_];simp only [Int.toNat_zero,List.drop_zero,Nat.sub_zero];rfl
  ·rw [List.getElem?_take,if_pos ha];have h1:=hz.p a ha;unfold Ar6.at_ at h1;rw [List.getD_eq_getElem?_getD] at h1;have h2:a < z.l.length:=by omega
   rw [gE_ h2] at h1 ⊢;exact congrArg some h1
 have no_:∀ {i:Nat} {z:Ar6},i≠k->Dw FF s (k:Int) ((i:Int),z) ([],0)=some (true,([],0)):=λ{i z} hi=>by
  unfold Dw;dsimp only;rw [show ((i:Int) == (k:Int))=false by rw [beq_eq_false_iff_ne];omega,cf_]
 have key:∀ (m i:Nat) (z:Ar6),Endz s z i->i<=k->n s - i < m->∃ l,l.length=A s/\(∀ a,a < A s->l[a]?=some ((dat s).pos k a)) /\
   (Hw (Dw FF s (k:Int)) FF s m ((i:Int),([],0),z)=some (.ret (l,1))\/∃ z',Endz s z' k/\k=n s/\Hw (Dw FF s (k:Int)) FF s m ((i:Int),([],0),z)=some (.brk ((n s:Int),([],0),z'))):=by
  intro m
  induction m with
  | zero=>intro i z _ _ h;omega
  | succ m ih=>
   intro i z hz hik hm;rw [Hw];dsimp only;by_cases hi:i < n s
   ·rw [show decide ((i:Int) < (s.Steps.length:Int))=true from dt_ om_,ct_,Aj,Bg hi,ob_];by_cases he:i=k
    ·subst he;obtain ⟨l,h1,h2,h3⟩:=yes hz;rw [h1];exact ⟨l,h2,h3,.inl rfl⟩
    ·obtain ⟨r,h1,h2⟩:=hz.next h hi;rw [no_ he,ob_,nt_,cf_,h1,ob_,Am om_];exact ih (i + 1) r h2 om_ om_
   ·have e:i=n s:=by omega
    have e2:k=n s:=by omega
    rw [show decide ((i:Int) < (s.Steps.length:Int))=false from df_ om_,cf_];have hz':Endz s z k:=by rw [e2,← e];exact hz
    obtain ⟨l,_,h2,h3⟩:=yes hz';exact ⟨l,h2,h3,.inr ⟨z,hz',e2,by rw [e]⟩⟩
 obtain ⟨l,hl1,hl2,hh⟩:=key FF 0 Ar6.z Endz.ini om_ uF;rw [n0] at hh;unfold m172;rcases hh with hh | ⟨z',hz',e,hh⟩
 ·rw [hh];exact ⟨l,rfl,hl1,hl2⟩
 ·rw [hh,ob_];dsimp only;obtain ⟨l',h1,h2,h3⟩:=yes hz';rw [hns,← e,h1];exact ⟨l',rfl,h2,h3⟩
end Go.Pn
namespace Go.Pn
open Go
open Csc
variable {s:Ah}
theorem perf:m20 FF=some true:=by kernel_rfl
theorem sq5_of (h:Sq4 s) (hn:n s<=10) (hA:A s<=4):Sq5 s:=⟨h,by
 have h1:=h.G64;have h2:=Oh (s:=s) (k:=n s);rw [Ew];omega⟩
theorem Sq5.ck (h:Sq5 s):m22 FF (cbl s)=some 0:=(Vd h).ck'
theorem Xg (h:Sq4 s) {k:Nat} (hk:k < n s):0 < ((dat s).skw k).length:=by
 rw [Kv h hk];exact List.length_pos_iff.2 (h.st k hk).ne
theorem place (h:Sq4 s) {k j:Nat} (hk:k < n s) (hj:j < ((dat s).skw k).length):∀ (d i m:Nat),i + d=k->d < m->Wp s m ((i:Int),(((((dat s).wrd k).length - ((dat s).wrd i).length + j:Nat)):Int))=some ((k:Int),(j:Int))
 | 0,i,m + 1,hi,_=>by
  obtain rfl:i=k:=by omega
  have hn:=h.n;rw [Wp];dsimp only;rw [Aj,Bg hk,ob_,← Kv h hk,Nat.sub_self,Nat.zero_add,df_ om_,cf_]
 | d + 1,i,m + 1,hi,hm=>by
  have hn:=h.n;have hin:i < n s:=by omega
  have h6:=DQ h (show k<=n s by omega);have h7:=(h.st k hk).le;rw [← Kv h hk] at h7;have h1:=Oo (q:=dat s) (show i + 1<=k by omega);have h2:((dat s).wrd (i + 1)).length=((dat s).wrd i).length + ((dat s).skw i).length:=by rw [Bw,List.length_append]
  have hp:=Xg h hin;rw [Wp];dsimp only;rw [Aj,Bg hin,ob_,← Kv h hin,dt_ om_,ct_,ob_,← Kv h hin,Am om_,Ao om_ om_];rw [show (((((dat s).wrd k).length - ((dat s).wrd i).length + j:Nat)):Int) - (((dat s).skw i).length:Int)=(((((dat s).wrd k).length - ((dat s).wrd (i + 1)).length + j:Nat)):Int) by omega];exact place h hk hj d (i + 1) m om_ om_
 | d,i,0,_,hm=>by omega
theorem C5 (h:Sq4 s) {c:Aa} (hA:cA c=A s) {u:Ad} {k:Nat} {mv:Nat->Bool} {t:Int} {st:Bool} (hr:RunS c (dat s) u k mv t st) {l:List Bool} (hl:∀ a,a < A s->l[a]?=some ((dat s).pos (k + 1) a))
  {x13:Bool×Bool×(List Int)×(List Bool)×(List Bool)×(List Bool)×(List Int)×(List Ab)} (hx:x13.2.2.1=u.Ends) {e:Int} {o:Int×Int} (ho:o.1=(k:Int)):∃ z,Ue FF s x13 o (l,e) FF (0:Int)=some (.brk z):=by
 have hb:Bs c (dat s) u _ _ _ _ _:=hr.at_.b;have hk:=hr.hk;have hfe:u.Ends.length=A s:=by have:=hb.fit.e;omega
 have hA6:=h.A6;have e1:=Cw (L:=Ue FF s x13 o (l,e)) (N:=A s) (Q:=λ_=>false) (r:=λ_=>false) (λm i hi=>by
  have hi':i < u.Ends.length:=by omega
  have hx':u.Ends[i]?=some ((dat s).Ek k mv i):=by
   have:=hb.e i hi;rw [List.getD_eq_getElem?_getD,gE_ hi'] at this;rw [gE_ hi'];exact congrArg some this
  rw [Ue,hx,hfe,Al,dt_ hi,ct_,Aj,hx',ob_];dsimp only;rw [Aj,hl i hi,ob_,ho,Aj,Bg hk];have hms:mv i=true->(dat s).ms k i=true:=λhm=>by
   obtain ⟨o,ho⟩:=hr.hm i hm;exact Dp.2 ⟨o,ho⟩
  have hE:(dat s).Ek k mv i=if mv i=true then (if (dat s).pos (k + 1) i=true then 1 else 3) else Qs ((dat s).pos (k + 1) i):=rfl
  rw [hE];cases hp:(dat s).pos (k + 1) i <;> cases hm:mv i <;> simp only [ob_,ct_,cf_,CU h hk,Am (show i < 4611686018427387904 by omega)]
  ·rfl
  ·rw [hms hm];rfl
  ·rfl
  ·rw [hms hm];rfl) (λm=>by
  rw [Ue,hx,hfe,Al,df_ om_,cf_]) FF 0 om_ uF
 rw [n0] at e1;rcases e1 with ⟨_,_,_,hq,_⟩ | ⟨e1,_⟩
 ·cases hq
 ·exact ⟨_,e1⟩
theorem A8 (s:Ah) (ch:List UInt8):m4 FF s ch=some true:=by
 obtain ⟨b,hb,hsm⟩:=Wk s 10;unfold m4;rw [hb,ob_,perf];by_cases hx:(((!b) || (decide (s.Actuators > 4))) || (decide ((ch.length:Int) > 40)))=true
 ·rw [hx,ct_];rfl
 have hx':(((!b) || (decide (s.Actuators > 4))) || (decide ((ch.length:Int) > 40)))=false:=by simpa using hx
 rw [hx',cf_];rw [Bool.or_eq_false_iff,Bool.or_eq_false_iff,decide_eq_false_iff_not,decide_eq_false_iff_not] at hx';obtain ⟨⟨hb1,hA4⟩,hc40⟩:=hx';obtain ⟨h4,hn⟩:=hsm (by simpa using hb1);have hA:A s<=4:=by have:=h4.Ac;omega
 have hn:n s<=10:=by omega
 have h:=sq5_of h4 hn hA;have hc':=Vd h;have hc:=h.q.cas (N:=nmS) (i:=⟨#[115,116,97,114,116]⟩);have hs:=h.q.sq;have hp:TmP (dat s):=Sqc.tmp;obtain ⟨u0,g0,i0⟩:=beg_ok h;obtain ⟨u1,g1,r1⟩:=B4 h i0;have hbu0:Bs (cbl s) (dat s) u0 _ _ _ _ _:=At_.b i0.1;have hl1:=frs6 (u:=u1) hc'.rt.bd hbu0.fit;rw [CX h,ob_];dsimp only;rw [zf,cf_,h.ck,ob_,ob_,zf,Bool.false_or,show (((cbl s).Inputs.length:Int) != 1)=false by rfl,cf_,g0,ob_];dsimp only;rw [nt_,cf_,g1,ob_];dsimp only;rw [nt_,cf_,cf_];obtain ⟨v,hv,hh⟩:=forG (L:=Wq FF s ch (true,(cbl s).Actuators,(cbl s).Inputs,(cbl s).Signals,(cbl s).Plus,(cbl s).Minus,u0.Ends,u0.Valves,u0.Inputs,u0.Values,u0.Timers) (true,(cbl s).Actuators,u1.Ends,u1.Valves,u1.Inputs,u1.Values,u1.Timers,frs u0 u1))
  (mk:=λi (v:Ad×List Ab)=>((i:Int),v.1.Ends,v.1.Valves,v.1.Inputs,v.1.Values,v.1.Timers,v.2)) (N:=ch.length) (E:=λv=>some (.brk ((ch.length:Int),v.1.Ends,v.1.Valves,v.1.Inputs,v.1.Values,v.1.Timers,v.2)))
  (I:=λi v=>(∃ k mv t,Rwd (cbl s) (dat s) v.1 v.2 k mv t true)/\v.2.length<=6 * i + 6) (λm i v hi hI=>by
  obtain ⟨⟨k,mv,t,hr⟩,hlen⟩:=hI;have hbv:Bs (cbl s) (dat s) v.1 _ _ _ _ _:=hr.r.at_.b;have hch:=gE_ hi;obtain ⟨u,⟨⟨k',mv',t',hr'⟩,hlu⟩,hu⟩:=any_go (ch:=ch[i]) (w:=v.2) (P:=λu=>(∃ k mv t,Rwd (cbl s) (dat s) u (v.2 ++ frs v.1 u) k mv t true)/\(v.2 ++ frs v.1 u).length<=6 * (i + 1) + 6) hc' hbv.fit (hr.r.at_.qt hc) (hr.r.pend_ne hc) (λx hx=>by
   obtain ⟨u,h1,h2,h3⟩:=hr.next hc hs hp hx;rcases h3 with ⟨k',mv',t',h3,_⟩ | ⟨h3,_⟩
   ·refine ⟨u,h1,h2,h3.r.at_.b.fit,⟨_,_,_,h3⟩,?_⟩;have:=frs6 (u:=u) hc'.rt.bd hbv.fit;rw [List.length_append];omega
   ·cases h3) om_
  refine ⟨(u,v.2 ++ frs v.1 u),⟨⟨_,_,_,hr'⟩,hlu⟩,?_⟩;have hk:k' < n s:=hr'.r.hk;obtain ⟨M,hM⟩:=hr'.w;have hsp:=Xg h4 hk;have hpm:=pos_mod (q:=dat s) (m:=M) hk hsp;have hmono:=Oo (q:=dat s) (show k' + 1<=n s from hk);have hls:((dat s).wrd (k' + 1)).length=((dat s).wrd k').length + ((dat s).skw k').length:=by rw [Bw,List.length_append]
  have hwl:(v.2 ++ frs v.1 u).length=((dat s).cyc M ++ (dat s).wrd (k' + 1)).length:=congrArg _ hM;have hpos:0 < (v.2 ++ frs v.1 u).length:=by rw [hwl,List.length_append];omega
  rw [Wq];dsimp only;rw [Al,dt_ hi,ct_,Aj,hch,ob_,hu,ob_];dsimp only;rw [show ((!true) || (!true))=false by rfl,Bool.false_or,show (((v.2 ++ frs v.1 u).length:Int) == 0)=false by rw [beq_eq_false_iff_ne];omega,cf_,CW h4,ob_];rw [Ao om_ om_,show ((v.2 ++ frs v.1 u).length:Int) - 1=(((v.2 ++ frs v.1 u).length - 1:Nat):Int) by omega,Lb om_,ob_];rw [hwl,show (((dat s).cyc M ++ (dat s).wrd (k' + 1)).length - 1) % ((dat s).wrd (n s)).length=_ from hpm];have hpl:=place h4 (j:=((dat s).skw k').length - 1) hk om_ k' 0 FF om_ uF;rw [show ((dat s).wrd 0).length=0 by rfl,Nat.sub_zero,n0] at hpl;rw [hpl,ob_];dsimp only;rw [Am om_];obtain ⟨l,hl1,hl2,hl3⟩:=CV h4 (k:=k' + 1) hk;rw [hl1,ob_];dsimp only;have hfe:u.Ends.length=A s:=hr'.r.at_.b.fit.e;rw [zf,Bool.false_or,hl2,hfe,show (((A s:Nat):Int) != ((A s:Nat):Int))=false by simp,cf_];obtain ⟨z,hz⟩:=C5 h4 (c:=cbl s) rfl hr'.r hl3 (x13:=(true,true,u.Ends,u.Valves,u.Inputs,u.Values,u.Timers,v.2 ++ frs v.1 u)) rfl (e:=0) (o:=((k':Int),(((dat s).skw k').length - 1:Nat))) rfl;rw [hz,ob_];dsimp only;rw [Am om_]) (λm v _=>by
  rw [Wq];dsimp only;rw [Al,df_ om_,cf_]) FF 0 (u1,frs u0 u1) om_ uF ⟨⟨_,_,_,r1⟩,by omega⟩
 try dsimp only at hh
 rw [n0] at hh;rw [hh];rfl
end Go.Pn

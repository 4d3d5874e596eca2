import Derived.Test.YtohmmpdeoahmmaaGreatDoorFp1
set_option synthInstance.checkSynthOrder false
set_option synthInstance.maxSize 10000
set_option synthInstance.maxHeartbeats 400000
set_option maxRecDepth 100000
set_option maxHeartbeats 4000000
set_option linter.unusedVariables false
set_option linter.unusedSimpArgs false
set_option linter.defProp false
namespace Go.Pn
open Go Go.RowKit
section
variable {rr:Option Nat}
class FV (α:Type) [Rep α] where
 val:α->Value
 of:∀ {M w cs x},Rep.rep (α:=α) M w cs x->mk (Rep.agg α) cs=val x
 to:∀ (x:α),∃ cs,val x=mk (Rep.agg α) cs/\∀ M w,Rep.rep M w cs x
instance:FV Int where
 val x:=.int .i64 x
 of h:=by have h:_=_:=h;rw [h];rfl
 to x:=⟨[.int .i64 x],rfl,λ_ _=>rfl⟩
instance:FV Bool where
 val x:=.bool x
 of h:=by have h:_=_:=h;rw [h];rfl
 to x:=⟨[.bool x],rfl,λ_ _=>rfl⟩
instance:FV P3 where
 val x:=.string x
 of h:=by have h:_=_:=h;rw [h];rfl
 to x:=⟨[.string x],rfl,λ_ _=>rfl⟩
theorem Va.fv {α:Type} [Rep α] [FV α] {F:P1} {M:Nat->Prop} {w:World} {v:Value} {x:α} (h:(Va x).p F M w v):v=FV.val x:=by let ⟨_,cs,hv,hr⟩:=h;rw [hv];exact FV.of hr
theorem FV.va {α:Type} [Rep α] [FV α] (x:α) (M:Nat->Prop) (w:World):(Va x).p [] M w (FV.val x):=by let ⟨cs,h1,h2⟩:=FV.to x;exact ⟨rfl,cs,h1,h2 M w⟩
def Cu {κ β:Type} (eqb:κ->κ->Bool) (k:κ):List (κ×β)->Nat->Option (Nat×β)
 | [],_=>none
 | (k',y) :: m,i=>if eqb k k' then some (i,y) else Cu eqb k m (i + 1)
class MK (P:Program) (K:TypeId) (κ:Type) [Rep κ] [FV κ] (eqb:outParam (κ->κ->Bool)):Prop where
 find:∀ (k:κ) (m:List (κ×Value)) (es:List MapEntry) (w:World),es.map (λe=>(e.key,e.val))=m.map (λp=>(FV.val p.1,p.2))->(Instr.findKey K (FV.val k) es).run P w=.ok (Cu eqb k m 0) w
 check:∀ (k:κ) (b:Bool) (w:World),(Instr.checkKey b 10000 K (FV.val k)).run P w=.ok () w
 stays:∀ (k k':κ),eqb k k'=true->k'=k
 same:∀ (k:κ),Instr.sameBits 10000 (FV.val k) (FV.val k)=true
theorem FV.of_agg {α:Type} [Rep α] [FV α] {P:Program} {T:Nat} {f:α->α->Bool} [he:iH P T f] (x:α):∃ cs,FV.val x=.agg cs.toArray/\∀ M w,Rep.rep M w cs x:=by let ⟨cs,h1,h2⟩:=FV.to x;exact ⟨cs,by rw [h1,he.agg];rfl,h2⟩
theorem MK.ofEqs {P:Program} {K:Nat} {κ:Type} [Rep κ] [FV κ] {f:κ->κ->Bool} [he:iH P K f] (hu:(P.underlying K).map (λd=>match d with | .struct _=>true | _=>false)=some true)
  (hc:∀ (k:κ) (b:Bool) (w:World),(Instr.checkKey b 10000 K (FV.val k)).run P w=.ok () w) (hs:∀ k k':κ,f k k'=true->k'=k) (hb:∀ k:κ,Instr.sameBits 10000 (FV.val k) (FV.val k)=true):MK P K κ f where
 check:=hc
 stays:=hs
 same:=hb
 find k m es w h:=by
  have hnow:(Instr.findKey K (FV.val k) es).run P w=(Instr.findAsking K (FV.val k) es).run P w:=by
   refine run_findKey_eq w ?_ _ _;cases hu':P.underlying K with
   | none=>simp [hu'] at hu
   | some d=>cases d <;> simp [hu'] at hu ⊢
  rw [hnow];have gen:∀ (m:List (κ×Value)) (es:List MapEntry) (i:Nat),es.map (λe=>(e.key,e.val))=m.map (λp=>(FV.val p.1,p.2))->(Instr.findAsking K (FV.val k) es i).run P w=.ok (Cu f k m i) w:=by
   intro m
   induction m with
   | nil=>intro es i h;cases es with
    | nil=>rfl
    | cons _ _=>cases h
   | cons p m ih=>
    intro es i h;cases es with
    | nil=>cases h
    | cons e es=>
     simp only [K4,List.cons.injEq] at h;let ⟨h1,h2⟩:=h;have hk1:e.key=FV.val p.1:=congrArg Prod.fst h1;have hk2:e.val=p.2:=congrArg Prod.snd h1;let ⟨cs,c1,c2⟩:=FV.of_agg (P:=P) (T:=K) (f:=f) k;let ⟨ds,d1,d2⟩:=FV.of_agg (P:=P) (T:=K) (f:=f) p.1;have hr:(Op.equal K (FV.val k) e.key).run P w=.ok (f k p.1) w:=by
      rw [hk1,c1,d1];exact he.run (c2 (λ_=>False) w) (d2 (λ_=>False) w) w
     let ⟨pk,pv⟩:=p;simp only [Instr.findAsking,KJ,hr,KE,Cu,hk2];cases f k pk
     ·simpa using ih es (i + 1) h2
     ·rfl
  exact gen m es 0 h
theorem MK.plain {P:Program} {K:Nat} {κ:Type} [Rep κ] [FV κ] {f:κ->κ->Bool} {d:TypeDesc} (hu:P.underlying K=some d) (hk:∀ k:κ,MapKept.IsKey d (FV.val k)) (hf:∀ k k':κ,Instr.sameNow d (FV.val k) (FV.val k')=some (f k k'))
  (hs:∀ k k':κ,f k k'=true->k'=k) (hb:∀ k:κ,Instr.sameBits 10000 (FV.val k) (FV.val k)=true):MK P K κ f where
 check k b w:=MapKept.run_checkKey hu (hk k) b 9999
 stays:=hs
 same:=hb
 find k m es w h:=by
  refine MapKept.run_findKey hu ?_;have gen:∀ (m:List (κ×Value)) (es:List MapEntry) (i:Nat),es.map (λe=>(e.key,e.val))=m.map (λp=>(FV.val p.1,p.2))->Instr.findNow d (FV.val k) es i=some (Cu f k m i):=by
   intro m
   induction m with
   | nil=>intro es i h;cases es with
    | nil=>rfl
    | cons _ _=>cases h
   | cons p m ih=>
    intro es i h;cases es with
    | nil=>cases h
    | cons e es=>
     simp only [K4,List.cons.injEq] at h;let ⟨h1,h2⟩:=h;have hk1:e.key=FV.val p.1:=congrArg Prod.fst h1;have hk2:e.val=p.2:=congrArg Prod.snd h1;let ⟨pk,pv⟩:=p;simp only [Instr.findNow,hk1,hf,Cu,hk2];cases f k pk
     ·simpa using ih es (i + 1) h2
     ·rfl
  exact gen m es 0 h
def Ka (a b:P3):Bool:=a.data.toList == b.data.toList
theorem Rm {a b:P3}:(a.data.toList == b.data.toList)=(a == b):=by rw [LZ];constructor;(intro h;have h:a.data.toList=b.data.toList:=by simpa using h);(have:a=b:=by cases a;cases b;rw [ByteArray.mk.injEq];exact Array.ext' h);rw [this];exact (MapKept.bytes_beq b b).2 rfl;intro h;rw [(MapKept.bytes_beq a b).1 h];simp
theorem eD {P : Program} {d : Nat} {xs ys : Array Value} {f : Field} {fs : List Field} {w : World} {a b : P3} {r : Bool} (hn : (f.name == "_") = false) (hu : P.underlying f.type = some .string) (h1 : xs[f.offset]? = some (.string a)) (h2 : ys[f.offset]? = some (.string b))
  (h:(Op.eqFields (d + 1) xs ys fs).run P w=.ok r w):(Op.eqFields (d + 1) xs ys (f :: fs)).run P w=.ok ((a.data.toList == b.data.toList) && r) w:=by
 have hn' : f.name ≠ "_" := by intro h; rw [h] at hn; simp at hn
 have ha:(P.underlying f.type).map Br=some false:=by rw [hu];rfl
 rw [Rm];simp only [Op.eqFields,if_pos hn',KJ,Bh ha h1,Bh ha h2,KE,run_equalIn_string w d f.type a b hu,← beq_toListBytes];cases hab:(a == b) <;> simp [h]
theorem Mh {n:Nat} {k:IntKind} {a b:Int}:Instr.sameBits n (.int k a) (.int k b)=(a == b):=by simp [Instr.sameBits]
theorem Hr {n:Nat} {a b:Bool}:Instr.sameBits n (.bool a) (.bool b)=(a == b):=by simp [Instr.sameBits]
theorem Mf {n:Nat} {a:P3}:Instr.sameBits n (.string a) (.string a)=true:=by simp only [Instr.sameBits];exact (MapKept.bytes_beq a a).2 rfl
theorem MK.str {P:Program} {K:Nat} (hu:P.underlying K=some .string):MK P K P3 (λa b=>a.data.toList == b.data.toList):=
 MK.plain hu (λ_=>trivial) (λk k'=>by
  show some (k == k')=_;rw [Rm]) (λk k' h=>by
   rw [Rm] at h;exact ((MapKept.bytes_beq k k').1 h).symm) λk=>(MapKept.bytes_beq k k).2 rfl
theorem Cj {P:Program} {K n:Nat} {b:Bool} {fs:Array Field} {xs:Array Value} {w:World} (hu:P.underlying K=some (.struct fs)) (h:∀ f∈fs.toList,∃ v,(part f.type xs f.offset).run P w=.ok v w/\(Instr.checkKey b n f.type v).run P w=.ok () w):(Instr.checkKey b (n + 1) K (.agg xs)).run P w=.ok () w:=by
 simp only [Instr.checkKey,KJ,run_underlying hu,KE];rw [← Array.forIn_toList];generalize fs.toList=l at h
 induction l with
 | nil=>simp
 | cons f l ih=>
  let ⟨v,h1,h2⟩:=h f ai;simp only [List.forIn_cons,KJ];split
  ·simp only [KJ,h1,h2,KE,KQ];exact ih λg hg=>h g (by simp [hg])
  ·simp only [KQ,KE];exact ih λg hg=>h g (by simp [hg])
theorem j0 {P:Program} {f:Field} {n:Nat} {b:Bool} {xs:Array Value} {w:World} {d:TypeDesc} {v:Value} (hu:P.underlying f.type=some d) (hv:xs[f.offset]?=some v) (hk:MapKept.IsKey d v):∃ v,(part f.type xs f.offset).run P w=.ok v w/\(Instr.checkKey b (n + 1) f.type v).run P w=.ok () w:=by refine ⟨v,Bh ?_ hv,MapKept.run_checkKey hu hk b n⟩;rw [hu]; cases d <;> first | rfl | (cases v <;> cases hk)
def Om {κ ν:Type} [Rep κ] [Rep ν] [FV κ] [FV ν] (r:Nat) (m:List (κ×ν)):Ent where
 p F M w _:=F=[r]/\∃ es clock,w.heap[r]?=some (.map es clock)/\es.toList.map (λe=>(e.key,e.val))=m.map (λp=>(FV.val p.1,FV.val p.2))
 st h e:=by
  obtain ⟨rfl,es,cl,hc,hm⟩:=h;exact ⟨rfl,es,cl,by rw [e.block r (KS.1 hc).1 ai];exact hc,hm⟩
 sb h _:=h
instance {κ ν:Type} [Rep κ] [Rep ν] [FV κ] [FV ν] {r:Nat} {m:List (κ×ν)}:Gh (Om r m):=⟨λh _=>h⟩
def OM {κ ν:Type} [Rep κ] [Rep ν] [FV κ] [FV ν] (m:List (κ×ν)):Ent where
 p F M w v:=∃ r,v=.map (some r)/\(Om r m).p F M w v
 st h e:=let ⟨r,hv,h⟩:=h;⟨r,hv,(Om r m).st h e⟩
 sb h s:=let ⟨r,hv,h⟩:=h;⟨r,hv,(Om r m).sb h s⟩
def bF {κ ν:Type} (eqb:κ->κ->Bool) (m:List (κ×ν)) (k:κ):Option ν:=(Cu eqb k m 0).map (·.2)
def Gj {κ ν:Type} (eqb:κ->κ->Bool) (m:List (κ×ν)) (k:κ) (y:ν):List (κ×ν):=
 match Cu eqb k m 0 with
 | some (i,_)=>m.modify i λp=>(p.1,y)
 | none=>m ++ [(k,y)]
theorem Hx {κ β γ:Type} {eqb:κ->κ->Bool} {k:κ} (f:β->γ):∀ {m:List (κ×β)} {i:Nat},Cu eqb k (m.map λp=>(p.1,f p.2)) i=(Cu eqb k m i).map λq=>(q.1,f q.2)
 | [],_=>rfl
 | (k',y) :: m,i=>by
  simp only [K4,Cu];split
  ·rfl
  ·exact Hx f
theorem Kk {κ β:Type} {eqb:κ->κ->Bool} {k:κ}:∀ {m:List (κ×β)} {i j:Nat} {y:β},Cu eqb k m i=some (j,y)->∃ k',i<=j/\m[j - i]?=some (k',y)/\eqb k k'=true
 | [],_,_,_,h=>by cases h
 | (k',y') :: m,i,j,y,h=>by
  unfold Cu at h;split at h
  ·rename_i hb;cases h
   exact ⟨k',K9 _,by simp,hb⟩
  ·let ⟨k2,h1,h2,h3⟩:=Kk h;refine ⟨k2,by omega,?_,h3⟩;rw [show j - i=(j - (i + 1)) + 1 by omega];simpa using h2
section
variable {P:Program} {M0:Fm} {w0:World} {n:Nat} {Γ:Cx} {Q:Exit->Act->World->Prop} {a:Act} {w:World} {ty:TypeId}
theorem mr {κ ν:Type} [Rep κ] [Rep ν] [FV κ] [FV ν] {T:TypeId}:OR P (.makeMap T none) ty Γ (OM ([]:List (κ×ν))):=by refine OR.run λρ M w r=>?_;refine ⟨.map (some w.heap.size),w.alloc (.map #[] 0),λ_ _ _ _=>?_,Ext.alloc _ _ _,[w.heap.size],by simp,λk hk=>?_,w.heap.size,rfl,rfl,#[],0,Ch _ _,rfl⟩;simp only [execOp,NG,Instr.makeMap,KJ,run_newObj,KE,KQ];rfl;simp at hk;subst hk;exact ⟨Nat.le_refl _,by simp⟩
theorem pL {κ ν:Type} [Rep κ] [Rep ν] [FV κ] [FV ν] {d:Nat} {m:List (κ×ν)} {R:Prop} (k:Nat) (h:St M0 w0 n Γ a w) (hd:Ao Γ d=some (OM m)) (hne:Nat.beq d k=false) (r:∀ b,St M0 w0 n ((d,Qv (.map (some b))) :: (k,Om b m) :: Γ) a w->R):R:=by let ⟨M,φ,h⟩:=h;let ⟨b,hv,hb⟩:=h.holds d _ hd;refine r b ?_;unfold St;rw [Fp];exact h.split (by rw [hd];rfl) (LU hne) ⟨rfl,hv⟩ hb
theorem qv {ops:Array Oper} {rest:List Oper} {d:Nat} {op:Op} {pos:String} {ag:Array Edge} {κ ν:Type} [Rep κ] [Rep ν] [FV κ] [FV ν] {m:List (κ×ν)} (K:Nat)
  (hs:St M0 w0 n Γ a w) (ho:OR P op ty Γ (OM m)) (hn:Nat.blt d n=true) (hdk:Nat.beq d K=false)
  (k:∀ b a' w',St M0 w0 n ((d,Qv (.map (some b))) :: (K,Om b m) :: (d,OM m) :: Γ) a' w'->wpListIn (Fr rr) 0 P ops Q rest a' w'):wpListIn (Fr rr) 0 P ops Q (⟨some d,op,ty,pos,ag,none⟩ :: rest) a w:=
 sq hs ho hn λa' w' s=>pL K s (by simp [Ao]) hdk λb s=>k b a' w' s
def Yo (P:Program) (T:Nat):Option (Nat×Nat):=match P.underlying T with | some (.map k e)=>some (k,e) | _=>none
theorem Hy {P:Program} {T k e:Nat} (h:Yo P T=some (k,e)):P.underlying T=some (.map k e):=by unfold Yo at h;split at h;rename_i hu;rw [hu];simpa using h;cases h
theorem G3 {κ ν:Type} [Rep κ] [Rep ν] [FV κ] [FV ν] {T K E:Nat} {eqb:κ->κ->Bool} [mk:MK P K κ eqb] {zv:Value} {r:Nat} {m:List (κ×ν)} {F:P1} {M:Nat->Prop} {w:World} {u:Value} (h:(Om r m).p F M w u) (hT:Yo P T=some (K,E)) (k:κ) (hz:(P.info? E).map (·.zero)=some (some zv)) (c:Bool) :
  (Instr.lookup T (.map (some r)) (FV.val k) c).run P w=.ok (let q:=match bF eqb m k with | some y=>(FV.val y,true) | none=>(zv,false);if c then .tuple #[q.1,.bool q.2] else q.1) w:=by
 let ⟨_,es,cl,hc,hm⟩:=h;have hf:=mk.find k (m.map λp=>(p.1,FV.val p.2)) es.toList w (by rw [hm];simp);rw [Hx] at hf;have hchk:=mk.check k es.isEmpty w;have hzr:(zeroValue E).run P w=.ok zv w:=by
  cases hi:P.info? E with
  | none=>simp [hi] at hz
  | some i=>
   simp only [hi,Option.map_some,Option.some.injEq] at hz;simp only [zeroValue,typeInfo,KJ,run_program,KE,hi,KQ,hz]
 have hg:(getObj r).run P w=.ok (.map es cl) w:=MapKept.run_getObj_map hc;simp only [Instr.lookup,KJ,run_underlying (Hy hT),KE,hg,KQ,hchk,hf];unfold bF
 cases hq:Cu eqb k m 0 with
 | none=>simp only [NG,KJ,hzr,KE,KQ]
 | some q=>rfl
theorem pS {κ ν:Type} [Rep κ] [Rep ν] [FV κ] [FV ν] {T K E KK:Nat} {eqb:κ->κ->Bool} [MK P K κ eqb] {z:ν} {x y:Operand} {r:Nat} {m:List (κ×ν)} {k:κ} (hx:Od Γ x (Qv (.map (some r)))) (hk:Ao Γ KK=some (Om r m)) (hy:Od Γ y (Va k)) (hT:Yo P T=some (K,E)) (hz:(P.info? E).map (·.zero)=some (some (FV.val z))) :
  OR P (.lookup T x y true) ty Γ (T2 (Va ((bF eqb m k).getD z)) (Va (bF eqb m k).isSome)):=by refine OR.val λρ M w rd=>?_;let ⟨_,_,hv⟩:=hx ρ M w rd;let ⟨_,hb⟩:=hy ρ M w rd;let ⟨_,ho⟩:=rd.tmp _ _ hk;have hr:=G3 (P:=P) ho hT k hz true;refine ⟨.tuple #[FV.val ((bF eqb m k).getD z),.bool (bF eqb m k).isSome],λ_ _ _ _=>?_,_,_,[],[],rfl,rfl,FV.va _ _ _,Va.mkBool⟩;simp only [execOp,hv,Va.fv hb,KJ,hr,KE,KQ];cases bF eqb m k <;> rfl
theorem kL {κ ν:Type} [Rep κ] [Rep ν] [FV κ] [FV ν] {ops:Array Oper} {rest:List Oper} {T K E KK:Nat} {eqb:κ->κ->Bool} [hmk:MK P K κ eqb] {x y u:Operand} {pos:String} {ag:Array Edge} {r:Nat} {m:List (κ×ν)} {k:κ} {v:ν}
  (hs:St M0 w0 n Γ a w) (hx:Od Γ x (Qv (.map (some r)))) (hk:Ao Γ KK=some (Om r m)) (hy:Od Γ y (Va k)) (hu:Od Γ u (Va v)) (hT:Yo P T=some (K,E))
  (cont:∀ w',St M0 w0 n ((KK,Om r (Gj eqb m k v)) :: Γ) a w'->wpListIn (Fr rr) 0 P ops Q rest a w'):wpListIn (Fr rr) 0 P ops Q (⟨none,.mapUpdate T x y u,ty,pos,ag,none⟩ :: rest) a w:=by
 refine wpListIn_plain rfl λKc hK=>?_;let ⟨M,φ,h⟩:=hs;let ⟨_,_,hv⟩:=hx _ _ _ h.rd;let ⟨_,hb⟩:=hy _ _ _ h.rd;let ⟨_,hd⟩:=hu _ _ _ h.rd;let ⟨hF,es,cl,hc,hm⟩:=h.holds KK _ hk;have hf:=hmk.find k (m.map λp=>(p.1,FV.val p.2)) es.toList w (by rw [hm];simp);rw [Hx] at hf;have hchk:=hmk.check k false w;have hg:(getObj r).run P w=.ok (.map es cl) w:=MapKept.run_getObj_map hc;have hlt:=(KS.1 hc).1;have hset:=λo=>MapKept.run_setObj_map (P:=P) (w:=w) o hc;have hput:∃ es' cl',(Instr.mapUpdate T (.map (some r)) (FV.val k) (FV.val v)).run P w=.ok () { w with heap:=w.heap.setIfInBounds r (.map es' cl') }/\es'.toList.map (λe=>(e.key,e.val))=(Gj eqb m k v).map (λp=>(FV.val p.1,FV.val p.2)):=by
  simp only [Instr.mapUpdate,KJ,run_underlying (Hy hT),KE,hg,hchk,hf];unfold Gj;cases hq:Cu eqb k m 0 with
  | none=>
   refine ⟨es.push { key:=FV.val k,val:=FV.val v,born:=cl },cl + 1,?_,?_⟩
   ·simp only [NG];exact hset _
   ·simp [hm]
  | some q=>
   let ⟨i,y⟩:=q;let ⟨k',_,h2,h3⟩:=Kk hq;have hkk:=hmk.stays k k' h3;subst hkk;rw [Nat.sub_zero] at h2;have hi:(es.toList.map (λe=>(e.key,e.val)))[i]?=some (FV.val k',FV.val y):=by rw [hm,KZ,h2];rfl
   rw [KZ] at hi;let ⟨e,he,hee⟩:=N4.1 hi;have hek:e.key=FV.val k':=congrArg Prod.fst hee;have hei:es[i]?=some e:=by rw [← MV];exact he
   refine ⟨es.modify i λe=>{ e with key:=FV.val k',val:=FV.val v },cl,?_,?_⟩
   ·simp only [Option.map_some,hei,MO,hek,Instr.keyThatStays,hmk.same,if_true,KQ,KJ,KE];exact hset _
   ·rw [Array.toList_modify];refine M7 λq=>?_;have hmq:(es.toList[q]?).map (λe=>(e.key,e.val))=(m[q]?).map λp=>(FV.val p.1,FV.val p.2):=by rw [← KZ,hm,KZ]
    simp only [KZ,List.getElem?_modify];by_cases hiq:i=q
    ·subst hiq;rw [he,h2];simp
    ·simp only [hiq,if_false];rw [show (λa:MapEntry=>a) <$> es.toList[q]?=es.toList[q]? by simp,show (λa:κ×ν=>a) <$> m[q]?=m[q]? by simp];exact hmq
 let ⟨es',cl',hrun,hm'⟩:=hput;refine Bk.upon (Bk.skip (w':={ w with heap:=w.heap.setIfInBounds r (.map es' cl') }) ?_ ?_)
 ·simp only [execOp,hv,Va.fv hb,Va.fv hd,KJ,hrun,KE,KQ]
 ·refine hK _ _ (cont _ ?_);unfold St;rw [Ak];refine h.write (b:=r) (by rw [hk];rfl) (by rw [hF];simp) ⟨rfl,rfl,rfl,by simp,λq _ hq=>?_,K9 _⟩ ⟨hF,es',cl',(?_:({ w with heap:=w.heap.setIfInBounds r (.map es' cl') }:World).heap[r]?=_),hm'⟩
  ·simp only [ND];rw [if_neg (λe=>hq e.symm)]
  ·simp only [ND,if_true];rw [if_pos hlt]
theorem kK {κ ν:Type} [Rep κ] [Rep ν] [FV κ] [FV ν] {ops:Array Oper} {rest:List Oper} {T K E KK:Nat} {eqb:κ->κ->Bool} [hmk:MK P K κ eqb] {x y u:Operand} {pos:String} {ag:Array Edge} {r:Nat} {m:List (κ×ν)} {k:κ} {v:ν}
  (hs:St M0 w0 n Γ a w) (hx:Od Γ x (Qv (.map (some r)))) (hk:Ao Γ KK=some (Om r m)) (hy:Od Γ y (Va k)) (hu:Od Γ u (Va v)) (hT:Yo P T=some (K,E))
  (cont:∀ w',St M0 w0 n ((KK,Om r (Gj eqb m k v)) :: Γ) a w'->wpListIn (Fr rr) 0 P ops Q rest a w'):wpListIn (Fr rr) 0 P ops Q (⟨none,.insert T x y u,ty,pos,ag,none⟩ :: rest) a w:=by
 refine wpListIn_plain rfl λKc hK=>?_;let ⟨M,φ,h⟩:=hs;let ⟨_,_,hv⟩:=hx _ _ _ h.rd;let ⟨_,hb⟩:=hy _ _ _ h.rd;let ⟨_,hd⟩:=hu _ _ _ h.rd;let ⟨hF,es,cl,hc,hm⟩:=h.holds KK _ hk;have hf:=hmk.find k (m.map λp=>(p.1,FV.val p.2)) es.toList w (by rw [hm];simp);rw [Hx] at hf;have hchk:=hmk.check k false w;have hg:(getObj r).run P w=.ok (.map es cl) w:=MapKept.run_getObj_map hc;have hlt:=(KS.1 hc).1;have hset:=λo=>MapKept.run_setObj_map (P:=P) (w:=w) o hc;have hput:∃ es' cl',(Instr.mapUpdate T (.map (some r)) (FV.val k) (FV.val v)).run P w=.ok () { w with heap:=w.heap.setIfInBounds r (.map es' cl') }/\es'.toList.map (λe=>(e.key,e.val))=(Gj eqb m k v).map (λp=>(FV.val p.1,FV.val p.2)):=by
  simp only [Instr.mapUpdate,KJ,run_underlying (Hy hT),KE,hg,hchk,hf];unfold Gj;cases hq:Cu eqb k m 0 with
  | none=>
   refine ⟨es.push { key:=FV.val k,val:=FV.val v,born:=cl },cl + 1,?_,?_⟩
   ·simp only [NG];exact hset _
   ·simp [hm]
  | some q=>
   let ⟨i,y⟩:=q;let ⟨k',_,h2,h3⟩:=Kk hq;have hkk:=hmk.stays k k' h3;subst hkk;rw [Nat.sub_zero] at h2;have hi:(es.toList.map (λe=>(e.key,e.val)))[i]?=some (FV.val k',FV.val y):=by rw [hm,KZ,h2];rfl
   rw [KZ] at hi;let ⟨e,he,hee⟩:=N4.1 hi;have hek:e.key=FV.val k':=congrArg Prod.fst hee;have hei:es[i]?=some e:=by rw [← MV];exact he
   refine ⟨es.modify i λe=>{ e with key:=FV.val k',val:=FV.val v },cl,?_,?_⟩
   ·simp only [Option.map_some,hei,MO,hek,Instr.keyThatStays,hmk.same,if_true,KQ,KJ,KE];exact hset _
   ·rw [Array.toList_modify];refine M7 λq=>?_;have hmq:(es.toList[q]?).map (λe=>(e.key,e.val))=(m[q]?).map λp=>(FV.val p.1,FV.val p.2):=by rw [← KZ,hm,KZ]
    simp only [KZ,List.getElem?_modify];by_cases hiq:i=q
    ·subst hiq;rw [he,h2];simp
    ·simp only [hiq,if_false];rw [show (λa:MapEntry=>a) <$> es.toList[q]?=es.toList[q]? by simp,show (λa:κ×ν=>a) <$> m[q]?=m[q]? by simp];exact hmq
 let ⟨es',cl',hrun,hm'⟩:=hput;refine Bk.upon (Bk.skip (w':={ w with heap:=w.heap.setIfInBounds r (.map es' cl') }) ?_ ?_)
 ·simp only [execOp,hv,Va.fv hb,Va.fv hd,KJ,hrun,KE,KQ]
 ·refine hK _ _ (cont _ ?_);unfold St;rw [Ak];refine h.write (b:=r) (by rw [hk];rfl) (by rw [hF];simp) ⟨rfl,rfl,rfl,by simp,λq _ hq=>?_,K9 _⟩ ⟨hF,es',cl',(?_:({ w with heap:=w.heap.setIfInBounds r (.map es' cl') }:World).heap[r]?=_),hm'⟩
  ·simp only [ND];rw [if_neg (λe=>hq e.symm)]
  ·simp only [ND,if_true];rw [if_pos hlt]
end
end
section
def B5:Value->Bool
 | .slice none _ _=>true
 | _=>false
section
variable {P:Program} {Γ:Cx} {ty:TypeId}
theorem sae {x:Operand} {e:Ent} [z:Zf e] (h:Od Γ x e):OR P (.assign x) ty Γ e:=
 OR.val λρ M w r=>let ⟨F,hF⟩:=h ρ M w r;⟨ρ x,λ_ _ _ _=>rfl,by have h1:=z.z hF;subst h1;exact hF⟩
instance {c:Value} {o:Nat}:Zf (Pe c o):=⟨λh=>h.1⟩
theorem pN {x:Operand} {c:Value} {o:Nat} (h:Od Γ x (Pe c o)):OR P (.nilCheck x) ty Γ (Pe c o):=
 OR.val λρ M w r=>by
  let ⟨_,_,g,hg,hv⟩:=h ρ M w r;exact ⟨ρ x,λ_ _ _ _=>by simp [execOp,hv,Sem.run,pure],rfl,g,hg,hv⟩
end
section
variable {P:Program} {M0:Fm} {w0:World} {n:Nat} {Γ:Cx} {a:Act} {w:World} {ty:TypeId}
theorem qd {α:Type} [Rep α] {T e T':TypeId} {x y:Operand} {c:Value} {K:Nat} {xs:List α} (hx:Od Γ x (Qv c)) (hy:Od Γ y (Qv (.slice none 0 0))) (hk:Ao Γ K=some (At c (Va xs))) (hT:P.underlying T=some (.slice e)):OR P (.binOp .eql T x y T') ty Γ (Va (B5 c)):=by (refine OR.val λρ M w r=>?_;let ⟨_,_,h1⟩:=hx ρ M w r;let ⟨_,_,h2⟩:=hy ρ M w r;let ⟨F,h3⟩:=r.tmp _ _ hk;obtain ⟨_,cs,hc,v,rfl,p,cap,hv,_⟩:=h3;have hc:c=.slice p xs.length (cap + xs.length):=(show c=v from hc).trans hv;subst hc;refine ⟨.bool (B5 (.slice p xs.length (cap + xs.length))),λ_ _ _ _=>?_,Va.mkBool⟩;have h3:(binOp .eql T (.slice p xs.length (cap + xs.length)) (.slice none 0 0)).run P w=.ok (.bool (B5 (.slice p xs.length (cap + xs.length)))) w:=by (show ((do pure (.bool (← Op.equal T (.slice p xs.length (cap + xs.length)) (.slice none 0 0))):Sem Value)).run P w=_;have:(Op.equal T (.slice p xs.length (cap + xs.length)) (.slice none 0 0)).run P w=.ok (B5 (.slice p xs.length (cap + xs.length))) w:=by unfold Op.equal Op.maxDepth Op.equalIn;simp only [KJ,run_underlying hT,KE];cases p <;> simp [B5]);simp only [KJ,this,KE,KQ]);have h4:(eqGuard .eql T x y (.slice p xs.length (cap + xs.length)) (.slice none 0 0)).run P w=.ok () w:=rfl;simp only [execOp,h1,h2,KJ,h3,h4,KE,KQ]
theorem jo {α:Type} [Rep α] {c:Value} {K:Nat} {xs:List α} (hs:St M0 w0 n Γ a w) (hk:Ao Γ K=some (At c (Va xs))) (hb:B5 c=true):xs=[]:=by (let ⟨M,φ,h⟩:=hs;let ⟨F,h3⟩:=h.rd.tmp _ _ hk;obtain ⟨_,cs,hc,v,rfl,p,cap,hv,hr⟩:=h3;have hc:c=v:=hc;rcases hr with h | ⟨b,o,hp,_⟩);exact h;rw [hc,hv,hp] at hb;cases hb
end
end
def kR (j a b c:Nat):Nat:=if j=0 then a else if j=1 then b else c
theorem kP {ρ:Type} {j:Nat} {x y z:Option ρ} {r:ρ} (h:(bif j == 0 then x else bif j == 1 then y else bif j == 2 then z else none)=some r):j < 3:=by
 match j,h with
 | 0,_=>omega
 | 1,_=>omega
 | 2,_=>omega
 | (n+3),h=>simp at h
theorem J0 {ρ:Type} {j a b c:Nat} {x y z:Option ρ} {r:ρ} {Q:Nat->Prop} (h:(bif j == 0 then x else bif j == 1 then y else bif j == 2 then z else none)=some r) (h0:x=some r->Q a) (h1:y=some r->Q b) (h2:z=some r->Q c):Q (kR j a b c):=by
 match j,h with
 | 0,h=>exact h0 h
 | 1,h=>exact h1 h
 | 2,h=>exact h2 h
 | (n+3),h=>simp at h
theorem hJ {Γ:Cx} {x:Operand} {j a b c:Nat} {fs cs:P2} (hj:j < 3) (h:Od Γ x (Qv (Kh j [fv a fs cs,fv b fs cs,fv c fs cs]))):Od Γ x (Qv (fv (kR j a b c) fs cs)):=by
 match j,hj,h with
 | 0,_,h=>exact h
 | 1,_,h=>exact h
 | 2,_,h=>exact h
section
def kD {α:Type} [Rep α] (f:Nat) (y:α):Ent where
 p F M w v:=F=[]/\∃ c,v=fv f [] [c]/\(Pt y).p [] M w c
 st h e:=⟨h.1,let ⟨c,h1,h2⟩:=h.2;⟨c,h1,(Pt y).st h2 (e.mono λk _ hk=>by let ⟨h3,h4⟩:=hk;exact ⟨h3,by simp⟩)⟩⟩
 sb h s:=⟨h.1,let ⟨c,h1,h2⟩:=h.2;⟨c,h1,(Pt y).sb h2 s⟩⟩
instance {α:Type} [Rep α] {f:Nat} {y:α}:Zf (kD f y):=⟨λh=>h.1⟩
section
variable {P:Program} {Γ:Cx} {ty:TypeId}
theorem fvi {α:Type} [Rep α] {x:Operand} {f k:Nat} {c:Value} {y:α} (h:Od Γ x (Qv (fv f [] [c]))) (hk:Ao Γ k=some (At c (Pt y))):Od Γ x (kD f y):=λρ M w r=>by
 let ⟨_,_,hv⟩:=h ρ M w r;let ⟨F,hp⟩:=r.tmp _ _ hk;exact ⟨[],rfl,c,hv,hp.1 ▸ hp⟩
theorem ccf {α:Type} [Rep α] {y:α} {x:Operand} {f:FuncId} {A:Array TypeId} {args:Array Operand} {xs:List Operand} {ps:List Ent} {e:Ent} (hx:Od Γ x (kD f y)) (ha:args.toList=xs) (h:Odl Γ xs ps)
  (c:Sp P f (ps ++ [Pt y]) e):OR P (.call { callee:=.value x,args:=args,argTypes:=A }) ty Γ e:=by intro d pos ag gd ρ M w rd;subst ha;let ⟨_,_,cc,hv,hp⟩:=hx ρ M w rd;have hc:=c _ M w rd.bd ((h.fits rd).app (show Ui M w [Pt y] [cc] from ⟨hp,trivial⟩));unfold Bk;rw [Rh hv hc.1];exact hc.2
end
end
section
section
variable {P:Program} {Γ:Cx} {ty:TypeId} {e1 e2 e3 e4:Ent} {x:Operand}
end
end
section
variable {rr:Option Nat}
section
variable {P:Program} {M0:Fm} {w0:World} {n:Nat} {Γ:Cx} {Q:Exit->Act->World->Prop} {a:Act} {w:World} {ty:TypeId}
theorem qS {T e:Nat} {x i:Operand} {b:Nat} {m:Int} {j:Nat} (h:Od Γ x (Qv (pb b 0))) (hi:Od Γ i (Va m)) (hA:P.underlying T=some (.array 6 e)) (he:(P.info? e).map (·.size)=some 1) (hy:idx (List.range 6) m=some j):OR P (.indexAddr T x i) ty Γ (Qv (pb b j)):=by have:=jG (ty:=ty) h hi hA he hy;rwa [MJ] at this
theorem qr {ops:Array Oper} {rest:List Oper} {T K:Nat} {x y:Operand} {ty:TypeId} {pos:String} {ag:Array Edge} [Ty P T Bool] {b j:Nat} {z:Ar6} {v:Bool}
  (hs:St M0 w0 n Γ a w) (hx:Od Γ x (Qv (pb b j))) (hp:Ao Γ K=some (Mg b z)) (hy:Od Γ y (Va v)) (hj:j < 6)
  (k:∀ w',St M0 w0 n ((K,Mg b (z.put j v)) :: Γ) a w'->wpListIn (Fr rr) 0 P ops Q rest a w'):wpListIn (Fr rr) 0 P ops Q (⟨none,.store T x y,ty,pos,ag,none⟩ :: rest) a w:=
 sf (u:=λ(x:Ar6) (v:Bool)=>x.put j v) (hu:=Ar6.du hj) hs hx hp hy k
theorem J7 {cs:P2} {y:Ar6} {j:Nat} (h:cs=y.l.map Value.bool/\y.l.length=6) (hj:j < 6):cs[j]?=some (.bool (y.at_ j)):=by
 have hlt:j < y.l.length:=by omega
 rw [h.1,KZ];unfold Ar6.at_;rw [KM,L9 hlt];rfl
theorem iap {T e:Nat} {x i:Operand} {m:Int} {j:Nat} {y:Ar6} (h:Od Γ x (Pt y)) (hi:Od Γ i (Va m)) (hA:P.underlying T=some (.array 6 e)) (he:(P.info? e).map (·.size)=some 1) (hy:idx (List.range 6) m=some j):OR P (.indexAddr T x i) ty Γ (Pt (y.at_ j)):=by
 refine OR.val λρ M w r=>?_;let ⟨_,_,b,o,hv,hp⟩:=h ρ M w r;let ⟨_,h2⟩:=hi ρ M w r;let ⟨h0,hlt,hg⟩:=Au hy;have hlt:m < 6:=by simpa using hlt
 have hj:m.toNat=j:=by
  rw [K6 aa] at hg;exact Option.some.inj hg
 have hr:(sizeOf e).run P w=.ok 1 w:=by
  cases hie:P.info? e with
  | none=>simp [hie] at he
  | some i=>simp [hie] at he;simp [sizeOf,typeInfo,hie,he]
 refine ⟨.pointer (some ⟨b,o + j,none⟩),λ_ _ _ _=>?_,rfl,b,o + j,rfl,(Ar6.df aa).pl hp⟩;simp only [execOp,hv,Va.int h2,Instr.indexAt,KJ,asIntOf,KQ,KE,run_underlying hA];simp [h0,hlt,Instr.sureAddr,hr,hj,Bo]
theorem bl6 {T e:Nat} (hT:P.underlying T=some (.array 6 e)) (hz:(P.info? T).map (·.zero)=some (some (.agg ((List.replicate 6 (Value.bool false)).toArray)))) (he:(P.info? e).map (·.size)=some 1):OR P (.build T #[]) ty Γ (Va Ar6.z):=by
 refine OR.val λρ M w r=>?_;refine ⟨.agg ((List.replicate 6 (Value.bool false)).toArray),λ_ _ _ _=>?_,rfl,_,rfl,rfl,rfl⟩;cases hi:P.info? T with
 | none=>simp [hi] at hz
 | some i=>
  cases hie:P.info? e with
  | none=>simp [hie] at he
  | some i'=>
   simp only [hi,Option.map_some,Option.some.injEq] at hz;simp only [hie,Option.map_some,Option.some.injEq] at he;simp [execOp,Instr.build,zeroValue,typeInfo,KJ,run_program,hi,hz,run_underlying hT,sizeOf,hie,he,Value.cells,Instr.fill]
theorem Xs {e:Nat} (hu:P.underlying e=some .bool) (hc:P.cellsOf e=1) {x y:Ar6} {cs ds:P2} (hx:cs=x.l.map Value.bool/\x.l.length=6) (hy:ds=y.l.map Value.bool/\y.l.length=6) (w:World):∀ (is:P1),(∀ j∈is,j < 6) ->
  (Op.eqItems 9999 e 1 cs.toArray ds.toArray is).run P w=.ok (is.all λj=>x.at_ j == y.at_ j) w
 | [],_=>rfl
 | j :: is,h=>by
  have ha:(P.underlying e).map Br=some false:=by rw [hu];rfl
  have hj:=h j (LO ..);have h1:=Bh (P:=P) (T:=e) (xs:=cs.toArray) (o:=j * 1) (v:=.bool (x.at_ j)) (w:=w) ha (by rw [List.getElem?_toArray,M5];exact J7 hx hj);have h2:=Bh (P:=P) (T:=e) (xs:=ds.toArray) (o:=j * 1) (v:=.bool (y.at_ j)) (w:=w) ha (by rw [List.getElem?_toArray,M5];exact J7 hy hj);have h3:=run_equalIn_bool' (P:=P) w 9998 e (x.at_ j) (y.at_ j) hu;have h4:=Xs hu hc hx hy w is λj hj=>h j (LK _ hj);simp only [Op.eqItems,KJ,h1,h2,h3,KE,N7];cases (x.at_ j == y.at_ j)
  ·rfl
  ·simp [h4]
theorem qb {T e:Nat} (hT:P.underlying T=some (.array 6 e)) (hu:P.underlying e=some .bool) (hc:P.cellsOf e=1/\(P.info? e).isSome=true) (hg:P.eqGuardType P.depth T=false):iH P T eqqA:=⟨λ{M M' w w' cs ds x y} hx hy w1=>by
 cases hi:P.info? e with
 | none=>rw [hi] at hc;cases hc.2
 | some i=>
  rw [run_equalIn_array (w:=w1) 9999 cs.toArray ds.toArray hT hi,hc.1];exact Xs hu hc.1 hx hy w1 (List.range 6) λj hj=>KX.1 hj,rfl,hg⟩
end
end
section
open Go.Proofs
instance:Ea Tryz.prog 28 9 P3:=⟨ae,ae,ae⟩
instance:Ea Tryz.prog 29 113 (Ae):=⟨ae,ae,ae⟩
instance:Ea Tryz.prog 30 3 (Int):=⟨ae,ae,ae⟩
instance:Ea Tryz.prog 37 4 (Bool):=⟨ae,ae,ae⟩
instance:Ea Tryz.prog 59 69 (Ab):=⟨ae,ae,ae⟩
instance:Ea Tryz.prog 87 86 (Af):=⟨ae,ae,ae⟩
instance:Ea Tryz.prog 108 110 (Expr):=⟨ae,ae,ae⟩
instance:Ea Tryz.prog 117 58 (Ad):=⟨ae,ae,ae⟩
instance:Ea Tryz.prog 118 30 PZ:=⟨ae,ae,ae⟩
instance:Ea Tryz.prog 186 59 (List Ab):=⟨ae,ae,ae⟩
instance:Ea Tryz.prog 199 277 (Node):=⟨ae,ae,ae⟩
instance:Ea Tryz.prog 331 37 P0:=⟨ae,ae,ae⟩
instance:FV Ab where
 val x:=.agg #[.int .i64 x.Actuator,.bool x.Out]
 of {M w cs x} h:=by
  obtain ⟨c0,d0,rfl,h0,h1⟩:=h;have e0:c0=[.int .i64 x.Actuator]:=h0;have e1:d0=[.bool x.Out]:=h1;subst e0 e1;rfl
 to x:=⟨[.int .i64 x.Actuator,.bool x.Out],rfl,λ_ _=>⟨[.int .i64 x.Actuator],_,rfl,rfl,rfl⟩⟩
def Ju (x y:Ab):Bool:=(x.Actuator == y.Actuator) && ((x.Out == y.Out) && (true))
instance:iH Tryz.prog 69 Ju:=⟨by
 rintro M M' w w' cs ds x y ⟨c0,d0,rfl,h0,h1⟩ ⟨p0,q0,rfl,g0,g1⟩ w1;have e0:c0=[.int .i64 x.Actuator]:=h0;have k0:p0=[.int .i64 y.Actuator]:=g0;have e1:d0=[.bool x.Out]:=h1;have k1:q0=[.bool y.Out]:=g1;subst e0 k0 e1 k1;rw [run_equalIn_agg w1 9999 69 _ _ ae ae];have hf:(Tryz.prog.fieldsOf 69).toList.map Xq=[(false,3,0),(false,4,1)]:=by kernel_rfl
 let ⟨f0,l,hl,n0,t0,o0,hf⟩:=dx hf;rw [hl];obtain ⟨f1,l,rfl,n1,t1,o1,hf⟩:=dx hf;obtain rfl:=gj hf;exact (qe n0 (by rw [t0];kernel_rfl) (by rw [o0];rfl) (by rw [o0];rfl) (qg n1 (by rw [t1];kernel_rfl) (by rw [o1];rfl) (by rw [o1];rfl) lN)),rfl,ae⟩
instance:MK Tryz.prog 69 Ab Ju:=MK.ofEqs ae (λk b w=>by
 refine Cj (fs:=Tryz.prog.fieldsOf 69) (n:=9999) ae ?_;have hf:(Tryz.prog.fieldsOf 69).toList.map Xq=[(false,3,0),(false,4,1)]:=by kernel_rfl
 let ⟨f0,l,hl,n0,t0,o0,hf⟩:=dx hf;rw [hl];obtain ⟨f1,l,rfl,n1,t1,o1,hf⟩:=dx hf;obtain rfl:=gj hf;intro f hm;simp only [K8,List.not_mem_nil,or_false] at hm;rcases hm with rfl | rfl
 ·exact j0 (d:=.int .i64) (v:=.int .i64 k.Actuator) (by rw [t0];kernel_rfl) (by rw [o0];rfl) rfl
 ·exact j0 (d:=.bool) (v:=.bool k.Out) (by rw [t1];kernel_rfl) (by rw [o1];rfl) True.intro
 ) (λk k' h=>by
 simp only [Ju,KU,beq_iff_eq,Rm,MapKept.bytes_beq,and_true] at h;let ⟨e0,e1⟩:=h;cases k;cases k';simp_all) (λk=>by simp only [FV.val];unfold Instr.sameBits;simp [Mh,Hr,Mf])
instance:FV Key where
 val x:=.agg #[.string x.ends,.string x.valves,.string x.inputs,.string x.values,.string x.timers]
 of {M w cs x} h:=by
  obtain ⟨c0,d0,rfl,h0,c1,d1,rfl,h1,c2,d2,rfl,h2,c3,d3,rfl,h3,h4⟩:=h;have e0:c0=[.string x.ends]:=h0;have e1:c1=[.string x.valves]:=h1;have e2:c2=[.string x.inputs]:=h2;have e3:c3=[.string x.values]:=h3;have e4:d3=[.string x.timers]:=h4;subst e0 e1 e2 e3 e4;rfl
 to x:=⟨[.string x.ends,.string x.valves,.string x.inputs,.string x.values,.string x.timers],rfl,λ_ _=>⟨[.string x.ends],_,rfl,rfl,[.string x.valves],_,rfl,rfl,[.string x.inputs],_,rfl,rfl,[.string x.values],_,rfl,rfl,rfl⟩⟩
def Bt (x y:Key):Bool:=(x.ends.data.toList == y.ends.data.toList) && ((x.valves.data.toList == y.valves.data.toList) && ((x.inputs.data.toList == y.inputs.data.toList) && ((x.values.data.toList == y.values.data.toList) && ((x.timers.data.toList == y.timers.data.toList) && (true)))))
instance:iH Tryz.prog 296 Bt:=⟨by
 rintro M M' w w' cs ds x y ⟨c0,d0,rfl,h0,c1,d1,rfl,h1,c2,d2,rfl,h2,c3,d3,rfl,h3,h4⟩ ⟨p0,q0,rfl,g0,p1,q1,rfl,g1,p2,q2,rfl,g2,p3,q3,rfl,g3,g4⟩ w1;have e0:c0=[.string x.ends]:=h0;have k0:p0=[.string y.ends]:=g0;have e1:c1=[.string x.valves]:=h1;have k1:p1=[.string y.valves]:=g1;have e2:c2=[.string x.inputs]:=h2;have k2:p2=[.string y.inputs]:=g2;have e3:c3=[.string x.values]:=h3;have k3:p3=[.string y.values]:=g3;have e4:d3=[.string x.timers]:=h4;have k4:q3=[.string y.timers]:=g4;subst e0 k0 e1 k1 e2 k2 e3 k3 e4 k4;rw [run_equalIn_agg w1 9999 296 _ _ ae ae];have hf:(Tryz.prog.fieldsOf 296).toList.map Xq=[(false,9,0),(false,9,1),(false,9,2),(false,9,3),(false,9,4)]:=by kernel_rfl
 let ⟨f0,l,hl,n0,t0,o0,hf⟩:=dx hf;rw [hl];obtain ⟨f1,l,rfl,n1,t1,o1,hf⟩:=dx hf;obtain ⟨f2,l,rfl,n2,t2,o2,hf⟩:=dx hf;obtain ⟨f3,l,rfl,n3,t3,o3,hf⟩:=dx hf;obtain ⟨f4,l,rfl,n4,t4,o4,hf⟩:=dx hf;obtain rfl:=gj hf;exact (eD n0 (by rw [t0];kernel_rfl) (by rw [o0];rfl) (by rw [o0];rfl) (eD n1 (by rw [t1];kernel_rfl) (by rw [o1];rfl) (by rw [o1];rfl) (eD n2 (by rw [t2];kernel_rfl) (by rw [o2];rfl) (by rw [o2];rfl) (eD n3 (by rw [t3];kernel_rfl) (by rw [o3];rfl) (by rw [o3];rfl) (eD n4 (by rw [t4];kernel_rfl) (by rw [o4];rfl) (by rw [o4];rfl) lN))))),rfl,ae⟩
instance:MK Tryz.prog 296 Key Bt:=MK.ofEqs ae (λk b w=>by
 refine Cj (fs:=Tryz.prog.fieldsOf 296) (n:=9999) ae ?_;have hf:(Tryz.prog.fieldsOf 296).toList.map Xq=[(false,9,0),(false,9,1),(false,9,2),(false,9,3),(false,9,4)]:=by kernel_rfl
 let ⟨f0,l,hl,n0,t0,o0,hf⟩:=dx hf;rw [hl];obtain ⟨f1,l,rfl,n1,t1,o1,hf⟩:=dx hf;obtain ⟨f2,l,rfl,n2,t2,o2,hf⟩:=dx hf;obtain ⟨f3,l,rfl,n3,t3,o3,hf⟩:=dx hf;obtain ⟨f4,l,rfl,n4,t4,o4,hf⟩:=dx hf;obtain rfl:=gj hf;intro f hm;simp only [K8,List.not_mem_nil,or_false] at hm;rcases hm with rfl | rfl | rfl | rfl | rfl
 ·exact j0 (d:=.string) (v:=.string k.ends) (by rw [t0];kernel_rfl) (by rw [o0];rfl) True.intro
 ·exact j0 (d:=.string) (v:=.string k.valves) (by rw [t1];kernel_rfl) (by rw [o1];rfl) True.intro
 ·exact j0 (d:=.string) (v:=.string k.inputs) (by rw [t2];kernel_rfl) (by rw [o2];rfl) True.intro
 ·exact j0 (d:=.string) (v:=.string k.values) (by rw [t3];kernel_rfl) (by rw [o3];rfl) True.intro
 ·exact j0 (d:=.string) (v:=.string k.timers) (by rw [t4];kernel_rfl) (by rw [o4];rfl) True.intro
 ) (λk k' h=>by
 simp only [Bt,KU,beq_iff_eq,Rm,MapKept.bytes_beq,and_true] at h;let ⟨e0,e1,e2,e3,e4⟩:=h;cases k;cases k';simp_all) (λk=>by simp only [FV.val];unfold Instr.sameBits;simp [Mh,Hr,Mf])
instance:iH Tryz.prog 164 eqqA:=qb (e:=4) ae ae ⟨ae,ae⟩ ae
instance:MK Tryz.prog 9 P3 Ka:=MK.str ae
end
section
open Go.Proofs
instance:Ty Tryz.prog 174 (Kd .u64):=⟨ae,ae⟩
theorem C3 {Γ:Cx} {y0:Int} {y1:List Step} (l:P2×P2) (h0:Rp Γ (l.1) y0) (h1:Rp Γ (l.2) y1):Rp Γ (l.1 ++ l.2) (⟨y0,y1⟩:Ai):=(cy h0 h1)
theorem Nq {Γ:Cx} {y0:Int} {y1:List P3} {y2:List Ae} {y3 y4:PZ} (l:P2×P2×P2×P2×P2) (h0:Rp Γ (l.1) y0) (h1:Rp Γ (l.2.1) y1) (h2:Rp Γ (l.2.2.1) y2) (h3:Rp Γ (l.2.2.2.1) y3) (h4:Rp Γ (l.2.2.2.2) y4):Rp Γ (l.1 ++ (l.2.1 ++ (l.2.2.1 ++ (l.2.2.2.1 ++ l.2.2.2.2)))) (⟨y0,y1,y2,y3,y4⟩:Aa):=(cy h0 (cy h1 (cy h2 (cy h3 h4))))
theorem hH {Γ:Cx} {y0 y1:PZ} (l:P2×P2) (h0:Rp Γ (l.1) y0) (h1:Rp Γ (l.2) y1):Rp Γ (l.1 ++ l.2) (⟨y0,y1⟩:Accident):=(cy h0 h1)
theorem Cf {Γ:Cx} {y0:PZ} {y1 y2 y3:P0} {y4:PZ} (l:P2×P2×P2×P2×P2) (h0:Rp Γ (l.1) y0) (h1:Rp Γ (l.2.1) y1) (h2:Rp Γ (l.2.2.1) y2) (h3:Rp Γ (l.2.2.2.1) y3) (h4:Rp Γ (l.2.2.2.2) y4):Rp Γ (l.1 ++ (l.2.1 ++ (l.2.2.1 ++ (l.2.2.2.1 ++ l.2.2.2.2)))) (⟨y0,y1,y2,y3,y4⟩:Ad):=(cy h0 (cy h1 (cy h2 (cy h3 h4))))
theorem ja {Γ:Cx} {y0:List Ad} {y1:List PZ} (l:P2×P2) (h0:Rp Γ (l.1) y0) (h1:Rp Γ (l.2) y1):Rp Γ (l.1 ++ l.2) (⟨y0,y1⟩:Ah):=(cy h0 h1)
theorem Vw {Γ:Cx} {y0:Ai} {y1 y2 y3 y4:PZ} {y5:Aa} (l:P2×P2×P2×P2×P2×P2) (h0:Rp Γ (l.1) y0) (h1:Rp Γ (l.2.1) y1) (h2:Rp Γ (l.2.2.1) y2) (h3:Rp Γ (l.2.2.2.1) y3) (h4:Rp Γ (l.2.2.2.2.1) y4) (h5:Rp Γ (l.2.2.2.2.2) y5):Rp Γ (l.1 ++ (l.2.1 ++ (l.2.2.1 ++ (l.2.2.2.1 ++ (l.2.2.2.2.1 ++ l.2.2.2.2.2))))) (⟨y0,y1,y2,y3,y4,y5⟩:Builder):=(cy h0 (cy h1 (cy h2 (cy h3 (cy h4 h5)))))
theorem i9 {Γ:Cx} {y0:Ad} {y1:List (List Ab)} {y2:PZ} (l:P2×P2×P2) (h0:Rp Γ (l.1) y0) (h1:Rp Γ (l.2.1) y1) (h2:Rp Γ (l.2.2) y2):Rp Γ (l.1 ++ (l.2.1 ++ l.2.2)) (⟨y0,y1,y2⟩:Course):=(cy h0 (cy h1 h2))
theorem lc {M0:Fm} {w0:World} {n d:Nat} {Γ:Cx} {a:Act} {w:World} {x:Ai} {R:Prop} (k0:Nat) (h:St M0 w0 n Γ a w) (hd:Ao Γ d=some (Va x)) (hdis:aW [d,k0]=true) (r:∀ c0,St M0 w0 n ((d,Qa [.int .i64 x.Actuators,c0]) :: (k0,At c0 (Va (x.Steps))) :: Γ) a w->R):R:=by let ⟨M,φ,h⟩:=h;let ⟨hF,cs,hv,hr⟩:=h.holds d _ hd;have h1:=Rep.one hr;obtain ⟨_,_,rfl,rfl,⟨c0,rfl,s0⟩⟩:=hr;refine r c0 ?_;have g0:=StM.more1 h k0 (e:=At c0 (Va (x.Steps))) (λ_=>Va.mkList s0);exact St.turnT g0 (by let ⟨e0,hdis⟩:=Bl hdis;simp only [Ak,put];simp only [if_neg e0,if_false];exact hd) ⟨rfl,hv,h1⟩
theorem d8 {M0:Fm} {w0:World} {n d:Nat} {Γ:Cx} {a:Act} {w:World} {x:Aa} {R:Prop} (k0 k1 k2 k3:Nat) (h:St M0 w0 n Γ a w) (hd:Ao Γ d=some (Va x)) (hdis:aW [d,k0,k1,k2,k3]=true) (r:∀ c0 c1 c2 c3,St M0 w0 n ((d,Qa [.int .i64 x.Actuators,c0,c1,c2,c3]) :: (k0,At c0 (Va (x.Inputs))) :: (k1,At c1 (Va (x.Signals))) :: (k2,At c2 (Va (x.Plus))) :: (k3,At c3 (Va (x.Minus))) :: Γ) a w->R):R:=by let ⟨M,φ,h⟩:=h;let ⟨hF,cs,hv,hr⟩:=h.holds d _ hd;have h1:=Rep.one hr;obtain ⟨_,_,rfl,rfl,⟨_,_,rfl,⟨c0,rfl,s0⟩,⟨_,_,rfl,⟨c1,rfl,s1⟩,⟨_,_,rfl,⟨c2,rfl,s2⟩,⟨c3,rfl,s3⟩⟩⟩⟩⟩:=hr;refine r c0 c1 c2 c3 ?_;have g3:=StM.more1 h k3 (e:=At c3 (Va (x.Minus))) (λ_=>Va.mkList s3);have g2:=StM.more1 g3 k2 (e:=At c2 (Va (x.Plus))) (λ_=>Va.mkList s2);have g1:=StM.more1 g2 k1 (e:=At c1 (Va (x.Signals))) (λ_=>Va.mkList s1);have g0:=StM.more1 g1 k0 (e:=At c0 (Va (x.Inputs))) (λ_=>Va.mkList s0);exact St.turnT g0 (by let ⟨e0,hdis⟩:=Bl hdis;let ⟨e1,hdis⟩:=Bl hdis;let ⟨e2,hdis⟩:=Bl hdis;let ⟨e3,hdis⟩:=Bl hdis;simp only [Ak,put];simp only [if_neg e0,if_neg e1,if_neg e2,if_neg e3,if_false];exact hd) ⟨rfl,hv,h1⟩
theorem k9 {M0:Fm} {w0:World} {n d:Nat} {Γ:Cx} {a:Act} {w:World} {x:Ad} {R:Prop} (k0 k1 k2 k3 k4:Nat) (h:St M0 w0 n Γ a w) (hd:Ao Γ d=some (Va x)) (hdis:aW [d,k0,k1,k2,k3,k4]=true) (r:∀ c0 c1 c2 c3 c4,St M0 w0 n ((d,Qa [c0,c1,c2,c3,c4]) :: (k0,At c0 (Va (x.Ends))) :: (k1,At c1 (Va (x.Valves))) :: (k2,At c2 (Va (x.Inputs))) :: (k3,At c3 (Va (x.Values))) :: (k4,At c4 (Va (x.Timers))) :: Γ) a w->R):R:=by let ⟨M,φ,h⟩:=h;let ⟨hF,cs,hv,hr⟩:=h.holds d _ hd;have h1:=Rep.one hr;obtain ⟨_,_,rfl,⟨c0,rfl,s0⟩,⟨_,_,rfl,⟨c1,rfl,s1⟩,⟨_,_,rfl,⟨c2,rfl,s2⟩,⟨_,_,rfl,⟨c3,rfl,s3⟩,⟨c4,rfl,s4⟩⟩⟩⟩⟩:=hr;refine r c0 c1 c2 c3 c4 ?_;have g4:=StM.more1 h k4 (e:=At c4 (Va (x.Timers))) (λ_=>Va.mkList s4);have g3:=StM.more1 g4 k3 (e:=At c3 (Va (x.Values))) (λ_=>Va.mkList s3);have g2:=StM.more1 g3 k2 (e:=At c2 (Va (x.Inputs))) (λ_=>Va.mkList s2);have g1:=StM.more1 g2 k1 (e:=At c1 (Va (x.Valves))) (λ_=>Va.mkList s1);have g0:=StM.more1 g1 k0 (e:=At c0 (Va (x.Ends))) (λ_=>Va.mkList s0);exact St.turnT g0 (by let ⟨e0,hdis⟩:=Bl hdis;let ⟨e1,hdis⟩:=Bl hdis;let ⟨e2,hdis⟩:=Bl hdis;let ⟨e3,hdis⟩:=Bl hdis;let ⟨e4,hdis⟩:=Bl hdis;simp only [Ak,put];simp only [if_neg e0,if_neg e1,if_neg e2,if_neg e3,if_neg e4,if_false];exact hd) ⟨rfl,hv,h1⟩
theorem iE {Γ:Cx} {ty:TypeId} :OR Tryz.prog (.build 32 #[]) ty Γ (Va (⟨(0:Int),([]:List P3),([]:List Ae),([]:PZ),([]:PZ)⟩:Aa)):=by refine OR.val λρ M w r=>?_;have h:=Ar (P:=Tryz.prog) (T:=32) (w:=w) (L:=[(0,1),(1,1),(2,1),(3,1),(4,1)]) (z:=[.int .i64 0,nz,nz,nz,nz]) (res:=[.int .i64 0,nz,nz,nz,nz]) (l:=[]) (m:=[]) ae ae trivial rfl;refine ⟨.agg #[.int .i64 0,nz,nz,nz,nz],λ_ _ _ _=>?_,rfl,[.int .i64 0,nz,nz,nz,nz],rfl,⟨[.int .i64 0],[nz,nz,nz,nz],rfl,rfl,⟨[nz],[nz,nz,nz],rfl,⟨_,rfl,none,0,rfl,.inl rfl⟩,⟨[nz],[nz,nz],rfl,⟨_,rfl,none,0,rfl,.inl rfl⟩,⟨[nz],[nz],rfl,⟨_,rfl,none,0,rfl,.inl rfl⟩,⟨_,rfl,none,0,rfl,.inl rfl⟩⟩⟩⟩⟩⟩;simp only [execOp,LH,K4,LQ,KJ,h,KE,KQ]
theorem H7 {Γ:Cx} {ty:TypeId} :OR Tryz.prog (.build 43 #[]) ty Γ (Va (⟨([]:PZ),([]:PZ)⟩:Accident)):=by refine OR.val λρ M w r=>?_;have h:=Ar (P:=Tryz.prog) (T:=43) (w:=w) (L:=[(0,1),(1,1)]) (z:=[nz,nz]) (res:=[nz,nz]) (l:=[]) (m:=[]) ae ae trivial rfl;refine ⟨.agg #[nz,nz],λ_ _ _ _=>?_,rfl,[nz,nz],rfl,⟨[nz],[nz],rfl,⟨_,rfl,none,0,rfl,.inl rfl⟩,⟨_,rfl,none,0,rfl,.inl rfl⟩⟩⟩;simp only [execOp,LH,K4,LQ,KJ,h,KE,KQ]
theorem j6 {Γ:Cx} {ty:TypeId} {x1:Operand} {y1:PZ} (h1:Od Γ x1 (Va y1)):OR Tryz.prog (.build 43 #[(1,x1)]) ty Γ (Va (⟨([]:PZ),y1⟩:Accident)):=by refine OR.val λρ M w r=>?_;let ⟨_,_,c1,e1,q1⟩:=h1 ρ M w r;obtain ⟨a1_0,rfl⟩:=Em (Rep.len q1);have h:=Ar (P:=Tryz.prog) (T:=43) (w:=w) (L:=[(0,1),(1,1)]) (z:=[nz,nz]) (res:=[nz,a1_0]) (l:=[(1,ρ x1)]) (m:=[(1,[a1_0])]) ae ae ⟨rfl,Ap e1 q1,trivial⟩ rfl;refine ⟨.agg #[nz,a1_0],λ_ _ _ _=>?_,rfl,[nz,a1_0],rfl,⟨[nz],[a1_0],rfl,⟨_,rfl,none,0,rfl,.inl rfl⟩,q1⟩⟩;simp only [execOp,LH,K4,LQ,KJ,h,KE,KQ]
theorem CA {Γ:Cx} {ty:TypeId} :OR Tryz.prog (.build 58 #[]) ty Γ (Va (⟨([]:PZ),([]:P0),([]:P0),([]:P0),([]:PZ)⟩:Ad)):=by refine OR.val λρ M w r=>?_;have h:=Ar (P:=Tryz.prog) (T:=58) (w:=w) (L:=[(0,1),(1,1),(2,1),(3,1),(4,1)]) (z:=[nz,nz,nz,nz,nz]) (res:=[nz,nz,nz,nz,nz]) (l:=[]) (m:=[]) ae ae trivial rfl;refine ⟨.agg #[nz,nz,nz,nz,nz],λ_ _ _ _=>?_,rfl,[nz,nz,nz,nz,nz],rfl,⟨[nz],[nz,nz,nz,nz],rfl,⟨_,rfl,none,0,rfl,.inl rfl⟩,⟨[nz],[nz,nz,nz],rfl,⟨_,rfl,none,0,rfl,.inl rfl⟩,⟨[nz],[nz,nz],rfl,⟨_,rfl,none,0,rfl,.inl rfl⟩,⟨[nz],[nz],rfl,⟨_,rfl,none,0,rfl,.inl rfl⟩,⟨_,rfl,none,0,rfl,.inl rfl⟩⟩⟩⟩⟩⟩;simp only [execOp,LH,K4,LQ,KJ,h,KE,KQ]
theorem BN {Γ:Cx} {ty:TypeId} {x0:Operand} {y0:Int} {x1:Operand} {y1:Bool} (h0:Od Γ x0 (Va y0)) (h1:Od Γ x1 (Va y1)):OR Tryz.prog (.build 69 #[(0,x0),(1,x1)]) ty Γ (Va (⟨y0,y1⟩:Ab)):=by refine OR.val λρ M w r=>?_;let ⟨_,_,c0,e0,q0⟩:=h0 ρ M w r;obtain ⟨a0_0,rfl⟩:=Em (Rep.len q0);let ⟨_,_,c1,e1,q1⟩:=h1 ρ M w r;obtain ⟨a1_0,rfl⟩:=Em (Rep.len q1);have h:=Ar (P:=Tryz.prog) (T:=69) (w:=w) (L:=[(0,1),(1,1)]) (z:=[.int .i64 0,.bool false]) (res:=[a0_0,a1_0]) (l:=[(0,ρ x0),(1,ρ x1)]) (m:=[(0,[a0_0]),(1,[a1_0])]) ae ae ⟨rfl,Ap e0 q0,⟨rfl,Ap e1 q1,trivial⟩⟩ rfl;refine ⟨.agg #[a0_0,a1_0],λ_ _ _ _=>?_,rfl,[a0_0,a1_0],rfl,⟨[a0_0],[a1_0],rfl,q0,q1⟩⟩;simp only [execOp,LH,K4,LQ,KJ,h,KE,KQ]
theorem lW {Γ:Cx} {ty:TypeId} :OR Tryz.prog (.build 86 #[]) ty Γ (Va (⟨(0:Int),(0:Int),false⟩:Af)):=by refine OR.val λρ M w r=>?_;have h:=Ar (P:=Tryz.prog) (T:=86) (w:=w) (L:=[(0,1),(1,1),(2,1)]) (z:=[.int .i64 0,.int .i64 0,.bool false]) (res:=[.int .i64 0,.int .i64 0,.bool false]) (l:=[]) (m:=[]) ae ae trivial rfl;refine ⟨.agg #[.int .i64 0,.int .i64 0,.bool false],λ_ _ _ _=>?_,rfl,[.int .i64 0,.int .i64 0,.bool false],rfl,⟨[.int .i64 0],[.int .i64 0,.bool false],rfl,rfl,⟨[.int .i64 0],[.bool false],rfl,rfl,rfl⟩⟩⟩;simp only [execOp,LH,K4,LQ,KJ,h,KE,KQ]
theorem BM {Γ:Cx} {ty:TypeId} {x0:Operand} {y0:Int} {x1:Operand} {y1:Int} (h0:Od Γ x0 (Va y0)) (h1:Od Γ x1 (Va y1)):OR Tryz.prog (.build 86 #[(0,x0),(1,x1)]) ty Γ (Va (⟨y0,y1,false⟩:Af)):=by refine OR.val λρ M w r=>?_;let ⟨_,_,c0,e0,q0⟩:=h0 ρ M w r;obtain ⟨a0_0,rfl⟩:=Em (Rep.len q0);let ⟨_,_,c1,e1,q1⟩:=h1 ρ M w r;obtain ⟨a1_0,rfl⟩:=Em (Rep.len q1);have h:=Ar (P:=Tryz.prog) (T:=86) (w:=w) (L:=[(0,1),(1,1),(2,1)]) (z:=[.int .i64 0,.int .i64 0,.bool false]) (res:=[a0_0,a1_0,.bool false]) (l:=[(0,ρ x0),(1,ρ x1)]) (m:=[(0,[a0_0]),(1,[a1_0])]) ae ae ⟨rfl,Ap e0 q0,⟨rfl,Ap e1 q1,trivial⟩⟩ rfl;refine ⟨.agg #[a0_0,a1_0,.bool false],λ_ _ _ _=>?_,rfl,[a0_0,a1_0,.bool false],rfl,⟨[a0_0],[a1_0,.bool false],rfl,q0,⟨[a1_0],[.bool false],rfl,q1,rfl⟩⟩⟩;simp only [execOp,LH,K4,LQ,KJ,h,KE,KQ]
theorem Me {Γ:Cx} {ty:TypeId} {x0:Operand} {y0:Int} {x1:Operand} {y1:Int} {x2:Operand} {y2:Bool} (h0:Od Γ x0 (Va y0)) (h1:Od Γ x1 (Va y1)) (h2:Od Γ x2 (Va y2)):OR Tryz.prog (.build 86 #[(0,x0),(1,x1),(2,x2)]) ty Γ (Va (⟨y0,y1,y2⟩:Af)):=by refine OR.val λρ M w r=>?_;let ⟨_,_,c0,e0,q0⟩:=h0 ρ M w r;obtain ⟨a0_0,rfl⟩:=Em (Rep.len q0);let ⟨_,_,c1,e1,q1⟩:=h1 ρ M w r;obtain ⟨a1_0,rfl⟩:=Em (Rep.len q1);let ⟨_,_,c2,e2,q2⟩:=h2 ρ M w r;obtain ⟨a2_0,rfl⟩:=Em (Rep.len q2);have h:=Ar (P:=Tryz.prog) (T:=86) (w:=w) (L:=[(0,1),(1,1),(2,1)]) (z:=[.int .i64 0,.int .i64 0,.bool false]) (res:=[a0_0,a1_0,a2_0]) (l:=[(0,ρ x0),(1,ρ x1),(2,ρ x2)]) (m:=[(0,[a0_0]),(1,[a1_0]),(2,[a2_0])]) ae ae ⟨rfl,Ap e0 q0,⟨rfl,Ap e1 q1,⟨rfl,Ap e2 q2,trivial⟩⟩⟩ rfl;refine ⟨.agg #[a0_0,a1_0,a2_0],λ_ _ _ _=>?_,rfl,[a0_0,a1_0,a2_0],rfl,⟨[a0_0],[a1_0,a2_0],rfl,q0,⟨[a1_0],[a2_0],rfl,q1,q2⟩⟩⟩;simp only [execOp,LH,K4,LQ,KJ,h,KE,KQ]
theorem H6 {Γ:Cx} {ty:TypeId} {x0:Operand} {y0:Int} {x2:Operand} {y2:Bool} (h0:Od Γ x0 (Va y0)) (h2:Od Γ x2 (Va y2)):OR Tryz.prog (.build 86 #[(0,x0),(2,x2)]) ty Γ (Va (⟨y0,(0:Int),y2⟩:Af)):=by refine OR.val λρ M w r=>?_;let ⟨_,_,c0,e0,q0⟩:=h0 ρ M w r;obtain ⟨a0_0,rfl⟩:=Em (Rep.len q0);let ⟨_,_,c2,e2,q2⟩:=h2 ρ M w r;obtain ⟨a2_0,rfl⟩:=Em (Rep.len q2);have h:=Ar (P:=Tryz.prog) (T:=86) (w:=w) (L:=[(0,1),(1,1),(2,1)]) (z:=[.int .i64 0,.int .i64 0,.bool false]) (res:=[a0_0,.int .i64 0,a2_0]) (l:=[(0,ρ x0),(2,ρ x2)]) (m:=[(0,[a0_0]),(2,[a2_0])]) ae ae ⟨rfl,Ap e0 q0,⟨rfl,Ap e2 q2,trivial⟩⟩ rfl;refine ⟨.agg #[a0_0,.int .i64 0,a2_0],λ_ _ _ _=>?_,rfl,[a0_0,.int .i64 0,a2_0],rfl,⟨[a0_0],[.int .i64 0,a2_0],rfl,q0,⟨[.int .i64 0],[a2_0],rfl,rfl,q2⟩⟩⟩;simp only [execOp,LH,K4,LQ,KJ,h,KE,KQ]
theorem Xv {Γ:Cx} {ty:TypeId} {x0:Operand} {y0:Int} {x1:Operand} {y1:Int} (h0:Od Γ x0 (Va y0)) (h1:Od Γ x1 (Va y1)):OR Tryz.prog (.build 110 #[(0,x0),(1,x1)]) ty Γ (Va (⟨y0,y1,([]:List Expr)⟩:Expr)):=by refine OR.val λρ M w r=>?_;let ⟨_,_,c0,e0,q0⟩:=h0 ρ M w r;obtain ⟨a0_0,rfl⟩:=Em (Rep.len q0);let ⟨_,_,c1,e1,q1⟩:=h1 ρ M w r;obtain ⟨a1_0,rfl⟩:=Em (Rep.len q1);have h:=Ar (P:=Tryz.prog) (T:=110) (w:=w) (L:=[(0,1),(1,1),(2,1)]) (z:=[.int .i64 0,.int .i64 0,nz]) (res:=[a0_0,a1_0,nz]) (l:=[(0,ρ x0),(1,ρ x1)]) (m:=[(0,[a0_0]),(1,[a1_0])]) ae ae ⟨rfl,Ap e0 q0,⟨rfl,Ap e1 q1,trivial⟩⟩ rfl;refine ⟨.agg #[a0_0,a1_0,nz],λ_ _ _ _=>?_,rfl,[a0_0,a1_0,nz],rfl,Hs.2 (show Rep.rep M w _ (y0,y1,([]:List Expr)) from ⟨[a0_0],[a1_0,nz],rfl,q0,⟨[a1_0],[nz],rfl,q1,⟨_,rfl,none,0,rfl,.inl rfl⟩⟩⟩)⟩;simp only [execOp,LH,K4,LQ,KJ,h,KE,KQ]
theorem Rs {Γ:Cx} {ty:TypeId} {x0:Operand} {y0:Int} {x2:Operand} {y2:List Expr} (h0:Od Γ x0 (Va y0)) (h2:Od Γ x2 (Va y2)):OR Tryz.prog (.build 110 #[(0,x0),(2,x2)]) ty Γ (Va (⟨y0,(0:Int),y2⟩:Expr)):=by refine OR.val λρ M w r=>?_;let ⟨_,_,c0,e0,q0⟩:=h0 ρ M w r;obtain ⟨a0_0,rfl⟩:=Em (Rep.len q0);let ⟨_,_,c2,e2,q2⟩:=h2 ρ M w r;obtain ⟨a2_0,rfl⟩:=Em (Rep.len q2);have h:=Ar (P:=Tryz.prog) (T:=110) (w:=w) (L:=[(0,1),(1,1),(2,1)]) (z:=[.int .i64 0,.int .i64 0,nz]) (res:=[a0_0,.int .i64 0,a2_0]) (l:=[(0,ρ x0),(2,ρ x2)]) (m:=[(0,[a0_0]),(2,[a2_0])]) ae ae ⟨rfl,Ap e0 q0,⟨rfl,Ap e2 q2,trivial⟩⟩ rfl;refine ⟨.agg #[a0_0,.int .i64 0,a2_0],λ_ _ _ _=>?_,rfl,[a0_0,.int .i64 0,a2_0],rfl,Hs.2 (show Rep.rep M w _ (y0,(0:Int),y2) from ⟨[a0_0],[.int .i64 0,a2_0],rfl,q0,⟨[.int .i64 0],[a2_0],rfl,rfl,q2⟩⟩)⟩;simp only [execOp,LH,K4,LQ,KJ,h,KE,KQ]
theorem gJ {Γ:Cx} {ty:TypeId} {x0:Operand} {y0:P3} (h0:Od Γ x0 (Va y0)):OR Tryz.prog (.build 113 #[(0,x0)]) ty Γ (Va (⟨y0,(0:Int),(⟨(0:Int),(0:Int),([]:List Expr)⟩:Expr),(⟨(0:Int),(0:Int),([]:List Expr)⟩:Expr),(0:Int),false⟩:Ae)):=by refine OR.val λρ M w r=>?_;let ⟨_,_,c0,e0,q0⟩:=h0 ρ M w r;obtain ⟨a0_0,rfl⟩:=Em (Rep.len q0);have h:=Ar (P:=Tryz.prog) (T:=113) (w:=w) (L:=[(0,1),(1,1),(2,3),(5,3),(8,1),(9,1)]) (z:=[.string ByteArray.empty,.int .i64 0,.int .i64 0,.int .i64 0,nz,.int .i64 0,.int .i64 0,nz,.int .i64 0,.bool false]) (res:=[a0_0,.int .i64 0,.int .i64 0,.int .i64 0,nz,.int .i64 0,.int .i64 0,nz,.int .i64 0,.bool false]) (l:=[(0,ρ x0)]) (m:=[(0,[a0_0])]) ae ae ⟨rfl,Ap e0 q0,trivial⟩ rfl;refine ⟨.agg #[a0_0,.int .i64 0,.int .i64 0,.int .i64 0,nz,.int .i64 0,.int .i64 0,nz,.int .i64 0,.bool false],λ_ _ _ _=>?_,rfl,[a0_0,.int .i64 0,.int .i64 0,.int .i64 0,nz,.int .i64 0,.int .i64 0,nz,.int .i64 0,.bool false],rfl,⟨[a0_0],[.int .i64 0,.int .i64 0,.int .i64 0,nz,.int .i64 0,.int .i64 0,nz,.int .i64 0,.bool false],rfl,q0,⟨[.int .i64 0],[.int .i64 0,.int .i64 0,nz,.int .i64 0,.int .i64 0,nz,.int .i64 0,.bool false],rfl,rfl,⟨[.int .i64 0,.int .i64 0,nz],[.int .i64 0,.int .i64 0,nz,.int .i64 0,.bool false],rfl,(by show Ry _ _ _ _;unfold Ry;exact ⟨none,0,rfl,.inl rfl⟩),⟨[.int .i64 0,.int .i64 0,nz],[.int .i64 0,.bool false],rfl,(by show Ry _ _ _ _;unfold Ry;exact ⟨none,0,rfl,.inl rfl⟩),⟨[.int .i64 0],[.bool false],rfl,rfl,rfl⟩⟩⟩⟩⟩⟩;simp only [execOp,LH,K4,LQ,KJ,h,KE,KQ]
theorem Zm {Γ:Cx} {ty:TypeId} {x0:Operand} {y0:P3} {x1:Operand} {y1:Int} {x2:Operand} {y2:Expr} (h0:Od Γ x0 (Va y0)) (h1:Od Γ x1 (Va y1)) (h2:Od Γ x2 (Va y2)):OR Tryz.prog (.build 113 #[(0,x0),(1,x1),(2,x2)]) ty Γ (Va (⟨y0,y1,y2,(⟨(0:Int),(0:Int),([]:List Expr)⟩:Expr),(0:Int),false⟩:Ae)):=by refine OR.val λρ M w r=>?_;let ⟨_,_,c0,e0,q0⟩:=h0 ρ M w r;obtain ⟨a0_0,rfl⟩:=Em (Rep.len q0);let ⟨_,_,c1,e1,q1⟩:=h1 ρ M w r;obtain ⟨a1_0,rfl⟩:=Em (Rep.len q1);let ⟨_,_,c2,e2,q2⟩:=h2 ρ M w r;obtain ⟨a2_0,a2_1,a2_2,rfl⟩:=JR (Rep.len q2);have h:=Ar (P:=Tryz.prog) (T:=113) (w:=w) (L:=[(0,1),(1,1),(2,3),(5,3),(8,1),(9,1)]) (z:=[.string ByteArray.empty,.int .i64 0,.int .i64 0,.int .i64 0,nz,.int .i64 0,.int .i64 0,nz,.int .i64 0,.bool false]) (res:=[a0_0,a1_0,a2_0,a2_1,a2_2,.int .i64 0,.int .i64 0,nz,.int .i64 0,.bool false]) (l:=[(0,ρ x0),(1,ρ x1),(2,ρ x2)]) (m:=[(0,[a0_0]),(1,[a1_0]),(2,[a2_0,a2_1,a2_2])]) ae ae ⟨rfl,Ap e0 q0,⟨rfl,Ap e1 q1,⟨rfl,Ap e2 q2,trivial⟩⟩⟩ rfl;refine ⟨.agg #[a0_0,a1_0,a2_0,a2_1,a2_2,.int .i64 0,.int .i64 0,nz,.int .i64 0,.bool false],λ_ _ _ _=>?_,rfl,[a0_0,a1_0,a2_0,a2_1,a2_2,.int .i64 0,.int .i64 0,nz,.int .i64 0,.bool false],rfl,⟨[a0_0],[a1_0,a2_0,a2_1,a2_2,.int .i64 0,.int .i64 0,nz,.int .i64 0,.bool false],rfl,q0,⟨[a1_0],[a2_0,a2_1,a2_2,.int .i64 0,.int .i64 0,nz,.int .i64 0,.bool false],rfl,q1,⟨[a2_0,a2_1,a2_2],[.int .i64 0,.int .i64 0,nz,.int .i64 0,.bool false],rfl,q2,⟨[.int .i64 0,.int .i64 0,nz],[.int .i64 0,.bool false],rfl,(by show Ry _ _ _ _;unfold Ry;exact ⟨none,0,rfl,.inl rfl⟩),⟨[.int .i64 0],[.bool false],rfl,rfl,rfl⟩⟩⟩⟩⟩⟩;simp only [execOp,LH,K4,LQ,KJ,h,KE,KQ]
theorem Vq {Γ:Cx} {ty:TypeId} {x0:Operand} {y0:P3} {x1:Operand} {y1:Int} {x2:Operand} {y2:Expr} {x3:Operand} {y3:Expr} (h0:Od Γ x0 (Va y0)) (h1:Od Γ x1 (Va y1)) (h2:Od Γ x2 (Va y2)) (h3:Od Γ x3 (Va y3)):OR Tryz.prog (.build 113 #[(0,x0),(1,x1),(2,x2),(3,x3)]) ty Γ (Va (⟨y0,y1,y2,y3,(0:Int),false⟩:Ae)):=by refine OR.val λρ M w r=>?_;let ⟨_,_,c0,e0,q0⟩:=h0 ρ M w r;obtain ⟨a0_0,rfl⟩:=Em (Rep.len q0);let ⟨_,_,c1,e1,q1⟩:=h1 ρ M w r;obtain ⟨a1_0,rfl⟩:=Em (Rep.len q1);let ⟨_,_,c2,e2,q2⟩:=h2 ρ M w r;obtain ⟨a2_0,a2_1,a2_2,rfl⟩:=JR (Rep.len q2);let ⟨_,_,c3,e3,q3⟩:=h3 ρ M w r;obtain ⟨a3_0,a3_1,a3_2,rfl⟩:=JR (Rep.len q3);have h:=Ar (P:=Tryz.prog) (T:=113) (w:=w) (L:=[(0,1),(1,1),(2,3),(5,3),(8,1),(9,1)]) (z:=[.string ByteArray.empty,.int .i64 0,.int .i64 0,.int .i64 0,nz,.int .i64 0,.int .i64 0,nz,.int .i64 0,.bool false]) (res:=[a0_0,a1_0,a2_0,a2_1,a2_2,a3_0,a3_1,a3_2,.int .i64 0,.bool false]) (l:=[(0,ρ x0),(1,ρ x1),(2,ρ x2),(3,ρ x3)]) (m:=[(0,[a0_0]),(1,[a1_0]),(2,[a2_0,a2_1,a2_2]),(3,[a3_0,a3_1,a3_2])]) ae ae ⟨rfl,Ap e0 q0,⟨rfl,Ap e1 q1,⟨rfl,Ap e2 q2,⟨rfl,Ap e3 q3,trivial⟩⟩⟩⟩ rfl;refine ⟨.agg #[a0_0,a1_0,a2_0,a2_1,a2_2,a3_0,a3_1,a3_2,.int .i64 0,.bool false],λ_ _ _ _=>?_,rfl,[a0_0,a1_0,a2_0,a2_1,a2_2,a3_0,a3_1,a3_2,.int .i64 0,.bool false],rfl,⟨[a0_0],[a1_0,a2_0,a2_1,a2_2,a3_0,a3_1,a3_2,.int .i64 0,.bool false],rfl,q0,⟨[a1_0],[a2_0,a2_1,a2_2,a3_0,a3_1,a3_2,.int .i64 0,.bool false],rfl,q1,⟨[a2_0,a2_1,a2_2],[a3_0,a3_1,a3_2,.int .i64 0,.bool false],rfl,q2,⟨[a3_0,a3_1,a3_2],[.int .i64 0,.bool false],rfl,q3,⟨[.int .i64 0],[.bool false],rfl,rfl,rfl⟩⟩⟩⟩⟩⟩;simp only [execOp,LH,K4,LQ,KJ,h,KE,KQ]
theorem Rr {Γ:Cx} {ty:TypeId} {x0:Operand} {y0:P3} {x1:Operand} {y1:Int} {x2:Operand} {y2:Expr} {x3:Operand} {y3:Expr} {x5:Operand} {y5:Bool} (h0:Od Γ x0 (Va y0)) (h1:Od Γ x1 (Va y1)) (h2:Od Γ x2 (Va y2)) (h3:Od Γ x3 (Va y3)) (h5:Od Γ x5 (Va y5)):OR Tryz.prog (.build 113 #[(0,x0),(1,x1),(2,x2),(3,x3),(5,x5)]) ty Γ (Va (⟨y0,y1,y2,y3,(0:Int),y5⟩:Ae)):=by refine OR.val λρ M w r=>?_;let ⟨_,_,c0,e0,q0⟩:=h0 ρ M w r;obtain ⟨a0_0,rfl⟩:=Em (Rep.len q0);let ⟨_,_,c1,e1,q1⟩:=h1 ρ M w r;obtain ⟨a1_0,rfl⟩:=Em (Rep.len q1);let ⟨_,_,c2,e2,q2⟩:=h2 ρ M w r;obtain ⟨a2_0,a2_1,a2_2,rfl⟩:=JR (Rep.len q2);let ⟨_,_,c3,e3,q3⟩:=h3 ρ M w r;obtain ⟨a3_0,a3_1,a3_2,rfl⟩:=JR (Rep.len q3);let ⟨_,_,c5,e5,q5⟩:=h5 ρ M w r;obtain ⟨a5_0,rfl⟩:=Em (Rep.len q5);have h:=Ar (P:=Tryz.prog) (T:=113) (w:=w) (L:=[(0,1),(1,1),(2,3),(5,3),(8,1),(9,1)]) (z:=[.string ByteArray.empty,.int .i64 0,.int .i64 0,.int .i64 0,nz,.int .i64 0,.int .i64 0,nz,.int .i64 0,.bool false]) (res:=[a0_0,a1_0,a2_0,a2_1,a2_2,a3_0,a3_1,a3_2,.int .i64 0,a5_0]) (l:=[(0,ρ x0),(1,ρ x1),(2,ρ x2),(3,ρ x3),(5,ρ x5)]) (m:=[(0,[a0_0]),(1,[a1_0]),(2,[a2_0,a2_1,a2_2]),(3,[a3_0,a3_1,a3_2]),(5,[a5_0])]) ae ae ⟨rfl,Ap e0 q0,⟨rfl,Ap e1 q1,⟨rfl,Ap e2 q2,⟨rfl,Ap e3 q3,⟨rfl,Ap e5 q5,trivial⟩⟩⟩⟩⟩ rfl;refine ⟨.agg #[a0_0,a1_0,a2_0,a2_1,a2_2,a3_0,a3_1,a3_2,.int .i64 0,a5_0],λ_ _ _ _=>?_,rfl,[a0_0,a1_0,a2_0,a2_1,a2_2,a3_0,a3_1,a3_2,.int .i64 0,a5_0],rfl,⟨[a0_0],[a1_0,a2_0,a2_1,a2_2,a3_0,a3_1,a3_2,.int .i64 0,a5_0],rfl,q0,⟨[a1_0],[a2_0,a2_1,a2_2,a3_0,a3_1,a3_2,.int .i64 0,a5_0],rfl,q1,⟨[a2_0,a2_1,a2_2],[a3_0,a3_1,a3_2,.int .i64 0,a5_0],rfl,q2,⟨[a3_0,a3_1,a3_2],[.int .i64 0,a5_0],rfl,q3,⟨[.int .i64 0],[a5_0],rfl,rfl,q5⟩⟩⟩⟩⟩⟩;simp only [execOp,LH,K4,LQ,KJ,h,KE,KQ]
theorem Vp {Γ:Cx} {ty:TypeId} {x0:Operand} {y0:P3} {x1:Operand} {y1:Int} {x2:Operand} {y2:Expr} {x4:Operand} {y4:Int} (h0:Od Γ x0 (Va y0)) (h1:Od Γ x1 (Va y1)) (h2:Od Γ x2 (Va y2)) (h4:Od Γ x4 (Va y4)):OR Tryz.prog (.build 113 #[(0,x0),(1,x1),(2,x2),(4,x4)]) ty Γ (Va (⟨y0,y1,y2,(⟨(0:Int),(0:Int),([]:List Expr)⟩:Expr),y4,false⟩:Ae)):=by refine OR.val λρ M w r=>?_;let ⟨_,_,c0,e0,q0⟩:=h0 ρ M w r;obtain ⟨a0_0,rfl⟩:=Em (Rep.len q0);let ⟨_,_,c1,e1,q1⟩:=h1 ρ M w r;obtain ⟨a1_0,rfl⟩:=Em (Rep.len q1);let ⟨_,_,c2,e2,q2⟩:=h2 ρ M w r;obtain ⟨a2_0,a2_1,a2_2,rfl⟩:=JR (Rep.len q2);let ⟨_,_,c4,e4,q4⟩:=h4 ρ M w r;obtain ⟨a4_0,rfl⟩:=Em (Rep.len q4);have h:=Ar (P:=Tryz.prog) (T:=113) (w:=w) (L:=[(0,1),(1,1),(2,3),(5,3),(8,1),(9,1)]) (z:=[.string ByteArray.empty,.int .i64 0,.int .i64 0,.int .i64 0,nz,.int .i64 0,.int .i64 0,nz,.int .i64 0,.bool false]) (res:=[a0_0,a1_0,a2_0,a2_1,a2_2,.int .i64 0,.int .i64 0,nz,a4_0,.bool false]) (l:=[(0,ρ x0),(1,ρ x1),(2,ρ x2),(4,ρ x4)]) (m:=[(0,[a0_0]),(1,[a1_0]),(2,[a2_0,a2_1,a2_2]),(4,[a4_0])]) ae ae ⟨rfl,Ap e0 q0,⟨rfl,Ap e1 q1,⟨rfl,Ap e2 q2,⟨rfl,Ap e4 q4,trivial⟩⟩⟩⟩ rfl;refine ⟨.agg #[a0_0,a1_0,a2_0,a2_1,a2_2,.int .i64 0,.int .i64 0,nz,a4_0,.bool false],λ_ _ _ _=>?_,rfl,[a0_0,a1_0,a2_0,a2_1,a2_2,.int .i64 0,.int .i64 0,nz,a4_0,.bool false],rfl,⟨[a0_0],[a1_0,a2_0,a2_1,a2_2,.int .i64 0,.int .i64 0,nz,a4_0,.bool false],rfl,q0,⟨[a1_0],[a2_0,a2_1,a2_2,.int .i64 0,.int .i64 0,nz,a4_0,.bool false],rfl,q1,⟨[a2_0,a2_1,a2_2],[.int .i64 0,.int .i64 0,nz,a4_0,.bool false],rfl,q2,⟨[.int .i64 0,.int .i64 0,nz],[a4_0,.bool false],rfl,(by show Ry _ _ _ _;unfold Ry;exact ⟨none,0,rfl,.inl rfl⟩),⟨[a4_0],[.bool false],rfl,q4,rfl⟩⟩⟩⟩⟩⟩;simp only [execOp,LH,K4,LQ,KJ,h,KE,KQ]
theorem GE {Γ:Cx} {ty:TypeId} {x0:Operand} {y0:P3} {x2:Operand} {y2:Expr} (h0:Od Γ x0 (Va y0)) (h2:Od Γ x2 (Va y2)):OR Tryz.prog (.build 113 #[(0,x0),(2,x2)]) ty Γ (Va (⟨y0,(0:Int),y2,(⟨(0:Int),(0:Int),([]:List Expr)⟩:Expr),(0:Int),false⟩:Ae)):=by refine OR.val λρ M w r=>?_;let ⟨_,_,c0,e0,q0⟩:=h0 ρ M w r;obtain ⟨a0_0,rfl⟩:=Em (Rep.len q0);let ⟨_,_,c2,e2,q2⟩:=h2 ρ M w r;obtain ⟨a2_0,a2_1,a2_2,rfl⟩:=JR (Rep.len q2);have h:=Ar (P:=Tryz.prog) (T:=113) (w:=w) (L:=[(0,1),(1,1),(2,3),(5,3),(8,1),(9,1)]) (z:=[.string ByteArray.empty,.int .i64 0,.int .i64 0,.int .i64 0,nz,.int .i64 0,.int .i64 0,nz,.int .i64 0,.bool false]) (res:=[a0_0,.int .i64 0,a2_0,a2_1,a2_2,.int .i64 0,.int .i64 0,nz,.int .i64 0,.bool false]) (l:=[(0,ρ x0),(2,ρ x2)]) (m:=[(0,[a0_0]),(2,[a2_0,a2_1,a2_2])]) ae ae ⟨rfl,Ap e0 q0,⟨rfl,Ap e2 q2,trivial⟩⟩ rfl;refine ⟨.agg #[a0_0,.int .i64 0,a2_0,a2_1,a2_2,.int .i64 0,.int .i64 0,nz,.int .i64 0,.bool false],λ_ _ _ _=>?_,rfl,[a0_0,.int .i64 0,a2_0,a2_1,a2_2,.int .i64 0,.int .i64 0,nz,.int .i64 0,.bool false],rfl,⟨[a0_0],[.int .i64 0,a2_0,a2_1,a2_2,.int .i64 0,.int .i64 0,nz,.int .i64 0,.bool false],rfl,q0,⟨[.int .i64 0],[a2_0,a2_1,a2_2,.int .i64 0,.int .i64 0,nz,.int .i64 0,.bool false],rfl,rfl,⟨[a2_0,a2_1,a2_2],[.int .i64 0,.int .i64 0,nz,.int .i64 0,.bool false],rfl,q2,⟨[.int .i64 0,.int .i64 0,nz],[.int .i64 0,.bool false],rfl,(by show Ry _ _ _ _;unfold Ry;exact ⟨none,0,rfl,.inl rfl⟩),⟨[.int .i64 0],[.bool false],rfl,rfl,rfl⟩⟩⟩⟩⟩⟩;simp only [execOp,LH,K4,LQ,KJ,h,KE,KQ]
theorem Zl {Γ:Cx} {ty:TypeId} {x0:Operand} {y0:Int} {x1:Operand} {y1:Int} {x2:Operand} {y2:PZ} (h0:Od Γ x0 (Va y0)) (h1:Od Γ x1 (Va y1)) (h2:Od Γ x2 (Va y2)):OR Tryz.prog (.build 142 #[(0,x0),(1,x1),(2,x2)]) ty Γ (Va (⟨y0,y1,y2⟩:Step_overlap)):=by refine OR.val λρ M w r=>?_;let ⟨_,_,c0,e0,q0⟩:=h0 ρ M w r;obtain ⟨a0_0,rfl⟩:=Em (Rep.len q0);let ⟨_,_,c1,e1,q1⟩:=h1 ρ M w r;obtain ⟨a1_0,rfl⟩:=Em (Rep.len q1);let ⟨_,_,c2,e2,q2⟩:=h2 ρ M w r;obtain ⟨a2_0,rfl⟩:=Em (Rep.len q2);have h:=Ar (P:=Tryz.prog) (T:=142) (w:=w) (L:=[(0,1),(1,1),(2,1)]) (z:=[.int .i64 0,.int .i64 0,nz]) (res:=[a0_0,a1_0,a2_0]) (l:=[(0,ρ x0),(1,ρ x1),(2,ρ x2)]) (m:=[(0,[a0_0]),(1,[a1_0]),(2,[a2_0])]) ae ae ⟨rfl,Ap e0 q0,⟨rfl,Ap e1 q1,⟨rfl,Ap e2 q2,trivial⟩⟩⟩ rfl;refine ⟨.agg #[a0_0,a1_0,a2_0],λ_ _ _ _=>?_,rfl,[a0_0,a1_0,a2_0],rfl,⟨[a0_0],[a1_0,a2_0],rfl,q0,⟨[a1_0],[a2_0],rfl,q1,q2⟩⟩⟩;simp only [execOp,LH,K4,LQ,KJ,h,KE,KQ]
theorem J4 {Γ:Cx} {ty:TypeId} :OR Tryz.prog (.build 144 #[]) ty Γ (Va (⟨([]:List Ad),([]:List PZ)⟩:Ah)):=by refine OR.val λρ M w r=>?_;have h:=Ar (P:=Tryz.prog) (T:=144) (w:=w) (L:=[(0,1),(1,1)]) (z:=[nz,nz]) (res:=[nz,nz]) (l:=[]) (m:=[]) ae ae trivial rfl;refine ⟨.agg #[nz,nz],λ_ _ _ _=>?_,rfl,[nz,nz],rfl,⟨[nz],[nz],rfl,⟨_,rfl,none,0,rfl,.inl rfl⟩,⟨_,rfl,none,0,rfl,.inl rfl⟩⟩⟩;simp only [execOp,LH,K4,LQ,KJ,h,KE,KQ]
theorem GD {Γ:Cx} {ty:TypeId} {x0:Operand} {y0:Aa} {x1:Operand} {y1:Ah} (h0:Od Γ x0 (Va y0)) (h1:Od Γ x1 (Va y1)):OR Tryz.prog (.build 146 #[(0,x0),(1,x1)]) ty Γ (Va (⟨y0,y1⟩:World_overlap)):=by refine OR.val λρ M w r=>?_;let ⟨_,_,c0,e0,q0⟩:=h0 ρ M w r;obtain ⟨a0_0,a0_1,a0_2,a0_3,a0_4,rfl⟩:=lH (Rep.len q0);let ⟨_,_,c1,e1,q1⟩:=h1 ρ M w r;obtain ⟨a1_0,a1_1,rfl⟩:=pT (Rep.len q1);have h:=Ar (P:=Tryz.prog) (T:=146) (w:=w) (L:=[(0,5),(5,2)]) (z:=[.int .i64 0,nz,nz,nz,nz,nz,nz]) (res:=[a0_0,a0_1,a0_2,a0_3,a0_4,a1_0,a1_1]) (l:=[(0,ρ x0),(1,ρ x1)]) (m:=[(0,[a0_0,a0_1,a0_2,a0_3,a0_4]),(1,[a1_0,a1_1])]) ae ae ⟨rfl,Ap e0 q0,⟨rfl,Ap e1 q1,trivial⟩⟩ rfl;refine ⟨.agg #[a0_0,a0_1,a0_2,a0_3,a0_4,a1_0,a1_1],λ_ _ _ _=>?_,rfl,[a0_0,a0_1,a0_2,a0_3,a0_4,a1_0,a1_1],rfl,⟨[a0_0,a0_1,a0_2,a0_3,a0_4],[a1_0,a1_1],rfl,q0,q1⟩⟩;simp only [execOp,LH,K4,LQ,KJ,h,KE,KQ]
theorem GC {Γ:Cx} {ty:TypeId} :OR Tryz.prog (.build 188 #[]) ty Γ (Va (⟨(⟨([]:PZ),([]:P0),([]:P0),([]:P0),([]:PZ)⟩:Ad),([]:List (List Ab)),([]:PZ)⟩:Course)):=by refine OR.val λρ M w r=>?_;have h:=Ar (P:=Tryz.prog) (T:=188) (w:=w) (L:=[(0,5),(5,1),(6,1)]) (z:=[nz,nz,nz,nz,nz,nz,nz]) (res:=[nz,nz,nz,nz,nz,nz,nz]) (l:=[]) (m:=[]) ae ae trivial rfl;refine ⟨.agg #[nz,nz,nz,nz,nz,nz,nz],λ_ _ _ _=>?_,rfl,[nz,nz,nz,nz,nz,nz,nz],rfl,⟨[nz,nz,nz,nz,nz],[nz,nz],rfl,⟨[nz],[nz,nz,nz,nz],rfl,⟨_,rfl,none,0,rfl,.inl rfl⟩,⟨[nz],[nz,nz,nz],rfl,⟨_,rfl,none,0,rfl,.inl rfl⟩,⟨[nz],[nz,nz],rfl,⟨_,rfl,none,0,rfl,.inl rfl⟩,⟨[nz],[nz],rfl,⟨_,rfl,none,0,rfl,.inl rfl⟩,⟨_,rfl,none,0,rfl,.inl rfl⟩⟩⟩⟩⟩,⟨[nz],[nz],rfl,⟨_,rfl,none,0,rfl,.inl rfl⟩,⟨_,rfl,none,0,rfl,.inl rfl⟩⟩⟩⟩;simp only [execOp,LH,K4,LQ,KJ,h,KE,KQ]
theorem Rq {Γ:Cx} {ty:TypeId} {x0:Operand} {y0:Ad} {x1:Operand} {y1:Int} {x2:Operand} {y2:Af} (h0:Od Γ x0 (Va y0)) (h1:Od Γ x1 (Va y1)) (h2:Od Γ x2 (Va y2)):OR Tryz.prog (.build 277 #[(0,x0),(1,x1),(2,x2)]) ty Γ (Va (⟨y0,y1,y2⟩:Node)):=by refine OR.val λρ M w r=>?_;let ⟨_,_,c0,e0,q0⟩:=h0 ρ M w r;obtain ⟨a0_0,a0_1,a0_2,a0_3,a0_4,rfl⟩:=lH (Rep.len q0);let ⟨_,_,c1,e1,q1⟩:=h1 ρ M w r;obtain ⟨a1_0,rfl⟩:=Em (Rep.len q1);let ⟨_,_,c2,e2,q2⟩:=h2 ρ M w r;obtain ⟨a2_0,a2_1,a2_2,rfl⟩:=JR (Rep.len q2);have h:=Ar (P:=Tryz.prog) (T:=277) (w:=w) (L:=[(0,5),(5,1),(6,3)]) (z:=[nz,nz,nz,nz,nz,.int .i64 0,.int .i64 0,.int .i64 0,.bool false]) (res:=[a0_0,a0_1,a0_2,a0_3,a0_4,a1_0,a2_0,a2_1,a2_2]) (l:=[(0,ρ x0),(1,ρ x1),(2,ρ x2)]) (m:=[(0,[a0_0,a0_1,a0_2,a0_3,a0_4]),(1,[a1_0]),(2,[a2_0,a2_1,a2_2])]) ae ae ⟨rfl,Ap e0 q0,⟨rfl,Ap e1 q1,⟨rfl,Ap e2 q2,trivial⟩⟩⟩ rfl;refine ⟨.agg #[a0_0,a0_1,a0_2,a0_3,a0_4,a1_0,a2_0,a2_1,a2_2],λ_ _ _ _=>?_,rfl,[a0_0,a0_1,a0_2,a0_3,a0_4,a1_0,a2_0,a2_1,a2_2],rfl,⟨[a0_0,a0_1,a0_2,a0_3,a0_4],[a1_0,a2_0,a2_1,a2_2],rfl,q0,⟨[a1_0],[a2_0,a2_1,a2_2],rfl,q1,q2⟩⟩⟩;simp only [execOp,LH,K4,LQ,KJ,h,KE,KQ]
theorem Ro {Γ:Cx} {ty:TypeId} {x0:Operand} {y0:P3} {x1:Operand} {y1:P3} {x2:Operand} {y2:P3} {x3:Operand} {y3:P3} {x4:Operand} {y4:P3} (h0:Od Γ x0 (Va y0)) (h1:Od Γ x1 (Va y1)) (h2:Od Γ x2 (Va y2)) (h3:Od Γ x3 (Va y3)) (h4:Od Γ x4 (Va y4)):OR Tryz.prog (.build 296 #[(0,x0),(1,x1),(2,x2),(3,x3),(4,x4)]) ty Γ (Va (⟨y0,y1,y2,y3,y4⟩:Key)):=by refine OR.val λρ M w r=>?_;let ⟨_,_,c0,e0,q0⟩:=h0 ρ M w r;obtain ⟨a0_0,rfl⟩:=Em (Rep.len q0);let ⟨_,_,c1,e1,q1⟩:=h1 ρ M w r;obtain ⟨a1_0,rfl⟩:=Em (Rep.len q1);let ⟨_,_,c2,e2,q2⟩:=h2 ρ M w r;obtain ⟨a2_0,rfl⟩:=Em (Rep.len q2);let ⟨_,_,c3,e3,q3⟩:=h3 ρ M w r;obtain ⟨a3_0,rfl⟩:=Em (Rep.len q3);let ⟨_,_,c4,e4,q4⟩:=h4 ρ M w r;obtain ⟨a4_0,rfl⟩:=Em (Rep.len q4);have h:=Ar (P:=Tryz.prog) (T:=296) (w:=w) (L:=[(0,1),(1,1),(2,1),(3,1),(4,1)]) (z:=[.string ByteArray.empty,.string ByteArray.empty,.string ByteArray.empty,.string ByteArray.empty,.string ByteArray.empty]) (res:=[a0_0,a1_0,a2_0,a3_0,a4_0]) (l:=[(0,ρ x0),(1,ρ x1),(2,ρ x2),(3,ρ x3),(4,ρ x4)]) (m:=[(0,[a0_0]),(1,[a1_0]),(2,[a2_0]),(3,[a3_0]),(4,[a4_0])]) ae ae ⟨rfl,Ap e0 q0,⟨rfl,Ap e1 q1,⟨rfl,Ap e2 q2,⟨rfl,Ap e3 q3,⟨rfl,Ap e4 q4,trivial⟩⟩⟩⟩⟩ rfl;refine ⟨.agg #[a0_0,a1_0,a2_0,a3_0,a4_0],λ_ _ _ _=>?_,rfl,[a0_0,a1_0,a2_0,a3_0,a4_0],rfl,⟨[a0_0],[a1_0,a2_0,a3_0,a4_0],rfl,q0,⟨[a1_0],[a2_0,a3_0,a4_0],rfl,q1,⟨[a2_0],[a3_0,a4_0],rfl,q2,⟨[a3_0],[a4_0],rfl,q3,q4⟩⟩⟩⟩⟩;simp only [execOp,LH,K4,LQ,KJ,h,KE,KQ]
theorem j7 {Γ:Cx} {ty:TypeId} :OR Tryz.prog (.build 434 #[]) ty Γ (Va (⟨false,(0:Int),false⟩:Ag)):=by refine OR.val λρ M w r=>?_;have h:=Ar (P:=Tryz.prog) (T:=434) (w:=w) (L:=[(0,1),(1,1),(2,1)]) (z:=[.bool false,.int .i64 0,.bool false]) (res:=[.bool false,.int .i64 0,.bool false]) (l:=[]) (m:=[]) ae ae trivial rfl;refine ⟨.agg #[.bool false,.int .i64 0,.bool false],λ_ _ _ _=>?_,rfl,[.bool false,.int .i64 0,.bool false],rfl,⟨[.bool false],[.int .i64 0,.bool false],rfl,rfl,⟨[.int .i64 0],[.bool false],rfl,rfl,rfl⟩⟩⟩;simp only [execOp,LH,K4,LQ,KJ,h,KE,KQ]
theorem Zk {Γ:Cx} {ty:TypeId} {x0:Operand} {y0:Bool} {x1:Operand} {y1:Int} {x2:Operand} {y2:Bool} (h0:Od Γ x0 (Va y0)) (h1:Od Γ x1 (Va y1)) (h2:Od Γ x2 (Va y2)):OR Tryz.prog (.build 434 #[(0,x0),(1,x1),(2,x2)]) ty Γ (Va (⟨y0,y1,y2⟩:Ag)):=by refine OR.val λρ M w r=>?_;let ⟨_,_,c0,e0,q0⟩:=h0 ρ M w r;obtain ⟨a0_0,rfl⟩:=Em (Rep.len q0);let ⟨_,_,c1,e1,q1⟩:=h1 ρ M w r;obtain ⟨a1_0,rfl⟩:=Em (Rep.len q1);let ⟨_,_,c2,e2,q2⟩:=h2 ρ M w r;obtain ⟨a2_0,rfl⟩:=Em (Rep.len q2);have h:=Ar (P:=Tryz.prog) (T:=434) (w:=w) (L:=[(0,1),(1,1),(2,1)]) (z:=[.bool false,.int .i64 0,.bool false]) (res:=[a0_0,a1_0,a2_0]) (l:=[(0,ρ x0),(1,ρ x1),(2,ρ x2)]) (m:=[(0,[a0_0]),(1,[a1_0]),(2,[a2_0])]) ae ae ⟨rfl,Ap e0 q0,⟨rfl,Ap e1 q1,⟨rfl,Ap e2 q2,trivial⟩⟩⟩ rfl;refine ⟨.agg #[a0_0,a1_0,a2_0],λ_ _ _ _=>?_,rfl,[a0_0,a1_0,a2_0],rfl,⟨[a0_0],[a1_0,a2_0],rfl,q0,⟨[a1_0],[a2_0],rfl,q1,q2⟩⟩⟩;simp only [execOp,LH,K4,LQ,KJ,h,KE,KQ]
end
theorem bP {z:Array Value} {n:Nat}:(Builtin.zeroCells z n).size=n * z.size:=by simp [Builtin.zeroCells]
theorem io {P:Program} {N e:Nat} {α:Type} [Rep α] (hc:da P N=true) (h0:∀ w:World,Calls P N #[.slice none 0 0,.int .i64 0] w λe w'=>e=.returned (.slice none 0 0)/\w'=w)
  (h1:∀ (n:Nat),0 < n->n<=1000000000->∀ w:World,Calls P N #[.slice none 0 0,.int .i64 n] w λen w'=>∃ k q cs,en=.returned (.slice (some ⟨w.heap.size,0,none⟩) 0 k)/\w'=(w.alloc (.cells cs e)).drewN q/\k<=maxLen/\cs.size=k * Rep.sz α) {v0:Int} (hv:0<=v0) (hv2:v0<=1000000000) :
  Sp P N [Qv (.slice none 0 0),Va v0] (Rz (λx:Value=>Qv x) (λx=>[Ow e x ([]:List α)])):=by
 intro vs M w hM hf
 match vs,hf with
 | [a,b],⟨⟨_,ha⟩,hb,_⟩=>
  subst ha;have hb:=Va.int hb;subst hb;obtain ⟨n,rfl⟩:=NQ hv;refine ⟨hc,?_⟩;rcases NY n with rfl | hn
  ·refine (h0 w).mono ?_;rintro en w' ⟨rfl,rfl⟩;exact ⟨_,rfl,Ext.refl _ _,[],by simp,by simp,_,⟨rfl,rfl⟩,[],[],rfl,λu=>.inl ⟨rfl,[],⟨by simp,.inl ⟨rfl,rfl⟩⟩,rfl⟩,rfl⟩
  ·refine (h1 n hn aa w).mono ?_;rintro en w' ⟨k,q,cs,rfl,rfl,hk,hcs⟩;have hh:((w.alloc (.cells cs e)).drewN q).heap[w.heap.size]?=some (.cells cs e (0,0)):=Ch w _;refine ⟨_,rfl,(Ext.alloc No w _).trans (Ext.drawn _ _ _ (NV _ _)),[w.heap.size],by simp,λj hj=>?_,_,⟨rfl,rfl⟩,[w.heap.size],[],by simp,λu=>.inl ⟨rfl,[],⟨by simp,.inr ⟨w.heap.size,k,cs,rfl,L0 _,hh,L0 _,hk,hcs,by simp⟩⟩,rfl⟩,rfl⟩;simp at hj;subst hj;exact ⟨Nat.le_refl _,(KS.1 hh).1⟩
end Go.Pn
namespace Go.Proofs
open Go Go.RowKit
theorem FM (w:World):Calls Tryz.prog 247 #[.slice none 0 0,.int .i64 0] w λe w'=>e=.returned (.slice none 0 0)/\w'=w:=by go_enter Tryz.func247,Tryz.ntmps247;go_wp2;go_ret;exact ⟨rfl,rfl⟩
theorem FK (n:Nat) (h:0 < n) (hn:n<=1000000000) (w:World):Calls Tryz.prog 247 #[.slice none 0 0,.int .i64 n] w λe w'=>∃ k q cs,e=.returned (.slice (some ⟨w.heap.size,0,none⟩) 0 k)/\w'=(w.alloc (.cells cs 3)).drewN q/\k<=maxLen/\cs.size=k * 1:=by have happ:=λw=>Lib.run_append_nil_zeros (P:=Tryz.prog) w 30 3 30 3 Tryz.t3 (.int .i64 0) .i64 .i64 Tryz.underlying30 Tryz.underlying3 Go.Pn.ae Go.Pn.ae n h (by decide) Go.Pn.aa (by show n * 8<=_;omega);go_enter Tryz.func247,Tryz.ntmps247;go_wp2_with (at_builtin;refine OQ _ rfl _ _ _ _ rfl _ _ rfl rfl _ _ (happ _) ?_);go_ret;have h1:=grownCap_ge w n 0 3;refine ⟨grownCap w n 0 3,1,_,rfl,rfl,grownCap_le_maxLen w n 0 3 (by unfold maxLen;omega),?_⟩;rw [O2,Pn.bP,Pn.bP];show n * 1 + (grownCap w n 0 3 - n) * 1=grownCap w n 0 3 * 1;omega
end Go.Proofs
namespace Go.Pn
open Go Go.RowKit
section
open Go.Proofs
def fY (f:Nat) (v0:Int):Option Unit:=if 0<=v0/\v0<=1000000000 then some () else none
end
section
open Go.Proofs
theorem nX (f:Nat) (v0:Int) (r:Unit) (hm:Pn.fY f v0=some r):Pn.Sp Tryz.prog 247 [Pn.Qv (.slice none 0 0),Pn.Va v0] (Pn.Rz (λx:Value=>Pn.Qv x) (λx=>[Pn.Ow 3 x ([]:PZ)])):=by
 unfold Pn.fY at hm;split at hm
 case isFalse=>cases hm
 rename_i hv;refine Pn.io ae (λw=>FM w) (λn h1 h2 w=>FK n h1 h2 w) hv.1 hv.2
end
end Go.Pn
namespace Go.Proofs
open Go Go.RowKit
theorem FL (w:World):Calls Tryz.prog 371 #[.slice none 0 0,.int .i64 0] w λe w'=>e=.returned (.slice none 0 0)/\w'=w:=by go_enter Tryz.func371,Tryz.ntmps371;go_wp2;go_ret;exact ⟨rfl,rfl⟩
theorem FJ (n:Nat) (h:0 < n) (hn:n<=1000000000) (w:World):Calls Tryz.prog 371 #[.slice none 0 0,.int .i64 n] w λe w'=>∃ k q cs,e=.returned (.slice (some ⟨w.heap.size,0,none⟩) 0 k)/\w'=(w.alloc (.cells cs 4)).drewN q/\k<=maxLen/\cs.size=k * 1:=by have happ:=λw=>Lib.run_append_nil_zeros (P:=Tryz.prog) w 37 3 37 4 Tryz.t4 (.bool false) .i64 .i64 Tryz.underlying37 Tryz.underlying3 Go.Pn.ae Go.Pn.ae n h (by decide) Go.Pn.aa (by show n * 1<=_;omega);go_enter Tryz.func371,Tryz.ntmps371;go_wp2_with (at_builtin;refine OQ _ rfl _ _ _ _ rfl _ _ rfl rfl _ _ (happ _) ?_);go_ret;have h1:=grownCap_ge w n 0 4;refine ⟨grownCap w n 0 4,1,_,rfl,rfl,grownCap_le_maxLen w n 0 4 (by unfold maxLen;omega),?_⟩;rw [O2,Pn.bP,Pn.bP];show n * 1 + (grownCap w n 0 4 - n) * 1=grownCap w n 0 4 * 1;omega
end Go.Proofs
namespace Go.Pn
open Go Go.RowKit
section
open Go.Proofs
def fX (f:Nat) (v0:Int):Option Unit:=if 0<=v0/\v0<=1000000000 then some () else none
end
section
open Go.Proofs
theorem m5 (f:Nat) (v0:Int) (r:Unit) (hm:Pn.fX f v0=some r):Pn.Sp Tryz.prog 371 [Pn.Qv (.slice none 0 0),Pn.Va v0] (Pn.Rz (λx:Value=>Pn.Qv x) (λx=>[Pn.Ow 4 x ([]:P0)])):=by
 unfold Pn.fX at hm;split at hm
 case isFalse=>cases hm
 rename_i hv;refine Pn.io ae (λw=>FL w) (λn h1 h2 w=>FJ n h1 h2 w) hv.1 hv.2
end
section
open Go.Sort
theorem Chk.ints {M:Nat->Prop} {w:World}:∀ {xs:PZ} {cs:P2},Chk M w cs xs->cs=xs.map (Value.int .i64)
 | [],_,h=>h
 | x :: xs,_,⟨c,d,rfl,h1,h2⟩=>by
  have h1:c=[.int .i64 x]:=h1;rw [h1,Chk.ints h2];rfl
theorem Chk.ofInts {M:Nat->Prop} {w:World}:∀ {xs:PZ},Chk M w (xs.map (Value.int .i64)) xs
 | []=>rfl
 | x :: xs=>⟨[.int .i64 x],xs.map (Value.int .i64),rfl,rfl,Chk.ofInts⟩
theorem Yz {enc:Int->Value} {w:World} {b:Nat} {d:Array Int} {cur:Array Value} {e:TypeId} {fz:Nat×Nat} (h:w.heap[b]?=some (.cells cur e fz)):(putRow enc w b 0 d).heap[b]?=some (.cells (putCells enc 0 d cur) e fz):=by unfold putRow mapBlock;simp only [NX,if_true,h,Option.map_some,onCells]
theorem Xk {enc:Int->Value} {w:World} {b k:Nat} {d:Array Int} (h:k≠b):(putRow enc w b 0 d).heap[k]?=w.heap[k]?:=by unfold putRow mapBlock;simp only [NX];rw [if_neg (λe=>h e.symm)]
theorem C7 {w w':World} {b n:Nat} {d:Array Int} {os:Array Obj} {cur:Array Value} {e:TypeId} (h:w.heap[b]?=some (.cells cur e (0,0))) (hw:w'=grow (putRow (Value.int .i64) (Sort.ahead w n) b 0 d) os) :
  Ext (λk=>k=b) w w'/\w'.heap[b]?=some (.cells (putCells (Value.int .i64) 0 d cur) e (0,0)):=by (subst hw;have hsz:(putRow (Value.int .i64) (Sort.ahead w n) b 0 d).heap.size=w.heap.size:=by simp [putRow,mapBlock,Sort.ahead]);have hb:b < w.heap.size:=(KS.1 h).1;refine ⟨⟨rfl,rfl,rfl,?_,λk hk hne=>?_,NV _ _⟩,?_⟩;simp [grow,hsz];simp only [grow];rw [O0 (by rw [hsz];exact hk),Xk hne];rfl;simp only [grow];rw [O0 (by rw [hsz];exact hb)];exact Yz h
theorem Ht {d:Array Int} {cur:Array Value} (h:d.size<=cur.size):(putCells (Value.int .i64) 0 d cur).toList.take d.size=d.toList.map (Value.int .i64):=by refine M7 λj=>?_;rw [OJ];split;rename_i hj;rw [MV];simp only [putCells,Array.getElem?_mapIdx,KZ,MV];rw [L4 aa,L4 hj];simp [hj];rename_i hj;rw [LG (by simp;omega)]
theorem Hu {enc:Int->Value} {d:Array Int} {cur:Array Value}:(putCells enc 0 d cur).size=cur.size:=by simp [putCells]
theorem Xj {w:World} {g:Nat} {cur:Array Value} {e:TypeId} {zs:PZ} (h:w.heap[g]?=some (.cells cur e (0,0))) (ht:cur.toList.take zs.length=zs.map (Value.int .i64)):Holds (Value.int .i64) w g 0 zs.toArray:=by (intro j hj;have hj:j < zs.length:=by simpa using hj);(have h1:(cur.toList.take zs.length)[j]?=some (.int .i64 zs[j]):=by rw [ht];simp [hj]);rw [LN hj,MV] at h1;refine ⟨?_,?_⟩;simp [World.cell?,h,h1,hj];simp [World.frozen?,h]
theorem pW {P:Program} {N e:Nat} {c:Value} {xs:PZ} (hcal:da P N=true) (F:PZ->PZ) (hlen:∀ zs,(F zs).length=zs.length) (hsm:xs.length < 4611686018427387904)
  (h0:∀ (p:Option Addr) (cap:Nat) (w:World),Calls P N #[.slice p 0 cap] w λen w'=>en=.returned (.tuple #[])/\w'=w)
  (h1:∀ (b cap:Nat) (zs:PZ) (w:World),Holds (Value.int .i64) w b 0 zs.toArray->b < w.heap.size->zs.length < 4611686018427387904->Calls P N #[.slice (some ⟨b,0,none⟩) zs.length cap] w λen w'=>en=.returned (.tuple #[])/\∃ n os,w'=grow (putRow (Value.int .i64) (Sort.ahead w n) b 0 (F zs).toArray) os) :
  Cg P N [Qv c] [Ow e c xs] (Rz (λ_:Unit=>Dd) (λ_=>[Ow e c (F xs)])):=by
 refine ⟨hcal,?_⟩;intro vs M w Ft hM hf ho hnd hFM
 match vs,hf with
 | [v],⟨⟨_,hv⟩,_⟩=>
  have hv:v=c:=hv;subst hv;obtain ⟨F1,_,rfl,hown,rfl⟩:=ho;have hF0:xs=[]->F xs=[]:=λh=>NP.1 (by rw [hlen,h];rfl);rcases hown undef with ⟨hF,cs,hr,hc⟩ | ⟨hF,hx,g,hv⟩
  ·rcases hr.2 with ⟨hn,hx⟩ | ⟨g,cap,cur,hn,_,hg,hle,hcap,hsz,htk⟩
   ·have hx:xs=[]:=NP.1 hx;subst hx;rw [hn];refine (h0 none 0 w).mono ?_;rintro en w' ⟨rfl,rfl⟩;refine ⟨_,F1,rfl,Ext.refl _ _,by simpa using hnd,λk hk=>.inl (by simpa using hk),(),rfl,F1,[],by simp,λu=>?_,rfl⟩;rw [hF0 rfl,← hn];exact (Ow e v []).sb (hown u) (λk _ hk=>by rcases hk with h | h;exact h.1;exact hFM k (by simpa using h))
   ·have hcs:=Chk.ints hc;have hsz1:cur.size=cap:=by rw [hsz];show cap * 1=cap;omega
    have htk1:cur.toList.take xs.length=xs.map (Value.int .i64):=by rw [← hcs,← htk];show _=cur.toList.take (xs.length * 1);rw [M5]
    have hgl:g < w.heap.size:=(KS.1 hg).1;rw [hn];refine (h1 g cap xs w (Xj hg htk1) hgl hsm).mono ?_;rintro en w' ⟨rfl,n,os,hw⟩;let ⟨hx,hb⟩:=C7 hg hw;have hF1:F1=[g]:=by rw [hF,hn];rfl
    subst hF1;refine ⟨_,[g],rfl,hx.mono λk _ hk=>by subst hk;simp,by simp,λk hk=>.inl (by simpa using hk),(),rfl,[g],[],by simp,λu=>.inl ⟨by rw [← hn,hn];rfl,(F xs).map (Value.int .i64),⟨?_,.inr ⟨g,cap,_,?_,L0 _,hb,?_,hcap,?_,?_⟩⟩,Chk.ofInts⟩,rfl⟩
    ·rw [K5];exact (M5 _).symm
    ·rw [hlen]
    ·rw [hlen];exact hle
    ·rw [Hu];exact hsz
    ·have:=Ht (d:=(F xs).toArray) (cur:=cur) (by simp [hlen];omega);show _=_;have hm:(F xs).length * Rep.sz Int=(F xs).toArray.size:=by simp;show _ * 1=_;omega
     rw [hm,this]
  ·subst hx;rw [hv];refine (h0 _ 0 w).mono ?_;rintro en w' ⟨rfl,rfl⟩;refine ⟨_,F1,rfl,Ext.refl _ _,by simpa using hnd,λk hk=>.inl (by simpa using hk),(),rfl,F1,[],by simp,λu=>?_,rfl⟩;rw [hF0 rfl,← hv];exact (Ow e v []).sb (hown u) (λk _ hk=>by rcases hk with h | h;exact h.1;exact hFM k (by simpa using h))
end
end Go.Pn
namespace Go.Proofs
open Go Go.RowKit
section
open Go.Shelf Go.Sort
def Tryz.laysSort_ren:Go.Shelf.Ren:=⟨λ| 189=>148 | 125=>219 | 257=>218 | 128=>284 | 129=>285 | 294=>275 | 295=>276 | 296=>277 | 297=>278 | 298=>279 | 299=>280 | 216=>281 | 300=>282 | 301=>283 | 328=>313 | 329=>314 | 330=>315 | 331=>316 | 332=>317 | 215=>318 | 343=>340 | n=>n,λ| 28=>30 | 3=>3 | 46=>174 | 0=>0 | 51=>356 | 53=>358 | 4=>4 | 183=>349 | 182=>348 | 131=>300 | 5=>5 | 9=>9 | 218=>383 | 222=>320 | 228=>417 | 229=>418 | n=>n,λ| n=>n⟩
theorem Tryz.laysSort:Go.Proofs.Lays.n189 Tryz.prog Tryz.laysSort_ren:={
 mixed:=by kernel_rfl
 f125:=Tryz.func219.trans (congrArg some Go.Pn.ae)
 f128:=Tryz.func284.trans (congrArg some Go.Pn.ae)
 f129:=Tryz.func285.trans (congrArg some Go.Pn.ae)
 f189:=Tryz.func148.trans (congrArg some Go.Pn.ae)
 f215:=Tryz.func318.trans (congrArg some Go.Pn.ae)
 f216:=Tryz.func281.trans (congrArg some Go.Pn.ae)
 f257:=Tryz.func218.trans (congrArg some Go.Pn.ae)
 f294:=Tryz.func275.trans (congrArg some Go.Pn.ae)
 f295:=Tryz.func276.trans (congrArg some Go.Pn.ae)
 f296:=Tryz.func277.trans (congrArg some Go.Pn.ae)
 f297:=Tryz.func278.trans (congrArg some Go.Pn.ae)
 f298:=Tryz.func279.trans (congrArg some Go.Pn.ae)
 f299:=Tryz.func280.trans (congrArg some Go.Pn.ae)
 f300:=Tryz.func282.trans (congrArg some Go.Pn.ae)
 f301:=Tryz.func283.trans (congrArg some Go.Pn.ae)
 f328:=Tryz.func313.trans (congrArg some Go.Pn.ae)
 f329:=Tryz.func314.trans (congrArg some Go.Pn.ae)
 f330:=Tryz.func315.trans (congrArg some Go.Pn.ae)
 f331:=Tryz.func316.trans (congrArg some Go.Pn.ae)
 f332:=Tryz.func317.trans (congrArg some Go.Pn.ae)
 f343:=Tryz.func340.trans (congrArg some Go.Pn.ae)
 t0:=Tryz.underlying0
 a0:=Tryz.isAgg0
 z0:=Tryz.sizeOf0
 v0:=Tryz.zeroValue0
 t3:=Tryz.underlying3
 a3:=Tryz.isAgg3
 z3:=Tryz.sizeOf3
 v3:=Tryz.zeroValue3
 t4:=Tryz.underlying4
 a4:=Tryz.isAgg4
 z4:=Tryz.sizeOf4
 v4:=Tryz.zeroValue4
 t5:=Tryz.underlying5
 a5:=Tryz.isAgg5
 z5:=Tryz.sizeOf5
 v5:=Tryz.zeroValue5
 t9:=Tryz.underlying9
 a9:=Tryz.isAgg9
 z9:=Tryz.sizeOf9
 v9:=Tryz.zeroValue9
 t28:=Tryz.underlying30
 a28:=Tryz.isAgg30
 z28:=Tryz.sizeOf30
 v28:=Tryz.zeroValue30
 t46:=Tryz.underlying174
 a46:=Tryz.isAgg174
 z46:=Tryz.sizeOf174
 v46:=Tryz.zeroValue174
 t51:=Tryz.underlying356
 a51:=Tryz.isAgg356
 z51:=Tryz.sizeOf356
 v51:=Tryz.zeroValue356
 t53:=Tryz.underlying358
 a53:=Tryz.isAgg358
 z53:=Tryz.sizeOf358
 v53:=Tryz.zeroValue358
 t131:=Tryz.underlying300
 a131:=Tryz.isAgg300
 z131:=Tryz.sizeOf300
 v131:=Tryz.zeroValue300
 t182:=Tryz.underlying348
 a182:=Tryz.isAgg348
 z182:=Tryz.sizeOf348
 v182:=Tryz.zeroValue348
 t183:=Tryz.underlying349
 a183:=Tryz.isAgg349
 z183:=Tryz.sizeOf349
 v183:=Tryz.zeroValue349
 t218:=Tryz.underlying383
 a218:=Tryz.isAgg383
 z218:=Tryz.sizeOf383
 v218:=Tryz.zeroValue383
 t222:=Tryz.underlying320
 a222:=Tryz.isAgg320
 z222:=Tryz.sizeOf320
 v222:=Tryz.zeroValue320
 t228:=Tryz.underlying417
 a228:=Tryz.isAgg417
 z228:=Tryz.sizeOf417
 v228:=Tryz.zeroValue417
 t229:=Tryz.underlying418
 a229:=Tryz.isAgg418
 z229:=Tryz.sizeOf418
 v229:=Tryz.zeroValue418 }
end
end Go.Proofs
namespace Go.Pn
open Go Go.RowKit
section
open Go.Shelf Go.Sort Go.Proofs
def cV (x:Int):PZ->PZ
 | []=>[x]
 | y :: l=>bif decide (x<=y) then x :: y :: l else y :: Pn.cV x l
end
section
open Go.Shelf Go.Sort Go.Proofs
def bK:PZ->PZ
 | []=>[]
 | x :: l=>Pn.cV x (Pn.bK l)
end
section
open Go.Shelf Go.Sort Go.Proofs
theorem bH (x:Int):∀ l:PZ,(Pn.cV x l).Perm (x :: l)
 | []=>.refl _
 | y :: l=>by
  unfold Pn.cV;cases decide (x<=y) with
  | true=>exact .refl _
  | false=>exact ((Pn.bH x l).cons y).trans (.swap x y l)
end
section
open Go.Shelf Go.Sort Go.Proofs
theorem bc:∀ l:PZ,(Pn.bK l).Perm l
 | []=>.refl _
 | x :: l=>(Pn.bH x _).trans ((Pn.bc l).cons x)
end
section
open Go.Shelf Go.Sort Go.Proofs
theorem dw (x:Int):∀ l:PZ,l.Pairwise (·<=·)->(Pn.cV x l).Pairwise (·<=·)
 | [],_=>by unfold Pn.cV;simp
 | y :: l,h=>by
  let ⟨h1,h2⟩:=NK.1 h;unfold Pn.cV;by_cases hx:x<=y
  ·rw [decide_eq_true hx,cond_true];refine NK.2 ⟨λz hz=>?_,h⟩;rcases K8.1 hz with rfl | hz
   ·exact hx
   ·have:=h1 z hz;omega
  ·rw [decide_eq_false hx,cond_false];refine NK.2 ⟨λz hz=>?_,Pn.dw x l h2⟩;rcases K8.1 ((Pn.bH x l).mem_iff.1 hz) with rfl | hz
   ·omega
   ·exact h1 z hz
end
section
open Go.Shelf Go.Sort Go.Proofs
theorem bV:∀ l:PZ,(Pn.bK l).Pairwise (·<=·)
 | []=>.nil
 | x :: l=>Pn.dw x _ (Pn.bV l)
end
section
open Go.Shelf Go.Sort Go.Proofs
theorem ek (xs:PZ):Pn.bK xs=xs.mergeSort λx y=>decide (x<=y):=by
 have h:(xs.mergeSort λx y=>decide (x<=y)).Pairwise (λa b:Int=>a<=b):=(List.pairwise_mergeSort (le:=λx y:Int=>decide (x<=y)) (λa b c h1 h2=>by simp at h1 h2 ⊢;omega) (λa b=>by simp;omega) xs).imp λh=>by simpa using h
 exact List.Perm.eq_of_pairwise (λa b _ _ h1 h2=>Int.le_antisymm h1 h2) (Pn.bV xs) h ((Pn.bc xs).trans (List.mergeSort_perm xs _).symm)
end
section
open Go.Shelf Go.Sort Go.Proofs
def cU (f:Nat) (v0:PZ):Option PZ:=if v0.length<=1000000000 then some (Pn.bK v0) else none
end
section
open Go.Shelf Go.Sort Go.Proofs
theorem P4 (f:Nat) (n0:Value) (v0 r:PZ) (hm:Pn.cU f v0=some r):Pn.Cg Tryz.prog 148 [Pn.Qv n0] [Pn.Ow 3 n0 (v0)] (Pn.Rz (λx:Unit=>Pn.Dd) (λx=>[Pn.Ow 3 n0 (r)])):=by
 unfold Pn.cU at hm;split at hm
 case isFalse=>cases hm
 rename_i hb;obtain rfl:=Option.some.inj hm;rw [Pn.ek];exact Pn.pW ae (λxs=>xs.mergeSort λx y=>decide (x<=y)) (λzs=>List.length_mergeSort zs) aa (λp cap w=>Any.slices_Sort_int_none Tryz.laysSort p cap w) (λb cap zs w h1 h2 h3=>Any.slices_Sort_int Tryz.laysSort b 0 cap zs w h1 h2 h3)
end
section
open Go.Sort
theorem pX {P:Program} {N e:Nat} {c:Value} {xs:PZ} (hcal:da P N=true) (F:PZ->PZ) (hlen:∀ zs,(F zs).length<=zs.length) (hsm:xs.length<=9223372036854775807)
  (h0:∀ (p:Option Addr) (cap:Nat) (w:World),Calls P N #[.slice p 0 cap] w λen w'=>en=.returned (.slice p 0 cap)/\w'=w)
  (h1:∀ (b cap:Nat) (zs:PZ) (w:World),Holds (Value.int .i64) w b 0 zs.toArray->zs.length<=9223372036854775807->zs.length<=cap->Calls P N #[.slice (some ⟨b,0,none⟩) zs.length cap] w λen w'=>en=.returned (.slice (some ⟨b,0,none⟩) (F zs).length cap)/\∃ n,w'=putRow (Value.int .i64) (Sort.ahead w n) b 0 (F zs ++ List.replicate (zs.length - (F zs).length) 0).toArray) :
  Cg P N [Qv c] [Ow e c xs] (Rz (λx:Value=>Qv x) (λx=>[Ow e x (F xs)])):=by
 refine ⟨hcal,?_⟩;intro vs M w Ft hM hf ho hnd hFM
 match vs,hf with
 | [v],⟨⟨_,hv⟩,_⟩=>
  have hv:v=c:=hv;subst hv;obtain ⟨F1,_,rfl,hown,rfl⟩:=ho;have hF0:xs=[]->F xs=[]:=λh=>NP.1 (by have:=hlen xs;rw [h] at this ⊢;simpa using this);rcases hown undef with ⟨hF,cs,hr,hc⟩ | ⟨hF,hx,g,hv⟩
  ·rcases hr.2 with ⟨hn,hx⟩ | ⟨g,cap,cur,hn,_,hg,hle,hcap,hsz,htk⟩
   ·have hx:xs=[]:=NP.1 hx;subst hx;rw [hn];refine (h0 none 0 w).mono ?_;rintro en w' ⟨rfl,rfl⟩;refine ⟨_,F1,rfl,Ext.refl _ _,by simpa using hnd,λk hk=>.inl (by simpa using hk),v,⟨rfl,hn.symm⟩,F1,[],by simp,λu=>?_,rfl⟩;rw [hF0 rfl];exact (Ow e v []).sb (hown u) (λk _ hk=>by rcases hk with h | h;exact h.1;exact hFM k (by simpa using h))
   ·have hcs:=Chk.ints hc;have hsz1:cur.size=cap:=by rw [hsz];show cap * 1=cap;omega
    have htk1:cur.toList.take xs.length=xs.map (Value.int .i64):=by rw [← hcs,← htk];show _=cur.toList.take (xs.length * 1);rw [M5]
    have hgl:g < w.heap.size:=(KS.1 hg).1;have hl:=hlen xs;rw [hn];refine (h1 g cap xs w (Xj hg htk1) hsm hle).mono ?_;rintro en w' ⟨rfl,n,hw⟩;let ⟨hx,hb⟩:=C7 (os:=#[]) hg (hw.trans (Sort.grow_empty _).symm);have hF1:F1=[g]:=by rw [hF,hn];rfl
    subst hF1;refine ⟨_,[g],rfl,hx.mono λk _ hk=>by subst hk;simp,by simp,λk hk=>.inl (by simpa using hk),_,⟨rfl,rfl⟩,[g],[],by simp,λu=>.inl ⟨rfl,(F xs).map (Value.int .i64),⟨?_,.inr ⟨g,cap,_,rfl,L0 _,hb,?_,hcap,?_,?_⟩⟩,Chk.ofInts⟩,rfl⟩
    ·rw [K5];exact (M5 _).symm
    ·omega
    ·rw [Hu];exact hsz
    ·have:=Ht (d:=(F xs ++ List.replicate (xs.length - (F xs).length) 0).toArray) (cur:=cur) (by simp;omega);have h2:=congrArg (List.take (F xs).length) this;rw [List.take_take,PF ai] at h2;have hm:(F xs).length * Rep.sz Int=(F xs).length:=M5 _;rw [hm,h2];simp
  ·subst hx;rw [hv];refine (h0 _ 0 w).mono ?_;rintro en w' ⟨rfl,rfl⟩;refine ⟨_,F1,rfl,Ext.refl _ _,by simpa using hnd,λk hk=>.inl (by simpa using hk),v,⟨rfl,hv.symm⟩,F1,[],by simp,λu=>?_,rfl⟩;rw [hF0 rfl];exact (Ow e v []).sb (hown u) (λk _ hk=>by rcases hk with h | h;exact h.1;exact hFM k (by simpa using h))
end
end Go.Pn
namespace Go.Proofs
open Go Go.RowKit
section
open Go.Shelf Go.Sort
def Tryz.laysCompact_ren:Go.Shelf.Ren:=⟨λ| 20=>74 | n=>n,λ| 22=>30 | 3=>3 | 4=>4 | 0=>0 | n=>n,λ| n=>n⟩
theorem Tryz.laysCompact:Go.Proofs.Lays2.n20 Tryz.prog Tryz.laysCompact_ren:={
 mixed:=by kernel_rfl
 f20:=Tryz.func74.trans (congrArg some Go.Pn.ae)
 t0:=Tryz.underlying0
 a0:=Tryz.isAgg0
 z0:=Tryz.sizeOf0
 v0:=Tryz.zeroValue0
 t3:=Tryz.underlying3
 a3:=Tryz.isAgg3
 z3:=Tryz.sizeOf3
 v3:=Tryz.zeroValue3
 t4:=Tryz.underlying4
 a4:=Tryz.isAgg4
 z4:=Tryz.sizeOf4
 v4:=Tryz.zeroValue4
 t22:=Tryz.underlying30
 a22:=Tryz.isAgg30
 z22:=Tryz.sizeOf30
 v22:=Tryz.zeroValue30
 i3:=by kernel_rfl }
end
end Go.Proofs
namespace Go.Pn
open Go Go.RowKit
section
open Go.Shelf Go.Sort Go.Proofs
def jA (f:Nat) (v0:PZ):Option PZ:=if v0.length<=1000000000 then some (Lib.compact v0) else none
end
section
open Go.Shelf Go.Sort Go.Proofs
theorem bZ (zs:PZ):(Lib.compact zs).length<=zs.length:=by unfold Lib.compact Lib.compactUpTo;rw [K5];exact LW (NZ _ _) ai
end
section
open Go.Shelf Go.Sort Go.Proofs
theorem mZ (f:Nat) (n0:Value) (v0 r:PZ) (hm:Pn.jA f v0=some r):Pn.Cg Tryz.prog 74 [Pn.Qv n0] [Pn.Ow 3 n0 (v0)] (Pn.Rz (λx:Value=>Pn.Qv x) (λx=>[Pn.Ow 3 x (r)])):=by
 unfold Pn.jA at hm;split at hm
 case isFalse=>cases hm
 rename_i hb;obtain rfl:=Option.some.inj hm;exact Pn.pX ae Lib.compact Pn.bZ aa (λp cap w=>Any.slices_Compact_int_empty Tryz.laysCompact p cap w) (λb cap zs w h1 h2 h3=>Any.slices_Compact_int Tryz.laysCompact b 0 cap zs w h1 h2 h3)
end
end Go.Pn
namespace Go.Proofs
open Go Go.RowKit
section
open Go.Shelf Go.Sort
def Tryz.laysMul_ren:Go.Shelf.Ren:=⟨λ| 212=>286 | 263=>319 | 264=>320 | n=>n,λ| 46=>174 | 51=>356 | 146=>388 | 53=>358 | 148=>390 | n=>n,λ| n=>n⟩
theorem Tryz.laysMul:Go.Proofs.Lays.n212 Tryz.prog Tryz.laysMul_ren:={
 mixed:=by kernel_rfl
 f212:=Tryz.func286.trans (congrArg some Go.Pn.ae)
 f263:=Tryz.func319.trans (congrArg some Go.Pn.ae)
 f264:=Tryz.func320.trans (congrArg some Go.Pn.ae)
 t46:=Tryz.underlying174
 a46:=Tryz.isAgg174
 z46:=Tryz.sizeOf174
 v46:=Tryz.zeroValue174
 t51:=Tryz.underlying356
 a51:=Tryz.isAgg356
 z51:=Tryz.sizeOf356
 v51:=Tryz.zeroValue356
 t53:=Tryz.underlying358
 a53:=Tryz.isAgg358
 z53:=Tryz.sizeOf358
 v53:=Tryz.zeroValue358
 t146:=Tryz.underlying388
 a146:=Tryz.isAgg388
 z146:=Tryz.sizeOf388
 v146:=Tryz.zeroValue388
 t148:=Tryz.underlying390
 a148:=Tryz.isAgg390
 z148:=Tryz.sizeOf390
 v148:=Tryz.zeroValue390 }
end
end Go.Proofs
namespace Go.Pn
open Go Go.RowKit
section
open Go.Shelf Go.Sort Go.Proofs
def jC (f:Nat) (v0 v1:Pn.Kd .u64):Option (Pn.Kd .u64×Pn.Kd .u64):=if 0<=v0.v/\v0.v < 18446744073709551616/\0<=v1.v/\v1.v < 18446744073709551616 then some (⟨v0.v * v1.v / 18446744073709551616⟩,⟨v0.v * v1.v % 18446744073709551616⟩) else none
end
section
open Go.Shelf Go.Sort Go.Proofs
theorem nM (f:Nat) (v0 v1:Pn.Kd .u64) (r:Pn.Kd .u64×Pn.Kd .u64) (hm:Pn.jC f v0 v1=some r):Pn.Sp Tryz.prog 286 [Pn.Va v0,Pn.Va v1] (Pn.T2 (Pn.Va r.1) (Pn.Va r.2)):=by
 unfold Pn.jC at hm;split at hm
 case isFalse=>cases hm
 rename_i hb;obtain rfl:=Option.some.inj hm;intro vs M w hM hf
 match vs,hf with
 | [a,b],⟨ha,hb',_⟩=>
  have ha:=Pn.Ik.rep ha;have hb':=Pn.Ik.rep hb';subst ha hb';refine ⟨ae,?_⟩;let ⟨x,hx⟩:=NQ hb.1;let ⟨y,hy⟩:=NQ hb.2.2.1;have:=Any.bits_Mul Tryz.laysMul x y aa aa w;have e0:(Pn.Ik.toI v0)=(x:Int):=hx;have e1:(Pn.Ik.toI v1)=(y:Int):=hy;rw [e0,e1];refine this.mono ?_;rintro en w' ⟨rfl,rfl⟩;have f0:Value.int .u64 ((x * y / 18446744073709551616:Nat):Int)=.int .u64 (v0.v * v1.v / 18446744073709551616):=by rw [hx,hy,Int.natCast_ediv,PG];rfl
  have f1:Value.int .u64 ((x * y % 18446744073709551616:Nat):Int)=.int .u64 (v0.v * v1.v % 18446744073709551616):=by rw [hx,hy,Int.natCast_emod,PG];rfl
  rw [f0,f1];exact ⟨_,rfl,Pn.Ext.refl _ _,[],by simp,by simp,_,_,[],[],rfl,rfl,Pn.Ik.mkv (x:=(⟨v0.v * v1.v / 18446744073709551616⟩:Pn.Kd .u64)),Pn.Ik.mkv (x:=(⟨v0.v * v1.v % 18446744073709551616⟩:Pn.Kd .u64))⟩
end
section
open Go.Proofs
def P5 (f:Nat) (v0:Int):Option Int:=some v0
theorem P6 (f:Nat) (v0 r:Int) (hm:P5 f v0=some r):Sp Tryz.prog 240 [Va (v0)] (kD 241 r):=by obtain rfl:=si hm;refine aq Tryz.func240 ae rfl Tryz.ntmps240 rfl rfl λM w_0 a hM hD s=>?_;refine se (rg (sq s (bx (t rfl)) rfl λa w s=>sq s (aV cq) rfl λa w s=>nl ?_));refine se (rg (bR (d:=1) 300 s rfl rfl λc s=>sq s (bv rfl rfl qn (qc (t rfl) qn)) rfl λa w s=>sq s (aV (t rfl)) rfl λa w s=>nl ?_));replace s:=tv (d:=2) s (fvi (k:=300) (t rfl) rfl);refine wpIn_ret ?_;exact rn hD s rfl (rv1 (rt rfl))
end
section
variable {rr:Option Nat}
def Dk (D:Nat):Ent where
 p F _ w _:=F=[D]/\w.heap[D]?=some (.deferred (some []))
 st h e:=by
  obtain ⟨rfl,h⟩:=h;exact ⟨rfl,by rw [e.block D (KS.1 h).1 ai];exact h⟩
 sb h _:=h
def Lr (l:Nat) (r:Loop):Ent where
 p F _ w _:=F=[l]/\w.heap[l]?=some (.loop r)
 st h e:=by
  obtain ⟨rfl,h⟩:=h;exact ⟨rfl,by rw [e.block l (KS.1 h).1 ai];exact h⟩
 sb h _:=h
instance {l:Nat} {r:Loop}:Gh (Lr l r):=⟨λh _=>h⟩
def Tm (tm:Array Value) (Γt:Cx):Ent where
 p F M w _:=F=[]/\∀ t e,Ao Γt t=some e->e.p [] M w (tm.getD t undef)
 st h x:=⟨h.1,λt e he=>e.st (h.2 t e he) (x.mono λk _ hk=>⟨hk.1,by simp⟩)⟩
 sb h s:=⟨h.1,λt e he=>e.sb (h.2 t e he) s⟩
instance {tm:Array Value} {Γt:Cx}:Gh (Tm tm Γt):=⟨λh _=>h⟩
def Pk {X:Type} (G:X->List Ent):Ent where
 p F M w _:=∃ x,Ho M w (G x) F
 st h x:=let ⟨y,h⟩:=h;⟨y,h.st x⟩
 sb h s:=let ⟨y,h⟩:=h;⟨y,h.sb s⟩
def Jy:P1->List Ent->Mp->Mp
 | k :: ks,e :: es,g=>put k e (Jy ks es g)
 | _,_,g=>g
theorem Oh {k:Nat} {e:Ent} {ks:P1} {es:List Ent} {g:Mp}:Jy (k :: ks) (e :: es) g=put k e (Jy ks es g):=by conv=>lhs;unfold Jy
theorem Cr {Γ:Cx}:∀ {ks:P1} {es:List Ent},Ao (Jz ks es Γ)=Jy ks es (Ao Γ)
 | [],_=>by unfold Jz Jy;rfl
 | _ :: _,[]=>by unfold Jz Jy;rfl
 | k :: ks,e :: es=>by unfold Jz Jy;rw [Ak,Cr]
theorem Eq {g g':Mp}:∀ {ks:P1} {es:List Ent} {t:Nat} {e:Ent},ks.length=es.length->(∀ e,t ∉ ks->g t=some e->g' t=some e)->Jy ks es g t=some e->Jy ks es g' t=some e
 | [],[],t,e,_,h,k=>by
  unfold Jy at k ⊢;exact h e ai k
 | k :: ks,x :: es,t,e,hl,h,q=>by
  unfold Jy at q ⊢;unfold put at q ⊢;split
  ·rename_i ht;rw [if_pos ht] at q;exact q
  ·rename_i ht;rw [if_neg ht] at q;exact Eq (by simpa using hl) (λe hn he=>h e (by simp [ht,hn]) he) q
section
variable {P:Program} {M0:Fm} {w0:World} {n:Nat} {Γ:Cx} {Q:Exit->Act->World->Prop} {a:Act} {w:World} {ty:TypeId}
theorem StM.add1 {g:Mp} {M:Nat->Prop} {φ:Nat->P1} {k:Nat} {e:Ent} {F:P1} (h:StM M0 w0 n g a w M φ) (hp:e.p F M w (a.get k)) (hn:F.Nodup) (hF:∀ q∈F,M q/\(w0.heap.size<=q\/M0.b q))
  (hd:∀ t,t≠k->(g t).isSome=true->∀ q∈φ t,q ∉ F):StM M0 w0 n (put k e g) a w M (λt=>if t=k then F else φ t):=by refine ⟨λt e' he=>?_,λt ht=>?_,λt s hts ht hs=>?_,h.sub,h.bd,h.fr,h.sz,h.df⟩;unfold put at he;by_cases hk:t=k;subst hk;simp only [if_true,Option.some.injEq] at he ⊢;subst he;exact hp;simp only [if_neg hk] at he ⊢;exact h.holds t e' he;by_cases hk:t=k;subst hk;simp only [if_true];exact ⟨hn,hF⟩;simp only [put,if_neg hk] at ht ⊢;exact h.own t ht;by_cases hk:t=k;subst hk;simp only [if_true,if_neg (Ne.symm hts)];simp only [put,if_neg (Ne.symm hts)] at hs;exact λq hq hq'=>hd s (Ne.symm hts) hs q hq' hq;by_cases hk2:s=k;subst hk2;simp only [if_true,if_neg hk];simp only [put,if_neg hk] at ht;exact λq hq=>hd t hk ht q hq;simp only [put,if_neg hk,if_neg hk2] at ht hs ⊢;exact h.apart t s hts ht hs
theorem StM.addG {g:Mp} {M:Nat->Prop} {φ:Nat->P1} (h:StM M0 w0 n g a w M φ):∀ {ks:P1} {Gs:List Ent} {Ft:P1},ks.length=Gs.length->aW ks=true->Ho M w Gs Ft->Ft.Nodup ->
  (∀ q∈Ft,M q/\(w0.heap.size<=q\/M0.b q))->(∀ t,(g t).isSome=true->∀ q∈φ t,q ∉ Ft) ->
  ∃ φ',StM M0 w0 n (Jy ks Gs g) a w M φ'/\∀ t q,(Jy ks Gs g t).isSome=true->q∈φ' t->((g t).isSome=true/\q∈φ t)\/(t∈ks/\q∈Ft)
 | [],[],Ft,_,_,_,_,_,_=>⟨φ,by unfold Jy;exact h,λt q ht hq=>.inl ⟨by unfold Jy at ht;exact ht,hq⟩⟩
 | k :: ks,e :: Gs,Ft,hl,hd,⟨F,F',hFF,h1,h2⟩,hn,hF,hdj=>by
  subst hFF;let ⟨hd1,hd2⟩:=Ay hd;let ⟨n1,n2,n3⟩:=N0.1 hn;let ⟨φ',i1,i2⟩:=h.addG (by simpa using hl) hd2 h2 n2 (λq hq=>hF q (LC _ hq)) (λt ht q hq hm=>hdj t ht q hq (LC _ hm));refine ⟨λt=>if t=k then F else φ' t,?_,?_⟩
  ·unfold Jy;refine i1.add1 (h1 _) n1 (λq hq=>hF q (LD _ hq)) λt hne ht q hq hqF=>?_;rcases i2 t q ht hq with ⟨h3,h4⟩ | ⟨_,h4⟩
   ·exact hdj t h3 q h4 (LD _ hqF)
   ·exact n3 q hqF q h4 rfl
  ·intro t q ht hq;by_cases hk:t=k
   ·subst hk;simp only [if_true] at hq;exact .inr ⟨List.mem_cons_self ..,LD _ hq⟩
   ·simp only [if_neg hk] at hq;unfold Jy put at ht;rw [if_neg hk] at ht;rcases i2 t q ht hq with h3 | ⟨h3,h4⟩
    ·exact .inl h3
    ·exact .inr ⟨List.mem_cons_of_mem _ h3,LC _ h4⟩
theorem StM.called0 (hM:Bd M0 w0) {M:Nat->Prop} {φ:Nat->P1} {ks js:P1} {G G':List Ent} {w':World} {Fq:P1} (h:StM M0 w0 n (Ao Γ) a w M φ) (hk:Kg (Ao Γ) ks G) (hd:aW ks=true)
  (hx:Ext (λk=>k∈(ks.map φ).flatten) w w') (hn:Fq.Nodup) (hF:∀ k∈Fq,k∈(ks.map φ).flatten\/(w.heap.size<=k/\k < w'.heap.size))
  (ho:Ho (λk=>(M k/\k ∉ (ks.map φ).flatten)\/k∈Fq) w' G' Fq) (hl:js.length=G'.length) (hjs:aW js=true) (hkj:∀ k∈ks,k∈js):St M0 w0 n (Jz js G' Γ) a w':=by
 let ⟨o1,o2,o3,o4⟩:=Kg.owns h hk hd;have base:StM M0 w0 n (λt=>if t∈js then none else Ao Γ t) a w' (λk=>(M k/\k ∉ (ks.map φ).flatten)\/k∈Fq) φ:=by
  have at':∀ t,((if t∈js then none else Ao Γ t):Option Ent).isSome=true->t ∉ js/\(Ao Γ t).isSome=true:=λt ht=>by
   by_cases hj:t∈js
   ·rw [if_pos hj] at ht;cases ht
   ·rw [if_neg hj] at ht;exact ⟨hj,ht⟩
  refine ⟨λt e he=>?_,λt ht=>?_,λt s hts ht hs=>h.apart t s hts (at' t ht).2 (at' s hs).2,λk hk=>?_,λk hk=>?_,?_,h.sz,h.df⟩
  ·have h3:=at' t (by rw [he];rfl);simp only [if_neg h3.1] at he;have hnl:=o4 t h3.2 λhm=>h3.1 (hkj t hm);have e1:e.p (φ t) (λk=>M k\/(w.heap.size<=k)) w (a.get t):=Ent.sb _ (h.holds t e he) λk hk hm=>hm.elim id λh=>by omega
   have e2:e.p (φ t) (λk=>M k\/(w.heap.size<=k)) w' (a.get t):=Ent.st _ e1 (hx.mono λk _ hk=>⟨.inl (o3 k hk).1,λhm=>hnl k hm hk⟩);refine Ent.sb _ e2 λk hk hm=>?_;rcases hm with hm | hm
   ·exact .inl hm.1
   ·rcases hF k hm with h5 | h5
    ·exact .inl (o3 k h5).1
    ·exact .inr h5.1
  ·have h3:=at' t ht;have:=h.own t h3.2;exact ⟨this.1,λk hk=>⟨.inl ⟨(this.2 k hk).1,o4 t h3.2 (λhm=>h3.1 (hkj t hm)) k hk⟩,(this.2 k hk).2⟩⟩
  ·refine .inl ⟨h.sub k hk,λhm=>?_⟩;rcases (o3 k hm).2 with h5 | h5
   ·have:=hM.1 k hk;omega
   ·exact hM.2 k h5 hk
  ·rcases hk with hk | hk
   ·exact LR (h.bd k hk.1) hx.size
   ·rcases hF k hk with h5 | h5
    ·exact LR (h.bd k (o3 k h5).1) hx.size
    ·exact h5.2
  ·exact ⟨hx.os.trans h.fr.os,hx.tape.trans h.fr.tape,hx.output.trans h.fr.output,LW h.fr.size hx.size,λk hk hb=>
    (hx.block k (LR hk h.fr.size) λhm=>(o3 k hm).2.elim (λh5=>by omega) hb).trans (h.fr.block k hk hb),LW h.fr.dr hx.dr⟩
 let ⟨φ',h1,_⟩:=base.addG hl hjs ho hn (λq hq=>⟨.inr hq,by
   rcases hF q hq with h5 | h5
   ·exact (o3 q h5).2
   ·exact .inl (LW h.fr.size h5.1)⟩) (λt ht q hq hm=>by
   by_cases hj:t∈js
   ·rw [if_pos hj] at ht;cases ht
   ·rw [if_neg hj] at ht;rcases hF q hm with h5 | h5
    ·exact o4 t ht (λhm=>hj (hkj t hm)) q hq h5
    ·have:=h.bd q ((h.own t ht).2 q hq).1;omega)
 refine StF.less (g:=Jy js G' λt=>if t∈js then none else Ao Γ t) ⟨_,φ',h1⟩ λt e he=>?_
 rw [Cr] at he;exact Eq hl (λe hn he=>by rw [if_neg hn];exact he) he
theorem StM.newb {g:Mp} {M:Nat->Prop} {φ:Nat->P1} {k:Nat} {e:Ent} {o:Obj} (h:StM M0 w0 n g a w M φ) (he:∀ M',e.p [w.heap.size] M' (w.alloc o) (a.get k)):StF M0 w0 n (put k e g) a (w.alloc o):=by have hx:Ext No w (w.alloc o):=Ext.alloc _ _ _;refine ⟨λq=>M q\/q=w.heap.size,λt=>if t=k then [w.heap.size] else φ t,λt e' he'=>?_,λt ht=>?_,λt s hts ht hs=>?_,λq hq=>.inl (h.sub q hq),λq hq=>?_,h.fr.trans hx.no,h.sz,h.df⟩;unfold put at he';by_cases hk:t=k;subst hk;simp only [if_true,Option.some.injEq] at he' ⊢;subst he';exact he _;simp only [if_neg hk] at he' ⊢;refine Ent.st _ (Ent.sb _ (h.holds t e' he') (M':=λq=>M q\/q=w.heap.size) ?_) (hx.mono λ_ _ f=>f.elim);rintro q hq (hm | hm);exact hm;omega;by_cases hk:t=k;subst hk;simp only [if_true];exact ⟨by simp,λq hq=>by simp at hq;subst hq;exact ⟨.inr rfl,.inl h.fr.size⟩⟩;simp only [put,if_neg hk] at ht ⊢;have:=h.own t ht;exact ⟨this.1,λq hq=>⟨.inl (this.2 q hq).1,(this.2 q hq).2⟩⟩;(have key:∀ s,(g s).isSome=true->∀ q∈φ s,q≠w.heap.size:=λs hs q hq e=>by have:=h.bd q ((h.own s hs).2 q hq).1;omega);by_cases hk:t=k;(subst hk;simp only [if_true,if_neg (Ne.symm hts)];simp only [put,if_neg (Ne.symm hts)] at hs;exact λq hq hq'=>by simp at hq;exact key s hs q hq' hq);by_cases hk2:s=k;(subst hk2;simp only [if_true,if_neg hk];simp only [put,if_neg hk] at ht;exact λq hq hq'=>by simp at hq';exact key t ht q hq hq');simp only [put,if_neg hk,if_neg hk2] at ht hs ⊢;exact h.apart t s hts ht hs;(rcases hq with hq | hq);exact LR (h.bd q hq) hx.size;subst hq;simp
def Cy (P:Program) (l:Nat) (ps G:List Ent) (R:Ent):Prop:=
 ∀ (vs:P2) (M:Nat->Prop) (w:World) (Ft:P1),(∀ k,M k->k < w.heap.size)->Ui M w ps vs->Ho M w G Ft->Ft.Nodup->(∀ k∈Ft,M k) ->
  ∃ fn tmps assign body,(Instr.yield l vs.toArray).run P w=.ok (.round l fn tmps assign body) w /\
   RoundIn (Fr none) 0 P l fn tmps assign body w (cC ⟨λk=>M k/\k ∉ Ft,λk=>k∈Ft,[]⟩ w R)
@[reducible] def yv (l:Nat):Value:=.func (.yield l) #[] #[]
theorem iC {ops:Array Oper} {rest:List Oper} {x:Operand} {l:Nat} {A:Array TypeId} {args:Array Operand} {xs:List Operand} {ps G:List Ent} {X:Type} {eo:X->Ent} {G':X->List Ent} {d:Nat} {pos:String} {ag:Array Edge} (ks js:P1)
  (hM:Bd M0 w0) (hs:St M0 w0 n Γ a w) (hx:Od Γ x (Qv (yv l))) (ha:args.toList=xs) (h:Odl Γ xs ps) (c:Cy P l ps G (Rz eo G')) (hk:Kg (Ao Γ) ks G) (hd:aW ks=true) (hl:∀ x,js.length=(G' x).length) (hjs:aW (d :: js)=true) (hkj:(ks.all λk=>js.any (Nat.beq k))=true) (hn:Nat.blt d n=true)
  (k:∀ x a' w',St M0 w0 n ((d,eo x) :: Jz js (G' x) Γ) a' w'->wpListIn (Fr rr) 0 P ops Q rest a' w'):wpListIn (Fr rr) 0 P ops Q (⟨some d,.call { callee:=.value x,args:=args,argTypes:=A },ty,pos,ag,none⟩ :: rest) a w:=by (refine wpListIn_plain rfl λKc hK=>?_;subst ha;let ⟨M,φ,hs⟩:=hs;let ⟨_,_,hv⟩:=hx _ _ _ hs.rd;let ⟨o1,o2,o3,o4⟩:=Kg.owns hs hk hd;let ⟨fn,tm,asg,bd,hy,hR⟩:=c _ M w _ hs.bd (h.fits hs.rd) o1 o2 (λk hk=>(o3 k hk).1);refine ⟨λ_ _=>trivial,?_⟩;have hrun:((⟨some d,.call { callee:=.value x,args:=args,argTypes:=A },ty,pos,ag,none⟩:Oper).semAt (Fr rr).round a.eval).run P w=.ok (.round l fn tm asg bd) w:=by rw [Oper.semAt_eq _ _ _ (by intro c;simp),← hy];simp [execOp,resolve,Deferred.ofValue,hv,invoke];congr 2;apply Array.ext';simp);rw [hrun];refine ⟨Ym,RoundIn.mono (F:=Fr rr) hR ?_⟩;rintro en w' ⟨v,Fq,rfl,hx,hnd,hF,x,hp,ho⟩;refine hK _ _ (k x _ _ ?_);exact hs.called hM hk hd (KY hn) hx hnd hF hp ho (hl x) hjs λk hk'=>by have:=KW.1 hkj k hk';let ⟨j,hj,hb⟩:=K1.1 this;rw [MX hb];exact hj
theorem St.putRec {K l:Nat} {r r':Loop} (hs:St M0 w0 n Γ a w) (hk:Ao Γ K=some (Lr l r)):w.heap[l]?=some (.loop r)/\St M0 w0 n ((K,Lr l r') :: Γ) a (w.putObj l (.loop r')):=by let ⟨M,φ,h⟩:=hs;let ⟨hF,hc⟩:=h.holds K _ hk;refine ⟨hc,?_⟩;unfold St;rw [Ak];exact h.write (b:=l) (by rw [hk];rfl) (by rw [hF];simp) ⟨rfl,rfl,rfl,by simp,λq _ hq=>World.putObj_heap_other hq,K9 _⟩ ⟨hF,World.putObj_heap_same (KS.1 hc).1⟩
theorem iF {K l:Nat} {r:Loop} {body:Code} (hs:St M0 w0 n Γ a w) (hk:Ao Γ K=some (Lr l r)) (hr:r.state=.ready)
  (h:∀ RB w',RB=Lr l { r with state:=.busy }->St M0 w0 n ((K,RB) :: Γ) a w'->body.wpIn (Fr (some l)) 0 P Q a w'):∃ w₂,(Instr.beginRound l).run P w=.ok () w₂/\body.wpIn (Fr (some l)) 0 P Q a w₂:=by let ⟨h1,h2⟩:=hs.putRec (r':={ r with state:=.busy }) hk;exact ⟨_,run_beginRound h1 hr,h _ _ rfl h2⟩
def eS:Nat->LoopState
 | 0=>.ready
 | _ + 1=>.done
def isz:Nat->Bool
 | 0=>true
 | _ + 1=>false
def dT (js:List Code) (j:Nat):Option Code:=match j with | 0=>none | k + 1=>js[k]?
@[reducible] def bB (fn D:Nat) (tm:Array Value) (ps:Array Tmp) (asx bd:Code) (st:LoopState) (pd:Option Code):Loop:=⟨st,pd,fn,tm,ps,asx,bd,D⟩
def RE (l fn D:Nat) (tm:Array Value) (ps:Array Tmp) (asx bd:Code) (Γt:Cx) (js:List Code) {X σ:Type} (G:σ->X->List Ent) (s:σ×Nat):Ent:=
 Pk λx=>Lr l (bB fn D tm ps asx bd (eS s.2) (dT js s.2)) :: Tm tm Γt :: G s.1 x
instance {l fn D:Nat} {tm:Array Value} {ps:Array Tmp} {asx bd:Code} {Γt:Cx} {js:List Code} {X σ:Type} {G:σ->X->List Ent} {s:σ×Nat}:Gh (RE l fn D tm ps asx bd Γt js G s):=⟨λh _=>h⟩
theorem pG {X:Type} {eo:X->Ent} {G':X->List Ent} (x:X) (ks:P1) {G:List Ent} (hM:Bd M0 w0) (hs:St M0 w0 n Γ a w) (hk:Kg (Ao Γ) ks G) (hd:aW ks=true) {v:Value} (hv:∀ M w,(eo x).p [] M w v)
  (hG:∀ M w F,Ho M w G F->Ho M w (G' x) F):cC M0 w0 (Rz eo G') (.returned v) w:=by let ⟨M,φ,h0⟩:=hs;let ⟨i1,i2,i3,_⟩:=Kg.owns h0 hk hd;have hs:∀ k,k < w.heap.size->(M0.k k\/k∈(ks.map φ).flatten)->M k:=λk _ hk=>hk.elim (h0.sub k) λh=>(i3 k h).1;exact ⟨v,_,rfl,h0.fr,i2,λk hk=>(i3 k hk).2.elim (λh=>.inr ⟨h,h0.bd k (i3 k hk).1⟩) .inl,x,hv _ _,hG _ _ _ (i1.sb hs)⟩
theorem dq {K:Fm} {l fn D KL KT:Nat} {tm:Array Value} {ps:Array Tmp} {asx bd:Code} {Γt:Cx} {js:List Code} {X σ:Type} {G:σ->X->List Ent} {pd:Option Code} (ks:P1) (jump:Option Code) (j:Nat) (b:Bool) (s:σ) (x:X)
  {RB TB:Ent} (hM:Bd K w0) (hs:St K w0 n Γ a w) (hk:Ao Γ KL=some RB) (hT:Ao Γ KT=some TB) (hRB:RB=Lr l (bB fn D tm ps asx bd .busy pd)) (hTB:TB=Tm tm Γt) (hG:Kg (Ao Γ) ks (G s x)) (hd:aW (KL :: KT :: ks)=true)
  (hj:dT js j=jump) (hb:jump.isNone=b) (hj0:b=isz j) :
  ∃ v w',(Instr.endRound l jump).run P w=.ok v w'/\cC K w0 (Rz (λ_:Unit=>Va b) (λ_=>[RE l fn D tm ps asx bd Γt js G (s,j)])) (.returned v) w':=by
 subst hRB hTB;let ⟨h1,h2⟩:=hs.putRec (r':=bB fn D tm ps asx bd (eS j) (dT js j)) hk;let ⟨d1,d2⟩:=Ay hd;refine ⟨.bool b,_,?_,pG () (KL :: KT :: ks) hM h2 (G:=Lr l (bB fn D tm ps asx bd (eS j) (dT js j)) :: Tm tm Γt :: G s x) ⟨⟨by rw [Ak];simp [put],inferInstance⟩,⟨by rw [Ak];simp only [put];rw [if_neg (d1 KT ai)];exact hT,inferInstance⟩,?_⟩ hd (λM w=>Va.mkBool) ?_⟩
 ·rw [run_endRound jump h1,hb,hj];congr 3;subst hj0;cases j <;> rfl
 ·have:∀ {ks:P1} {es:List Ent},(∀ k∈ks,k≠KL)->Kg (Ao Γ) ks es->Kg (Ao ((KL,Lr l (bB fn D tm ps asx bd (eS j) (dT js j))) :: Γ)) ks es:=by
   intro ks
   induction ks with
   | nil=>intro es _ h;cases es with
    | nil=>exact trivial
    | cons=>exact h.elim
   | cons k ks ih=>
    intro es hne h;cases es with
    | nil=>exact h.elim
    | cons e es=>exact ⟨⟨by rw [Ak];simp only [put];rw [if_neg (hne k ai)];exact h.1.1,h.1.2⟩,ih (λq hq=>hne q (by simp [hq])) h.2⟩
  exact this (λk hk=>d1 k (by simp [hk])) hG
 ·intro M w F ho;exact ⟨F,[],by simp,λu=>⟨x,ho⟩,rfl⟩
theorem Tt:∀ (ps:P1) (vs:P2) (tm:Array Value),((ps.zip vs).foldl (λtm (p:Nat×Value)=>tm.setIfInBounds p.1 p.2) tm).size=tm.size
 | [],_,_=>by simp
 | _ :: _,[],_=>by simp
 | p :: ps,v :: vs,tm=>by simp [Tt]
theorem Vh {t:Nat}:∀ (ps:P1) (vs:P2) (tm:Array Value),t ∉ ps->((ps.zip vs).foldl (λtm (p:Nat×Value)=>tm.setIfInBounds p.1 p.2) tm).getD t undef=tm.getD t undef
 | [],_,_,_=>by simp
 | _ :: _,[],_,_=>by simp
 | p :: ps,v :: vs,tm,h=>by
  simp only [PW,OH];rw [Vh ps vs _ (λhm=>h (LK _ hm))];simp only [K8,not_or] at h;simp [KN,LE (Ne.symm h.1)]
theorem A7 {t:Nat}:∀ (ps:P1) (vs:P2) (tm:Array Value) (i:Nat) (v:Value),aW ps=true->ps[i]?=some t->vs[i]?=some v->t < tm.size->((ps.zip vs).foldl (λtm (p:Nat×Value)=>tm.setIfInBounds p.1 p.2) tm).getD t undef=v
 | [],_,_,i,v,_,h,_,_=>by simp at h
 | _ :: _,[],_,i,v,_,_,h,_=>by simp at h
 | p :: ps,u :: vs,tm,0,v,hd,h1,h2,hl=>by
  let ⟨d1,_⟩:=Ay hd;simp only [List.getElem?_cons_zero,Option.some.injEq] at h1 h2;subst h1 h2;simp only [PW,OH];rw [Vh ps vs _ (λhm=>d1 p hm rfl)];simp [KN,hl]
 | p :: ps,u :: vs,tm,i + 1,v,hd,h1,h2,hl=>by
  let ⟨_,d2⟩:=Ay hd;simp only [PW,OH];exact A7 ps vs _ i v d2 (by simpa using h1) (by simpa using h2) (by simpa using hl)
theorem Cy.mk {l fn D KL KT:Nat} {tm:Array Value} {ps:Array Tmp} {asx bd:Code} {Γt:Cx} {js:List Code} {X σ:Type} {G:σ->X->List Ent} {pe:List Ent} {R:Ent} (ks pts:P1) (s:σ) (htm:tm.size=n) (hp:ps.toList=pts) (hpl:pts.length=pe.length) (hpd:aW pts=true) (hpn:(pts.all λt=>Nat.blt t n)=true)
  (hpt:(pts.all λt=>(Ao Γt t).isNone)=true) (hd:aW (KL :: KT :: ks)=true) (hkl:∀ x,ks.length=(G s x).length)
  (h:∀ K w a x TB,Bd K w->K.ds=[]->TB=Tm tm Γt->St K w n (Jz (KL :: KT :: ks) (Lr l (bB fn D tm ps asx bd .ready none) :: TB :: G s x) (Jz pts pe Γt)) a w ->
   asx.wpIn (Fr (some l)) 0 P (Exit.then (λa₁ w₁=>∃ w₂,(Instr.beginRound l).run P w₁=.ok () w₂/\bd.wpIn (Fr (some l)) 0 P (roundPost P l (cC K w R)) a₁ w₂) (λ_ _ _=>False)) a w) :
  Cy P l pe [RE l fn D tm ps asx bd Γt js G (s,0)] R:=by (intro vs M w Ft hM hf ho hnd hFM;obtain ⟨F1,F2,rfl,hx,hF2⟩:=ho;have hF2:F2=[]:=hF2;subst hF2;rw [LP] at hnd hFM ⊢;let ⟨x,how⟩:=hx undef;let ⟨Fa,Fb,hab,h1,how2⟩:=id how;let ⟨_,hl⟩:=h1 undef;let ⟨Fc,Fd,hcd,h2,_⟩:=id how2;let ⟨_,hT⟩:=h2 undef;have hvl:=hf.len;have hsz:vs.toArray.size=ps.size:=by rw [← PP (xs:=ps),hp,NF,hvl,hpl]);(refine ⟨_,_,_,_,run_yield hl hsz,?_⟩;have hfold:(ps.zip vs.toArray).foldl (λtmps (x:Tmp×Value)=>tmps.setIfInBounds x.1 x.2) tm=(pts.zip vs).foldl (λtm (p:Nat×Value)=>tm.setIfInBounds p.1 p.2) tm:=by rw [← PU,Array.toList_zip,hp]);(refine roundIn_of_wpIn (F:=Fr none) trivial ?_;refine h ⟨λk=>M k/\k ∉ F1,λk=>k∈F1,[]⟩ w _ x _ ⟨λk hk=>hM k hk.1,λk hk hk'=>hk'.2 hk⟩ rfl rfl ?_;have base:StM ⟨λk=>M k/\k ∉ F1,λk=>k∈F1,[]⟩ w n (Ao (Jz pts pe Γt)) { tmps:=(ps.zip vs.toArray).foldl (λtmps (x:Tmp×Value)=>tmps.setIfInBounds x.1 x.2) tm,defers:=[] } w M (λ_=>[]):=by refine ⟨λt e he=>?_,λt _=>⟨by simp,λk hk=>by simp at hk⟩,λt s _ _ _ k hk=>by simp at hk,λk hk=>hk.1,hM,Ext.refl _ _,?_,rfl⟩;(show e.p [] M w (Array.getD _ t undef);rw [hfold];rcases Qr hpl he with ⟨i,h5,h6⟩ | ⟨h5,h6⟩);(have h7:=hf.get i e h6;have hi:i < vs.length:=by rw [hvl];exact (KG.1 h6).1);(have htn:t < n:=by have:=KW.1 hpn t (K0 h5);exact KY this);rw [A7 pts vs tm i (vs.getD i undef) hpd h5 (by simp [hi]) (by rw [htm];exact htn)];exact h7;rw [Vh pts vs tm h5];exact hT t e h6;show Array.size _=n;rw [hfold,Tt,htm]);let ⟨φ',h7,_⟩:=base.addG (ks:=KL :: KT :: ks) (by simp [hkl x]) hd how hnd (λq hq=>⟨hFM q hq,.inr hq⟩) (λt ht q hq=>by simp at hq);exact ⟨M,φ',by rw [Cr];exact h7⟩
theorem g7 {f:FuncId} {ps:List Ent} {R:Ent} (h:Sp P f ps R):Sp P f ps R:=h
theorem bW {ops:Array Oper} {rest:List Oper} {d:Option Tmp} {j dj:Nat} {b want:Bool} {op:Op} {ty:TypeId} {pos:String} {ag:Array Edge}
  (hs:St M0 w0 n Γ a w) (hj:(ops[j]?).bind (·.dst)=some dj) (hl:Ao Γ dj=some (Va b)) (hb:b=want)
  (k:wpListIn (Fr rr) 0 P ops Q (⟨d,op,ty,pos,ag,none⟩ :: rest) a w):wpListIn (Fr rr) 0 P ops Q (⟨d,op,ty,pos,ag,some (j,want)⟩ :: rest) a w:=by let ⟨M,φ,h⟩:=hs;have hyb:=Bn hj (Va.bool (h.holds dj _ hl));unfold wpListIn at k ⊢;rw [if_pos (by simp [Region.wanted])] at k;rw [if_pos (by simp [Region.wanted,hyb,hb])];exact k
theorem Qw {ops:Array Oper} {rest:List Oper} {d j dj:Nat} {b want:Bool} {op:Op} {ty:TypeId} {pos:String} {ag:Array Edge}
  (hs:St M0 w0 n Γ a w) (hj:(ops[j]?).bind (·.dst)=some dj) (hl:Ao Γ dj=some (Va b)) (hb:b=!want) (hn:Nat.blt d n=true)
  (k:∀ a' w',St M0 w0 n ((d,Dd) :: Γ) a' w'->wpListIn (Fr rr) 0 P ops Q rest a' w'):wpListIn (Fr rr) 0 P ops Q (⟨some d,op,ty,pos,ag,some (j,want)⟩ :: rest) a w:=by
 let ⟨M,φ,h⟩:=hs;have hyb:=Bn hj (Va.bool (h.holds dj _ hl));have hne:b≠want:=by subst hb; cases want <;> simp
 unfold wpListIn;rw [if_neg (by simp [Region.wanted,hyb,hne])];exact ⟨λ_ _=>trivial,k _ _ (by unfold St;rw [Ak];exact h.gives ⟨Ext.refl _ _,[],L5,λk hk=>by simp at hk,rfl⟩ (KY hn))⟩
theorem pI {c x y:Operand} {b:Bool} {e:Ent} (hc:Od Γ c (Va b)) (hb:b=false) (hy:Od Γ y e) [z:Zf e]:OR P (.pick c x y) ty Γ e:=by refine OR.val λρ M w r=>?_;let ⟨_,h⟩:=hc ρ M w r;let ⟨F,h2⟩:=hy ρ M w r;obtain rfl:=z.z h2;exact ⟨ρ y,λ_ _ _ _=>by simp only [execOp,Va.bool h,hb];rfl,h2⟩
theorem pkT {c x y:Operand} {b:Bool} {e:Ent} (hc:Od Γ c (Va b)) (hb:b=true) (hx:Od Γ x e) [z:Zf e]:OR P (.pick c x y) ty Γ e:=by refine OR.val λρ M w r=>?_;let ⟨_,h⟩:=hc ρ M w r;let ⟨F,h2⟩:=hx ρ M w r;obtain rfl:=z.z h2;exact ⟨ρ x,λ_ _ _ _=>by simp only [execOp,Va.bool h,hb];rfl,h2⟩
theorem cu {α:Type} {b:Bool} {x y:Option α} {r:α} (h:(bif b then x else y)=some r):(b=true/\x=some r)\/(b=false/\y=some r):=by cases b;exact .inr ⟨rfl,h⟩;exact .inl ⟨rfl,h⟩
def mb (P:Program) (Q:Exit->Act->World->Prop) (js:List Code) (j:Nat) (a:Act) (w:World):Prop:=
 match dT js j with
 | none=>Q .normal a w
 | some c=>c.wpIn (Fr none) 0 P Q a w
theorem af0 {js:List Code} {j:Nat} (hj:(j == 0)=true) (h:Q .normal a w):mb P Q js j a w:=by
 have:j=0:=by simpa using hj
 subst this;exact h
theorem af1 {js:List Code} {j k:Nat} {c:Code} (hj:(j == k + 1)=true) (hc:js[k]?=some c) (h:c.wpIn (Fr none) 0 P Q a w):mb P Q js j a w:=by
 have:j=k + 1:=by simpa using hj
 subst this;unfold mb dT;simp only [hc];exact h
theorem St.marked {D:Nat} (h:St M0 w0 n Γ a w):St (mf D M0) w0 n Γ { a with defers:=fS D :: a.defers } w:=by let ⟨M,φ,h⟩:=h;exact ⟨M,φ,h.holds,h.own,h.apart,h.sub,h.bd,h.fr,h.sz,by show _ :: a.defers=_ :: M0.ds;rw [h.df]⟩
def lZ (Γt:Cx):Prop:=∀ t e,Ao Γt t=some e->∀ {F M w v},e.p F M w v->F=[]
theorem gW:lZ []:=λt e h=>by simp [Ao] at h
theorem ca {t:Nat} {e:Ent} {Γt:Cx} [z:Zf e] (h:lZ Γt):lZ ((t,e) :: Γt):=λs x hx=>by
 rw [Ak] at hx;unfold put at hx;split at hx
 ·cases hx;exact z.z
 ·exact h s x hx
theorem qC {g:Operand} {ps:Array Tmp} {asx bd:Code} {f:FuncId} {fs cs:P2} {p1 p2:List Ent} {α X σ:Type} {pe:α->List Ent} {eo:Ent} {gb:α->σ×Nat->Option (Bool×(σ×Nat))} {r:σ×Nat} (Γt:Cx) (js:List Code) (G:σ->X->List Ent) (s0:σ) (x0:X) (KD KL KT:Nat) (ks:P1)
  (hM:Bd M0 w0) (hs:St M0 w0 n Γ a w) (hg:Od Γ g (Qv (fv f fs cs))) (h1:dM Γ fs p1) (h2:dM Γ cs p2) (hG:Kg (Ao Γ) ks (G s0 x0))
  (hd:aW (KD :: KL :: KT :: ks)=true) (hkl:∀ s x,ks.length=(G s x).length) (hΓt:∀ t e,Ao Γt t=some e->Ao Γ t=some e) (hz:lZ Γt) (hKD:Ao Γ KD=none) (hKL:Ao Γ KL=none) (hKT:Ao Γ KT=none)
  (hit:∀ (E:σ×Nat->Ent) [∀ s,Gh (E s)] (_:∀ s,∃ T:List Ent,E s=Pk λx=>T ++ G s.1 x) (l:Nat),(∀ x s r',gb x s=some r'->Cy P l (pe x) [E s] (Rz (λ_:Unit=>Va r'.1) λ_=>[E r'.2]))->Cg P f (p1 ++ ([Qv (yv l)] ++ p2)) [E (s0,0)] (Rz (λ_:Unit=>eo) λ_=>[E r]))
  (hbody:∀ (l fn D:Nat) (tm:Array Value) (htm:tm.size=n) (x:α) (s:σ×Nat) (r':Bool×(σ×Nat)),gb x s=some r'->Cy P l (pe x) [RE l fn D tm ps asx bd Γt js G s] (Rz (λ_:Unit=>Va r'.1) λ_=>[RE l fn D tm ps asx bd Γt js G r'.2]))
  (hafter:∀ (D:Nat) (a:Act) (w:World) (x:X),St (mf D M0) w0 n ((KD,Dk D) :: Jz ks (G r.1 x) Γ) a w->mb P Q js r.2 a w) :
  (Code.rangeFunc g ps asx bd).wpIn (Fr none) 0 P Q a w:=by
 refine wpIn_rangeFunc λfn _=>?_;let ⟨d1,d2⟩:=Ay hd;let ⟨d3,d4⟩:=Ay d2;let ⟨d5,d6⟩:=Ay d4;let ⟨M,φ,hs0⟩:=id hs;have htn:a.tmps.size=n:=hs0.sz
 -- the two blocks
 have hs1:St M0 w0 n ((KD,Dk w.heap.size) :: Γ) a (w.alloc (.deferred (some []))):=by
  unfold St;rw [Ak];exact hs0.newb λM'=>⟨rfl,World.alloc_heap_new _ _⟩
 let ⟨M1,φ1,hs1⟩:=hs1;have hs2:St M0 w0 n ((KL,Lr (w.heap.size + 1) (bB fn w.heap.size a.tmps ps asx bd .ready none)) :: (KD,Dk w.heap.size) :: Γ) a ((w.alloc (.deferred (some []))).alloc (.loop (bB fn w.heap.size a.tmps ps asx bd .ready none))):=by
  have:=hs1.newb (k:=KL) (e:=Lr (w.heap.size + 1) (bB fn w.heap.size a.tmps ps asx bd .ready none)) (o:=.loop (bB fn w.heap.size a.tmps ps asx bd .ready none)) λM'=>⟨by simp,by have:=World.alloc_heap_new (w.alloc (.deferred (some []))) (.loop (bB fn w.heap.size a.tmps ps asx bd .ready none));simpa using this⟩;unfold St;rw [Ak];exact this
 let ⟨M2,φ2,hs2⟩:=hs2;have Fp:∀ t e,Ao Γ t=some e->Ao ((KL,Lr (w.heap.size + 1) (bB fn w.heap.size a.tmps ps asx bd .ready none)) :: (KD,Dk w.heap.size) :: Γ) t=some e:=λt e he=>by
  have hne1:t≠KL:=λh=>by subst h;rw [hKL] at he;cases he
  have hne2:t≠KD:=λh=>by subst h;rw [hKD] at he;cases he
  rw [Ak,Ak];simp only [put,if_neg hne1,if_neg hne2];exact he
 have hs3:=hs2.add1 (k:=KT) (e:=Tm a.tmps Γt) (F:=[]) ⟨rfl,λt e he=>by
   have h5:=hs2.holds t e (Fp t e (hΓt t e he));have h6:=hz t e he h5;rw [h6] at h5;exact h5⟩ L5 (λq hq=>by simp at hq) (λt _ _ q _ hq=>by simp at hq)
 rw [← Ak] at hs3;have kgΓ:∀ {ks:P1} {es:List Ent},(∀ k∈ks,k≠KT)->Kg (Ao Γ) ks es->Kg (Ao ((KT,Tm a.tmps Γt) :: (KL,Lr (w.heap.size + 1) (bB fn w.heap.size a.tmps ps asx bd .ready none)) :: (KD,Dk w.heap.size) :: Γ)) ks es:=by
  intro ks
  induction ks with
  | nil=>intro es _ h;cases es with
   | nil=>exact trivial
   | cons=>exact h.elim
  | cons k ks ih=>
   intro es hne h;cases es with
   | nil=>exact h.elim
   | cons e es=>exact ⟨⟨by rw [Ak];simp only [put];rw [if_neg (hne k ai)];exact Fp k e h.1.1,h.1.2⟩,ih (λq hq=>hne q (by simp [hq])) h.2⟩
 have hkg:Kg (Ao ((KT,Tm a.tmps Γt) :: (KL,Lr (w.heap.size + 1) (bB fn w.heap.size a.tmps ps asx bd .ready none)) :: (KD,Dk w.heap.size) :: Γ)) (KL :: KT :: ks) (Lr (w.heap.size + 1) (bB fn w.heap.size a.tmps ps asx bd .ready none) :: Tm a.tmps Γt :: G s0 x0):=
  ⟨⟨by rw [Ak,Ak];simp only [put];rw [if_neg (Ne.symm (d3 KT ai))];simp,inferInstance⟩,⟨by rw [Ak];simp [put],inferInstance⟩,kgΓ (λk hk=>d5 k hk) hG⟩
 let ⟨o1,o2,o3,o4⟩:=Kg.owns hs3 hkg d2;have rd0:∀ x e,Od Γ x e->Od ((KT,Tm a.tmps Γt) :: (KL,Lr (w.heap.size + 1) (bB fn w.heap.size a.tmps ps asx bd .ready none)) :: (KD,Dk w.heap.size) :: Γ) x e:=λx e h ρ M w r=>h ρ M w ⟨λt e he=>r.tmp t e (by
   have hne1:t≠KT:=λh=>by subst h;rw [hKT] at he;cases he
   rw [Ak];simp only [put,if_neg hne1];exact Fp t e he),r.con,r.fn,r.bd,r.glo⟩
 have rd3:=hs3.rd;have rdΓ:Rd (Ao Γ) M2 ((w.alloc (.deferred (some []))).alloc (.loop (bB fn w.heap.size a.tmps ps asx bd .ready none))) a.eval:=⟨λt e he=>rd3.tmp t e (by
   have hne1:t≠KT:=λh=>by subst h;rw [hKT] at he;cases he
   rw [Ak];simp only [put,if_neg hne1];exact Fp t e he),rd3.con,rd3.fn,rd3.bd,rd3.glo⟩
 let ⟨_,_,hv⟩:=hg _ _ _ rdΓ;have hcg:=hit (λs=>RE (w.heap.size + 1) fn w.heap.size a.tmps ps asx bd Γt js G s) (λ_=>⟨[_,_],rfl⟩) (w.heap.size + 1) λx s r' hr=>hbody _ fn _ a.tmps htn x s r' hr;have how:Ho M2 ((w.alloc (.deferred (some []))).alloc (.loop (bB fn w.heap.size a.tmps ps asx bd .ready none))) [RE (w.heap.size + 1) fn w.heap.size a.tmps ps asx bd Γt js G (s0,0)] ((KL :: KT :: ks).map (λt=>if t=KT then [] else φ2 t)).flatten:=
  ⟨_,[],by simp,λu=>⟨x0,o1⟩,rfl⟩
 have hcall:=hcg.2 (fs ++ ([yv (w.heap.size + 1)] ++ cs)) M2 _ _ hs3.bd ((h1 _ _ _ rdΓ).app (Ui.app (es:=[Qv (yv (w.heap.size + 1))]) ⟨⟨rfl,rfl⟩,trivial⟩ (h2 _ _ _ rdΓ))) how o2 (λk hk=>(o3 k hk).1);refine ⟨w.heap.size + 1,[fS w.heap.size],((w.alloc (.deferred (some []))).alloc (.loop (bB fn w.heap.size a.tmps ps asx bd .ready none))),{ target:=.fn (.func f) cs.toArray,args:=fs.toArray ++ #[yv (w.heap.size + 1)] },((w.alloc (.deferred (some []))).alloc (.loop (bB fn w.heap.size a.tmps ps asx bd .ready none))),f,(fs ++ ([yv (w.heap.size + 1)] ++ cs)).toArray,((w.alloc (.deferred (some []))).alloc (.loop (bB fn w.heap.size a.tmps ps asx bd .ready none))),run_enterLoop_outer fn a.tmps ps asx bd,?_,λ_ _=>trivial,?_,Ym,GA.2 (Calls.mono hcall ?_)⟩
 ·simp only [resolve,rangeCall,hv,Deferred.ofValue];simp [Act.eval,KQ]
 ·have hc:=hcg.1;cases hf:P.funcs[f]? with
  | none=>simp [da,hf] at hc
  | some fn=>
   simp only [da,hf,KU,LT] at hc;simp only [invoke,callFunc,KJ,run_program,KE,hf,hc.2];have h2:fn.body.isNone=false:=by simpa using hc.1
   have h3:fs.toArray ++ #[yv (w.heap.size + 1)] ++ cs.toArray=(fs ++ ([yv (w.heap.size + 1)] ++ cs)).toArray:=by
    apply Array.ext';simp
   rw [h2,h3];rfl
 ·rintro en w' ⟨v,Fq,rfl,hx,hnd,hF,_,hp,ho⟩;let ⟨Fa,Fb,hFab,hre,hFb⟩:=ho;have hFb:Fb=[]:=hFb;subst hFb;rw [LP] at hFab;subst hFab;let ⟨x,hox⟩:=hre undef;have hc:=hs3.called0 (js:=KL :: KT :: ks) hM hkg d2 hx hnd hF hox (by simp [hkl r.1 x]) d2 λk hk=>hk;let ⟨h5,h6⟩:=hc.putRec (K:=KL) (l:=w.heap.size + 1) (r:=bB fn w.heap.size a.tmps ps asx bd (eS r.2) (dT js r.2)) (r':=bB fn w.heap.size a.tmps ps asx bd .exhausted (dT js r.2)) (by rw [Cr,Oh];simp [put]);have hst:(bB fn w.heap.size a.tmps ps asx bd (eS r.2) (dT js r.2)).state≠.busy:=by
   show eS r.2≠.busy;cases r.2 <;> simp [eS]
  refine ⟨_,_,run_endLoop h5 hst,?_⟩;have:=hafter w.heap.size { a with defers:=[fS w.heap.size] ++ a.defers } _ x (St.marked (StF.less h6 λt e he=>?_))
  ·exact this
  ·have hn:∀ t,t≠KL->t≠KT->∀ {e},Ao (Jz (KL :: KT :: ks) (Lr (w.heap.size + 1) (bB fn w.heap.size a.tmps ps asx bd (eS r.2) (dT js r.2)) :: Tm a.tmps Γt :: G r.1 x) ((KT,Tm a.tmps Γt) :: (KL,Lr (w.heap.size + 1) (bB fn w.heap.size a.tmps ps asx bd .ready none)) :: (KD,Dk w.heap.size) :: Γ)) t=some e↔Jy ks (G r.1 x) (put KD (Dk w.heap.size) (Ao Γ)) t=some e:=by
    intro t ht1 ht2 e;rw [Cr,Oh,Oh];have e1:∀ (g:Mp),put KL (Lr (w.heap.size + 1) (bB fn w.heap.size a.tmps ps asx bd (eS r.2) (dT js r.2))) (put KT (Tm a.tmps Γt) g) t=g t:=λg=>by simp only [put,if_neg ht1,if_neg ht2]
    rw [e1];have hg:∀ e,t ∉ ks->((Ao ((KT,Tm a.tmps Γt) :: (KL,Lr (w.heap.size + 1) (bB fn w.heap.size a.tmps ps asx bd .ready none)) :: (KD,Dk w.heap.size) :: Γ)) t=some e↔put KD (Dk w.heap.size) (Ao Γ) t=some e):=λe _=>by
     rw [Ak,Ak,Ak];simp only [put,if_neg ht1,if_neg ht2]
    exact ⟨Eq (hkl r.1 x) (λe h=>(hg e h).1),Eq (hkl r.1 x) (λe h=>(hg e h).2)⟩
   rw [Ak] at he ⊢;simp only [put] at he;by_cases hD:t=KD
   ·rw [if_pos hD] at he;have ht1:t≠KL:=by rw [hD];exact Ne.symm (d1 KL ai)
    have ht2:t≠KT:=by rw [hD];exact Ne.symm (d1 KT ai)
    simp only [put,if_neg ht1];refine (hn t ht1 ht2).2 ?_;have hnk:t ∉ ks:=λh=>d1 t (by simp [h]) hD;have:∀ {ks:P1} {es:List Ent} {g:Mp},t ∉ ks->Jy ks es g t=g t:=by
     intro ks
     induction ks with
     | nil=>intro es g _;unfold Jy;rfl
     | cons k ks ih=>
      intro es g hk;cases es with
      | nil=>unfold Jy;rfl
      | cons e es=>
       unfold Jy;simp only [K8,not_or] at hk;simp only [put,if_neg hk.1];exact ih hk.2
    rw [this hnk];simp only [put,if_pos hD];exact he
   ·rw [if_neg hD] at he;have hsome:∀ K',Ao Γ K'=none->K' ∉ ks->Ao (Jz ks (G r.1 x) Γ) K'=none:=by
     intro K' h7 h8;rw [Cr];have:∀ {ks:P1} {es:List Ent} {g:Mp},K' ∉ ks->Jy ks es g K'=g K':=by
      intro ks
      induction ks with
      | nil=>intro es g _;unfold Jy;rfl
      | cons k ks ih=>
       intro es g hk;cases es with
       | nil=>unfold Jy;rfl
       | cons e es=>
        unfold Jy;simp only [K8,not_or] at hk;simp only [put,if_neg hk.1];exact ih hk.2
     rw [this h8];exact h7
    have ht1:t≠KL:=λh=>by subst h;rw [hsome t hKL (λhm=>d3 t (by simp [hm]) rfl)] at he;cases he
    have ht2:t≠KT:=λh=>by subst h;rw [hsome t hKT (λhm=>d5 t hm rfl)] at he;cases he
    simp only [put,if_neg ht1];refine (hn t ht1 ht2).2 ?_;rw [Cr] at he;exact Eq (hkl r.1 x) (λe _ h=>by simp only [put,if_neg hD];exact h) he
theorem dH {K:Fm} {fn:Func} {R:Ending->World->Prop} {tm:Array Value} {ds:List Deferred} {D KD:Nat} (hs:St (mf D K) w0 n Γ a w) (hk:Ao Γ KD=some (Dk D)) (htm:a.tmps=tm) (hds:a.defers=ds)
  (h:∀ a w,a.tmps=tm->St K w0 n ((KD,Dd) :: Γ) a w->LeavesInM (Fr none) 0 P fn tm R a.defers .returning w):LeavesInM (Fr none) 0 P fn tm R ds .returning w:=by
 let ⟨M,φ,h0⟩:=hs;have hdf:=h0.df;rw [hds] at hdf;subst hdf;let ⟨hF,hc⟩:=h0.holds KD _ hk;have hlt:=(KS.1 hc).1;refine ⟨by simp,.inl ⟨D,_,rfl,run_takeDeferred hc,?_⟩⟩;refine h { a with defers:=K.ds } _ htm ?_;have hx:Ext (λk=>k=D) w (w.putObj D (.deferred none)):=⟨rfl,rfl,rfl,by simp,λq _ hq=>World.putObj_heap_other hq,K9 _⟩;have hko:=h0.own KD (by rw [hk];rfl);have hDF:D∈φ KD:=by rw [hF];simp
 refine ⟨M,λt=>if t=KD then [] else φ t,λt e he=>?_,λt ht=>?_,λt s hts ht hs=>?_,h0.sub,λk hk=>LR (h0.bd k hk) hx.size,?_,h0.sz,rfl⟩
 ·rw [Ak] at he;unfold put at he;by_cases h3:t=KD
  ·subst h3;simp only [if_true,Option.some.injEq] at he ⊢;subst he;rfl
  ·simp only [if_neg h3] at he ⊢;refine Ent.st _ (h0.holds t e he) (hx.mono λk _ hk'=>?_);subst hk';exact ⟨(hko.2 _ hDF).1,λhm=>h0.apart t KD h3 (by rw [he];rfl) (by rw [hk];rfl) _ hm hDF⟩
 ·rw [Ak] at ht;unfold put at ht;by_cases h3:t=KD
  ·simp [h3]
  ·simp only [if_neg h3] at ht ⊢;exact h0.own t ht
 ·rw [Ak] at ht hs;unfold put at ht hs;by_cases h3:t=KD
  ·simp [h3]
  ·by_cases h4:s=KD
   ·simp [h4]
   ·simp only [if_neg h3,if_neg h4] at ht hs ⊢;exact h0.apart t s hts ht hs
 ·have hD2:=(hko.2 _ hDF).2;exact ⟨hx.os.trans h0.fr.os,hx.tape.trans h0.fr.tape,hx.output.trans h0.fr.output,LW h0.fr.size hx.size,λk hk hb=>
   (hx.block k (LR hk h0.fr.size) (λe=>by subst e;exact hD2.elim (λh=>absurd hk aa) hb)).trans (h0.fr.block k hk hb),LW h0.fr.dr hx.dr⟩
theorem jb {g:Operand} {ps:Array Tmp} {asx bd:Code} {f:FuncId} {fs cs:P2} {p1 p2:List Ent} {α X σ:Type} {pe:α->List Ent} {eo:Ent} {gb:α->σ×Nat->Option (Bool×(σ×Nat))} {r:σ×Nat} (Γt:Cx) (js:List Code) (G:σ->X->List Ent) (s0:σ) (x0:X) (KD KL KT:Nat) (ks:P1)
  (hM:Bd M0 w0) (hs:St M0 w0 n Γ a w) (hg:Od Γ g (Qv (fv f fs cs))) (h1:dM Γ fs p1) (h2:dM Γ cs p2) (hG:Kg (Ao Γ) ks (G s0 x0))
  (hd:aW (KD :: KL :: KT :: ks)=true) (hkl:∀ s x,ks.length=(G s x).length) (hΓt:∀ t e,Ao Γt t=some e->Ao Γ t=some e) (hz:lZ Γt) (hKD:Ao Γ KD=none) (hKL:Ao Γ KL=none) (hKT:Ao Γ KT=none)
  (hit:∀ (E:σ×Nat->Ent) [∀ s,Gh (E s)] (l:Nat),(∀ x s r',gb x s=some r'->Cy P l (pe x) [E s] (Rz (λ_:Unit=>Va r'.1) λ_=>[E r'.2]))->Cg P f (p1 ++ ([Qv (yv l)] ++ p2)) [E (s0,0)] (Rz (λ_:Unit=>eo) λ_=>[E r]))
  (hbody:∀ (l fn D:Nat) (tm:Array Value) (htm:tm.size=n) (x:α) (s:σ×Nat) (r':Bool×(σ×Nat)),gb x s=some r'->Cy P l (pe x) [RE l fn D tm ps asx bd Γt js G s] (Rz (λ_:Unit=>Va r'.1) λ_=>[RE l fn D tm ps asx bd Γt js G r'.2]))
  (hafter:∀ (D:Nat) (a:Act) (w:World) (x:X),St (mf D M0) w0 n ((KD,Dk D) :: Jz ks (G r.1 x) Γ) a w->mb P Q js r.2 a w) :
  (Code.rangeFunc g ps asx bd).wpIn (Fr none) 0 P Q a w:=
 qC Γt js G s0 x0 KD KL KT ks hM hs hg h1 h2 hG hd hkl hΓt hz hKD hKL hKT (λE _ _ l h=>hit E l h) hbody hafter
end
end
section
open Go.Proofs
section
variable {P:Program} {M0:Fm} {w0:World} {n:Nat} {Γ:Cx} {Q:Exit->Act->World->Prop} {a:Act} {w:World} {ty:TypeId}
theorem lnm {κ ν:Type} [Rep κ] [Rep ν] [FV κ] [FV ν] {T K E KK:Nat} {x:Operand} {r:Nat} {m:List (κ×ν)} (hx:Od Γ x (Qv (.map (some r)))) (hk:Ao Γ KK=some (Om r m)) (hT:Yo P T=some (K,E)):OR P (.call { callee:=.builtin .len,args:=#[x],argTypes:=#[T] }) ty Γ (Va (m.length:Int)):=by (refine OR.val λρ M w rd=>?_;let ⟨_,_,hv⟩:=hx ρ M w rd;let ⟨_,_,es,cl,hc,hm⟩:=rd.tmp _ _ hk;have hg:(getObj r).run P w=.ok (.map es cl) w:=MapKept.run_getObj_map hc;have hl:es.size=m.length:=by have:=congrArg List.length hm;simpa using this);refine ⟨.int .i64 m.length,λ_ _ _ _=>?_,Va.mkInt⟩;simp [execOp,hg,hl,resolve,hv,invoke,builtin,Builtin.len_,run_underlying (Hy hT),goInt]
def Rw (cs:P2):Ent where
 p F M w v:=F=[]/\∃ b,v=.slice (some ⟨b,0,none⟩) cs.length cs.length/\Cls M w b 0 cs
 st h e:=let ⟨hF,b,hv,hc⟩:=h;⟨hF,b,hv,hc.ext (e.mono λ_ _ h=>h.1)⟩
 sb h s:=let ⟨hF,b,hv,hc⟩:=h;⟨hF,b,hv,hc.sub s⟩
theorem ky {T e:Nat} {β:Type} [Rep β] [he:Ea P T e (List β)] {xs:List Operand} {cs:P2} {parts:Array (Nat×Operand)} {len:Nat}
  (h:Cdl Γ xs cs) (hp:parts.toList=bA 0 xs) (hl:cs.length=len) (hs:Nat.ble len 16777216=true):OR P (.buildSlice T len parts) ty Γ (Rw cs):=by
 refine OR.run λρ M w r=>?_;let ⟨h1,h2,h3⟩:=h.map r;let ⟨i,z,hi,hz,hsz,hb,hzs⟩:=he.inf;have hsz:i.size=1:=hsz;have hs':=KY hs;have hrun:(Instr.buildSlice T len (parts.map λ(i,x)=>(i,ρ x))).run P w=.ok (.slice (some ⟨w.heap.size,0,none⟩) len len) (w.alloc (.cells cs.toArray e)):=by
  have hpm:(parts.map λ(i,x)=>(i,ρ x)).toList=bA 0 (xs.map ρ):=by
   rw [NA,hp];have:∀ (l:List Operand) (k:Nat),List.map (λ(x:Nat×Operand)=>(x.1,ρ x.2)) (bA k l)=bA k (l.map ρ):=by
    intro l
    induction l with
    | nil=>intro k;rfl
    | cons x l ih=>intro k;simp [bA,ih]
   exact this xs 0
  have hfl2:(cs.map λc=>[c]).flatten=cs:=by
   clear hpm h h1 h2 h3 hl
   induction cs with
   | nil=>rfl
   | cons c cs ih=>simp [ih]
  have hfl:∀ zz:P2,zz.length=len * 1->Instr.fill (λi=>some (i * 1,1)) zz.toArray (bA 0 (xs.map ρ))=some cs.toArray:=by
   intro zz hzz;rw [h1];have hfl:=Jt (sz:=1) (vs:=cs) (cs:=cs.map λc=>[c]) (z:=zz) (k:=0) (Ve h2) aa;rw [hfl2] at hfl;simp only [MJ,M5,Nat.zero_mul,OB,MQ] at hfl;rw [LF aa,LP] at hfl;simpa using hfl
  have hnot:¬ (len * 1 > 2 ^ 24):=by omega
  simp only [Instr.buildSlice,KJ,run_underlying he.el,KE,sizeOf,typeInfo,run_program,hi,KQ,hsz];rw [if_neg hnot];simp only [hpm];by_cases h0:len * 1=0
  ·have hz0:(Array.map (λx=>(#[]:Array Value)[x % (#[]:Array Value).size]!) (Array.range (len * 1)))=([]:P2).toArray:=by rw [h0];simp
   rw [if_pos h0];simp only [KJ,KQ,KE,hz0];rw [hfl [] (by rw [h0];rfl)];rfl
  ·have hz1:(Array.map (λx=>z.cells[x % z.cells.size]!) (Array.range (len * 1)))=((Array.map (λx=>z.cells[x % z.cells.size]!) (Array.range (len * 1))).toList).toArray:=PJ.symm;rw [if_neg h0];simp only [zeroValue,KJ,typeInfo,run_program,hi,hz,KQ,KE];rw [hz1,hfl _ ai];rfl
 refine ⟨.slice (some ⟨w.heap.size,0,none⟩) len len,w.alloc (.cells cs.toArray e),λ_ _ _ _=>by simp only [execOp,KJ,Sem.run_map,hrun,KE,KQ],Ext.alloc _ _ _,[],L5,λk hk=>by simp at hk,rfl,w.heap.size,by rw [hl],λj v hj=>⟨λhm=>?_,?_⟩⟩
 ·rcases hm with hm | hm
  ·exact absurd (r.bd _ hm) aa
  ·simp at hm
 ·have:(w.alloc (.cells cs.toArray e)).heap[w.heap.size]?=some (.cells cs.toArray e):=heap_alloc_new w _;unfold World.cell?;rw [this];simpa using hj
def Rpl (Γ:Cx) {β:Type} [Rep β]:P2->List (List β)->Prop
 | [],[]=>True
 | c :: cs,x :: xs=>Rp Γ [c] x/\Rpl Γ cs xs
 | _,_=>False
theorem rl0 {β:Type} [Rep β]:Rpl Γ [] ([]:List (List β)):=trivial
theorem rl1 {β:Type} [Rep β] {c:Value} {cs:P2} {x:List β} {xs:List (List β)} (h:Rp Γ [c] x) (r:Rpl Γ cs xs):Rpl Γ (c :: cs) (x :: xs):=⟨h,r⟩
theorem Rpl.chk {β:Type} [Rep β] {ρ:Operand->Value} {M:Nat->Prop} {w:World} (rd:Rd (Ao Γ) M w ρ):∀ {cs:P2} {xs:List (List β)},Rpl Γ cs xs->Chk M w cs xs/\xs.length=cs.length
 | [],[],_=>⟨rfl,rfl⟩
 | c :: cs,x :: xs,⟨h,r⟩=>by
  let ⟨h1,h2⟩:=r.chk rd;exact ⟨⟨[c],cs,rfl,h ρ M w rd,h1⟩,by simp [h2]⟩
 | [],_ :: _,h=>h.elim
 | _ :: _,[],h=>h.elim
theorem kU {β:Type} [Rep β] {x:Operand} {cs:P2} {xss:List (List β)} (hx:Od Γ x (Rw cs)) (h:Rpl Γ cs xss):Od Γ x (Va xss):=λρ M w r=>by
 let ⟨_,_,b,hv,hc⟩:=hx ρ M w r;let ⟨h1,h2⟩:=h.chk r;exact ⟨[],by rw [hv,← h2];exact Va.mkList ⟨_,0,by rw [MJ],.inr ⟨b,0,rfl,h1.row hc⟩⟩⟩
@[reducible] def Sm {α β:Type} (r:α ⊕ β) (E0:α->Ent) (E1:β->Ent):Ent:=match r with | .inl a=>E0 a | .inr b=>E1 b
end
end
section
variable {rr:Option Nat}
section
variable {P:Program} {M0:Fm} {w0:World} {n:Nat} {Γ:Cx} {Q:Exit->Act->World->Prop} {a:Act} {w:World} {ty:TypeId}
def Cda (Γ:Cx):List Operand->List P2->Prop
 | [],[]=>True
 | x :: xs,c :: cs=>Od Γ x (Qa c)/\Cda Γ xs cs
 | _,_=>False
theorem ca0:Cda Γ [] []:=trivial
theorem ca1 {x:Operand} {c:P2} {xs:List Operand} {cs:List P2} (h:Od Γ x (Qa c)) (r:Cda Γ xs cs):Cda Γ (x :: xs) (c :: cs):=⟨h,r⟩
theorem Cda.map {ρ:Operand->Value} {M:Nat->Prop} {w:World} (rd:Rd (Ao Γ) M w ρ):∀ {xs:List Operand} {cs:List P2},Cda Γ xs cs->xs.map ρ=cs.map (λc=>.agg c.toArray)/\(∀ c∈cs.flatten,c.oneCell'=true)/\xs.length=cs.length
 | [],[],_=>⟨rfl,λc hc=>by simp at hc,rfl⟩
 | _ :: _,_ :: _,⟨h,r⟩=>by
  let ⟨_,_,hv,h1⟩:=h ρ M w rd;let ⟨r1,r2,r3⟩:=r.map rd;refine ⟨by rw [K4,hv,r1];rfl,λc hc=>?_,by simp [r3]⟩;rw [N1] at hc;rcases LA.1 hc with hc | hc
  ·exact h1 c hc
  ·exact r2 c hc
theorem AY {sz:Nat}:∀ {cs:List P2},(∀ c∈cs,c.length=sz)->eO sz (cs.map λc=>.agg c.toArray) cs
 | [],_=>trivial
 | c :: cs,h=>⟨rfl,h c (LO ..),AY λd hd=>h d (LK _ hd)⟩
theorem qk {T e len sz:Nat} {parts:Array (Nat×Operand)} {xs:List Operand} {css:List P2} {cs z:P2} (hp:parts.toList=bA 0 xs) (h:Cda Γ xs css) (hT:P.underlying T=some (.array len e)) (hz:(P.info? T).map (·.zero)=some (some (.agg z.toArray))) (he:(P.info? e).map (·.size)=some sz) (hl:z.length=css.length * sz)
  (hs:css.all (λc=>c.length == sz)=true) (hcs:css.flatten=cs) :
  OR P (.build T parts) ty Γ (Qa cs):=by
 refine OR.val λρ M w r=>?_;let ⟨h1,h2,h3⟩:=h.map r;refine ⟨.agg cs.toArray,λ_ _ _ _=>?_,rfl,rfl,by rw [← hcs];exact h2⟩;cases hi:P.info? T with
 | none=>simp [hi] at hz
 | some i=>
  cases hie:P.info? e with
  | none=>simp [hie] at he
  | some ie=>
   simp only [hi,hie,Option.map_some,Option.some.injEq] at hz he;have hpm:(parts.map λ(i,x)=>(i,ρ x)).toList=bA 0 (css.map λc=>.agg c.toArray):=by
    rw [NA,hp];have:∀ (l:List Operand) (k:Nat),List.map (λ(x:Nat×Operand)=>(x.1,ρ x.2)) (bA k l)=bA k (l.map ρ):=by
     intro l
     induction l with
     | nil=>intro k;rfl
     | cons x l ih=>intro k;simp [bA,ih]
    rw [← h1];exact this xs 0
   have hsz:∀ c∈css,c.length=sz:=λc hc=>by simpa using KW.1 hs c hc
   have hfl:=Jt (sz:=sz) (vs:=css.map λc=>.agg c.toArray) (cs:=css) (z:=z) (k:=0) (AY hsz) (by simp [hl]);simp only [MJ,Nat.zero_mul,OB,MQ,K5] at hfl;rw [LF aa,LP,hcs] at hfl;simp only [execOp,Instr.build,zeroValue,typeInfo,KJ,run_program,KE,hi,KQ,hz,run_underlying hT,sizeOf,hie,he,Value.cells,hpm];rw [hfl];rfl
theorem HA {T sz:TypeId} {xs:Array Value} {o:Nat} {w:World} (h:(P.underlying T).map Br=some true) (hs:(P.info? T).map (·.size)=some sz):(part T xs o).run P w=.ok (.agg (xs.extract o (o + sz))) w:=by
 have hr:(sizeOf T).run P w=.ok sz w:=by
  cases hie:P.info? T with
  | none=>simp [hie] at hs
  | some i=>simp [hie] at hs;simp [sizeOf,typeInfo,hie,hs]
 simp only [part,KJ,Ty.run_agg h,KE];simp [hr]
theorem gO {T e len sz:Nat} {x i:Operand} {m:Int} {j:Nat} {cs:P2} {cols:List P2} (h:Od Γ x (Qa cs)) (hi:Od Γ i (Va m)) (hT:P.underlying T=some (.array len e)) (he:(P.info? e).map (·.size)=some sz) (ha:(P.underlying e).map Br=some true)
  (hc:((List.range len).map λk=>(cs.drop (k * sz)).take sz)=(List.range len).map λk=>cols.map (Kh k)) (hy:idx (List.range len) m=some j):OR P (.index T x i) ty Γ (Qa (cols.map (Kh j))):=by
 refine OR.val λρ M w r=>?_;let ⟨_,_,hv,h1⟩:=h ρ M w r;let ⟨_,h2⟩:=hi ρ M w r;let ⟨hjl,h0,hlt,hj⟩:=HW hy;have hr:(sizeOf e).run P w=.ok sz w:=by
  cases hie:P.info? e with
  | none=>simp [hie] at he
  | some i=>simp [hie] at he;simp [sizeOf,typeInfo,hie,he]
 have hcj:(cs.drop (j * sz)).take sz=cols.map (Kh j):=by
  have:=congrArg (λl=>l[j]?) hc;simpa [KZ,K6 hjl] using this
 have hp:=HA (P:=P) (xs:=cs.toArray) (o:=j * sz) (w:=w) ha he;refine ⟨.agg (cs.toArray.extract (j * sz) (j * sz + sz)),λ_ _ _ _=>?_,rfl,?_,?_⟩
 ·simp only [execOp,hv,Va.int h2,Instr.index,KJ,asIntOf,KQ,KE,run_underlying hT];simp [h0,hlt,hr,hj,hp]
 ·rw [← hcj];congr 1;simp [List.extract_eq_take_drop]
 ·rw [← hcj];exact λc hc=>h1 c (OS (NO hc))
theorem qD {x:Operand} {j:Nat} {cs:P2} {xs:PZ} (h:Od Γ x (Qv (Kh j cs))) (hc:cs=xs.map λz=>.int .i64 z) (hj:j < xs.length):Od Γ x (Va (xs.getD j 0)):=λρ M w r=>by
 let ⟨F,hF,hv⟩:=h ρ M w r;refine ⟨F,hF,[.int .i64 (xs.getD j 0)],?_,rfl⟩;rw [hv,hc];simp [Kh,hj,mk]
theorem jP {S k off:Nat} {x:Operand} {cs:P2} {c:Value} (h:Od Γ x (Qa cs)) (hf:(match P.underlying S with | some (.struct fs)=>(fs[k]?).map λf=>(f.offset,(P.underlying f.type).map Br) | _=>none)=some (off,some false)) (hc:cs[off]?=some c):OR P (.field S x k) ty Γ (Qv c):=by
 refine OR.val λρ M w r=>?_;let ⟨_,_,hv,_⟩:=h ρ M w r;refine ⟨c,λ_ _ _ _=>?_,rfl,rfl⟩;cases hu:P.underlying S with
 | none=>simp [hu] at hf
 | some d=>
  cases d with
  | struct fs=>
   simp only [hu] at hf;cases hk:fs[k]? with
   | none=>simp [hk] at hf
   | some f=>
    simp only [hk,Option.map_some,Option.some.injEq,Prod.mk.injEq] at hf;let ⟨h1,h2⟩:=hf;subst h1;have hp:=Bh (P:=P) (T:=f.type) (xs:=cs.toArray) (o:=f.offset) (v:=c) (w:=w) h2 (by simpa using hc);simp only [execOp,hv,Instr.field,KJ,run_underlying hu,KE,hk,asAgg,KQ,hp]
  | _=>simp [hu] at hf
end
end
section
variable {rr:Option Nat}
def dK {α:Type} (xs:List α) (lo hi:Nat) (ys:List α):List α:=xs.take lo ++ (ys.take (min (hi - lo) ys.length) ++ xs.drop (lo + min (hi - lo) ys.length))
def mG (lo hi len:Int):Option (Nat×Nat):=if 0<=lo/\lo<=hi/\hi<=len then some (lo.toNat,hi.toNat) else none
def mL (c:Value) (lo hi:Nat):Ent where
 p F _ _ v:=F=[]/\lo<=hi/\∃ A len cap cap',c=.slice A len cap/\hi<=len/\((lo=hi/\∃ A',v=.slice A' 0 cap')\/∃ g,A=some ⟨g,0,none⟩/\v=.slice (some ⟨g,lo,none⟩) (hi - lo) (cap' + (hi - lo)))
 st h _:=h
 sb h _:=h
section
variable {P:Program} {M0:Fm} {w0:World} {n:Nat} {Γ:Cx} {Q:Exit->Act->World->Prop} {a:Act} {w:World} {ty:TypeId}
theorem Ow.num {e:Nat} {c:Value} {xs:PZ} {F:P1} {M:Nat->Prop} {w:World} {v:Value} (h:(Ow e c xs).p F M w v) :
  (xs=[]/\∃ A cap,c=.slice A 0 cap)\/∃ g cap cur,F=[g]/\c=.slice (some ⟨g,0,none⟩) xs.length cap/\w.heap[g]?=some (.cells cur e (0,0))/\xs.length<=cap/\cap<=maxLen/\cur.size=cap/\cur.toList.take xs.length=xs.map (Value.int .i64):=by
 obtain ⟨hF,cs,ho,hc⟩ | ⟨hF,rfl,g,rfl⟩:=h
 case inr=>exact .inl ⟨rfl,_,_,rfl⟩
 have hcs:cs=xs.map (Value.int .i64):=by
  clear ho
  induction xs generalizing cs with
  | nil=>exact hc
  | cons x xs ih=>
   let ⟨c1,d,h1,h2,h3⟩:=hc;have h2:c1=[.int .i64 x]:=h2;subst h2 h1;rw [ih _ h3];rfl
 rcases ho.2 with ⟨rfl,h0⟩ | ⟨g,cap,cur,rfl,_,hg,hle,hcap,hsz,htk⟩
 ·exact .inl ⟨List.eq_nil_of_length_eq_zero h0,none,0,rfl⟩
 ·refine .inr ⟨g,cap,cur,by rw [hF];rfl,rfl,hg,hle,hcap,by rw [hsz];exact M5 _,?_⟩;rw [← hcs,← htk];show _=cur.toList.take (xs.length * 1);rw [M5]
theorem Ow.mkNum {e g cap:Nat} {cur:Array Value} {xs:PZ} {M:Nat->Prop} {w:World} {v:Value} (hg:w.heap[g]?=some (.cells cur e (0,0))) (hle:xs.length<=cap) (hcap:cap<=maxLen) (hsz:cur.size=cap) (ht:cur.toList.take xs.length=xs.map (Value.int .i64)) :
  (Ow e (.slice (some ⟨g,0,none⟩) xs.length cap) xs).p [g] M w v:=by
 refine .inl ⟨rfl,xs.map (Value.int .i64),⟨by rw [K5];exact (M5 _).symm,.inr ⟨g,cap,cur,rfl,L0 _,hg,hle,hcap,by rw [hsz];exact (M5 _).symm,?_⟩⟩,?_⟩
 ·show cur.toList.take (xs.length * 1)=_;rw [M5];exact ht
 ·clear hle ht
  induction xs with
  | nil=>rfl
  | cons x xs ih=>exact ⟨[.int .i64 x],_,rfl,rfl,ih⟩
theorem qx {T e:TypeId} {x:Operand} {lo hi:Option Operand} {c:Value} {k:Nat} {xs:PZ} {l h:Int} {r:Nat×Nat} (he:P.underlying T=some (.slice (P.elem T))) (hs:(P.info? (P.elem T)).map (·.size)=some 1) (hx:Od Γ x (Qv c)) (hk:Ao Γ k=some (Ow e c xs))
  (hb:(lo=none/\l=0/\∃ y,hi=some y/\Od Γ y (Va h))\/(∃ y,lo=some y/\Od Γ y (Va l)/\hi=none/\h=xs.length)) (hr:mG l h xs.length=some r):OR P (.slice T x lo hi none) ty Γ (mL c r.1 r.2):=by
 unfold mG at hr;split at hr
 case isFalse=>cases hr
 rename_i hc;obtain rfl:=Option.some.inj hr;refine OR.val λρ M w rd=>?_;let ⟨_,_,hv⟩:=hx ρ M w rd;let ⟨F,hp⟩:=rd.tmp _ _ hk;obtain ⟨ad,cap,hcv,hcc⟩:∃ ad cap,c=.slice ad xs.length cap/\(xs=[]\/∃ g,ad=some ⟨g,0,none⟩/\xs.length<=cap):=by
  rcases Ow.num hp with ⟨h0,A,cap,hA⟩ | ⟨g,cap,cur,_,h1,_,h2,_⟩
  ·exact ⟨A,cap,by rw [hA,h0];rfl,.inl h0⟩
  ·exact ⟨_,cap,h1,.inr ⟨g,rfl,h2⟩⟩
 have hsz:∀ w,(sizeOf (P.elem T)).run P w=.ok 1 w:=λw=>by
  cases hie:P.info? (P.elem T) with
  | none=>simp [hie] at hs
  | some i=>simp [hie] at hs;simp [sizeOf,typeInfo,hie,hs]
 refine ⟨sliced ad l.toNat h.toNat cap 1,λ_ _ _ _=>?_,?_⟩
 ·rcases hb with ⟨rfl,rfl,y,rfl,hy⟩ | ⟨y,rfl,hy,rfl,rfl⟩
  ·let ⟨_,hy2⟩:=hy ρ M w rd;have hle:h<=cap:=by
    rcases hcc with h0 | ⟨_,_,h2⟩
    ·rw [h0] at hc;simp at hc;omega
    ·omega
   have:=run_slice_h w T ad xs.length cap he .i64 h hc.2.1 hle;simp only [execOp,hv,hcv,NG,Option.map_some,Va.int hy2,KJ];rw [run_sliceAt_slice _ _ _ _ _ _ he,this,hsz];try rfl
  ·let ⟨_,hy2⟩:=hy ρ M w rd;have:=run_slice_l w T ad xs.length cap he .i64 l hc.1 hc.2.1;simp only [execOp,hv,hcv,NG,Option.map_some,Va.int hy2,KJ];rw [run_sliceAt_slice _ _ _ _ _ _ he,this,hsz];try simp
 ·refine ⟨rfl,by show l.toNat<=h.toNat;omega,ad,xs.length,cap,cap - h.toNat,hcv,by show h.toNat<=_;omega,?_⟩;rcases hcc with h0 | ⟨g,rfl,h2⟩
  ·have:(xs.length:Int)=0:=by rw [h0];rfl
   have h3:l.toNat=0:=by omega
   have h4:h.toNat=0:=by omega
   exact .inl ⟨by show l.toNat=h.toNat;omega,_,by unfold sliced;rw [h3,h4]⟩
  ·by_cases hl:l.toNat=h.toNat
   ·exact .inl ⟨hl,_,by unfold sliced;rw [hl,OE]⟩
   ·refine .inr ⟨g,rfl,?_⟩;unfold sliced;rw [if_neg aa];simp [Bo];omega
theorem fA {T T':TypeId} {A:Option Addr} {dl dc:Nat} {y:Value} (he:P.underlying T=some (.slice (P.elem T))) (hs:(P.info? (P.elem T)).map (·.size)=some 1) {M:Nat->Prop} {ys:PZ} (hy:Sl M w y ys) (h0:min dl ys.length=0) :
  (Builtin.copy_ #[T,T'] ty #[.slice A dl dc,y]).run P w=.ok (goInt 0) w:=by
 obtain ⟨a,cap,rfl,hs'⟩:=hy;cases hie:P.info? (P.elem T) with
 | none=>simp [hie] at hs
 | some i=>
  have hi:i.size=1:=by simpa [hie] using hs
  have h1:Nat.min ys.length dl=0:=by rw [Nat.min_comm] at h0;exact h0
  cases a <;> cases A <;> simp [Builtin.copy_,run_underlying he,Builtin.lenOf,Builtin.firstCells,sizeOf,typeInfo,hie,hi,h1,storeCells,loadCells,loadCellsFrom]
theorem gw {xs ys:PZ} {lo hi cap:Nat} {cur:Array Value} (hlo:lo<=hi) (hhi:hi<=xs.length) (hle:xs.length<=cap) (hsz:cur.size=cap) (ht:cur.toList.take xs.length=xs.map (Value.int .i64)) :
  ((cur.toList.take lo ++ (ys.take (min (hi - lo) ys.length)).map (Value.int .i64) ++ cur.toList.drop (lo + ((ys.take (min (hi - lo) ys.length)).map (Value.int .i64)).length)).toArray.toList.take xs.length)=(dK xs lo hi ys).map (Value.int .i64):=by
 have hm:((ys.take (min (hi - lo) ys.length)).map (Value.int .i64)).length=min (hi - lo) ys.length:=by rw [K5,LJ];omega
 rw [hm];simp only [dK];generalize hmm:min (hi - lo) ys.length=m;have hm2:m<=hi - lo:=by omega
 have hm4:m<=ys.length:=by omega
 have hcl:cur.toList.length=cap:=by simp [hsz]
 have hA:(cur.toList.take lo).length=lo:=by rw [LJ];omega
 have hB:((ys.take m).map (Value.int .i64)).length=m:=by rw [K5,LJ];omega
 have hC:(xs.take lo).length=lo:=by rw [LJ];omega
 have hD:(ys.take m).length=m:=by rw [LJ];omega
 have e1:cur.toList.take lo=(xs.take lo).map (Value.int .i64):=by
  rw [List.map_take,← ht,List.take_take,PF aa]
 have e2:(cur.toList.drop (lo + m)).take (xs.length - (lo + m))=(xs.drop (lo + m)).map (Value.int .i64):=by
  rw [List.map_drop,← ht,List.drop_take]
 show List.take xs.length (cur.toList.take lo ++ (ys.take m).map (Value.int .i64) ++ cur.toList.drop (lo + m))=_;rw [List.take_append,KH,hA,hB,e2,MF (by rw [KH,hA,hB];omega),e1];simp [MD]
theorem gv {xs ys:PZ} {lo hi:Nat} (hlo:lo<=hi) (hhi:hi<=xs.length):(dK xs lo hi ys).length=xs.length:=by simp [dK];omega
theorem i8 {T T':TypeId} {e g cap lo hi dc:Nat} {cur:Array Value} {xs ys:PZ} {A2:Option Addr} {c2:Nat} (he:P.underlying T=some (.slice (P.elem T))) (hs:(P.info? (P.elem T)).map (·.size)=some 1)
  (hg:w.heap[g]?=some (.cells cur e (0,0))) (hle:xs.length<=cap) (hsz:cur.size=cap) (hlo:lo<=hi) (hhi:hi<=xs.length) (hm:min (hi - lo) ys.length≠0) (hsrc:∃ b o,A2=some ⟨b,o,none⟩/\∀ (j:Nat) y,ys[j]?=some y->w.cell? ⟨b,o + j,none⟩=some (.int .i64 y)) :
  (Builtin.copy_ #[T,T'] ty #[.slice (some ⟨g,lo,none⟩) (hi - lo) dc,.slice A2 ys.length c2]).run P w =
   .ok (goInt ((min (hi - lo) ys.length:Nat):Int)) (w.setRow g (cur.toList.take lo ++ (ys.take (min (hi - lo) ys.length)).map (Value.int .i64) ++ cur.toList.drop (lo + ((ys.take (min (hi - lo) ys.length)).map (Value.int .i64)).length)).toArray):=by (obtain ⟨b,o,rfl,hsrc⟩:=hsrc;have hl:((ys.take (min (hi - lo) ys.length)).map (Value.int .i64)).length=min (hi - lo) ys.length:=by rw [K5,LJ];omega);have:=run_copy_row (P:=P) w T T' ty (P.elem T) g lo (hi - lo) dc ⟨b,o,none⟩ ys.length c2 cur e ((ys.take (min (hi - lo) ys.length)).map (Value.int .i64)) he hs hg (by rw [hl];exact Nat.min_comm _ _) (λj v hj=>by rw [KZ] at hj;obtain ⟨y,hy,rfl⟩:=N4.1 hj;rw [Bo];refine hsrc j y ?_;rw [OJ] at hy;split at hy;exact hy;cases hy) (by rw [hl];omega) (λv hv=>by obtain ⟨y,_,rfl⟩:=K7.1 hv;rfl);rw [this,hl]
theorem qW {ops:Array Oper} {rest:List Oper} {T T' e k d:Nat} {x y:Operand} {pos:String} {ag:Array Edge} {c:Value} {lo hi:Nat} {xs ys:PZ}
  (he:P.underlying T=some (.slice (P.elem T))) (hs1:(P.info? (P.elem T)).map (·.size)=some 1) (hs:St M0 w0 n Γ a w) (hx:Od Γ x (mL c lo hi)) (hk:Ao Γ k=some (Ow e c xs))
  (hy:∀ F M,(Ow e c xs).p F M w undef->(∀ ρ,Rd (Ao Γ) M w ρ->Sl No w (ρ y) ys\/Sl M w (ρ y) ys)) (hn:Nat.blt d n=true) (hdk:Nat.beq d k=false)
  (cont:∀ a' w',St M0 w0 n ((d,Va ((min (hi - lo) ys.length:Nat):Int)) :: (k,Ow e c (dK xs lo hi ys)) :: Γ) a' w'->wpListIn (Fr rr) 0 P ops Q rest a' w') :
  wpListIn (Fr rr) 0 P ops Q (⟨some d,.call { callee:=.builtin .copy,args:=#[x,y],argTypes:=#[T,T'] },ty,pos,ag,none⟩ :: rest) a w:=by (refine wpListIn_plain rfl λK hK=>?_;let ⟨M,φ,h⟩:=hs;let ⟨_,_,hlh,A,len,cap,cap',hc,hhl,hv⟩:=hx _ _ _ h.rd;have hp:=h.holds k _ hk;have hgh:(Ow e c xs).p (φ k) M w undef:=hp;have hsl:∃ MM,Sl MM w (a.eval y) ys:=by (rcases hy (φ k) M hgh a.eval h.rd with h1 | h1);exact ⟨_,h1⟩;exact ⟨_,h1⟩);(let ⟨MM,hsl⟩:=hsl;have fin:∀ w' (e':Ent),StF M0 w0 n (put k e' (Ao Γ)) a w'->St M0 w0 n ((d,Va ((min (hi - lo) ys.length:Nat):Int)) :: (k,e') :: Γ) (a.put (some d) (.int .i64 ((min (hi - lo) ys.length:Nat):Int))) w':=by intro w' e' ⟨M',φ',h'⟩;unfold St;rw [Ak,Ak];exact h'.gives ⟨Ext.refl _ _,[],L5,λq hq=>by simp at hq,rfl,_,rfl,rfl⟩ (KY hn));by_cases hm:min (hi - lo) ys.length=0;(have hcp:dK xs lo hi ys=xs:=by simp [dK,hm]);(have hdv:∃ A' dl dc,a.eval x=.slice A' dl dc/\dl=hi - lo:=by (rcases hv with ⟨h1,A',h2⟩ | ⟨g,h1,h2⟩);exact ⟨A',0,cap',h2,by omega⟩;exact ⟨_,_,_,h2,rfl⟩);let ⟨A',dl,dc,hdv,hdl⟩:=hdv;have hr:=fA (P:=P) (T:=T) (T':=T') (ty:=ty) (A:=A') (dl:=dl) (dc:=dc) (w:=w) he hs1 hsl (by rw [hdl];exact hm);refine Bk.upon (Bk.val (v:=.int .i64 0) (w':=w) ?_ ?_);simp only [execOp,resolve,invoke,builtin,KJ,KQ,KE,LH,K4,LQ,hdv,hr];rfl;refine hK _ _ (cont _ _ ?_);have:=fin w (Ow e c (dK xs lo hi ys)) (StF.less ⟨M,φ,h⟩ λt e he=>by unfold put at he;split at he;rename_i ht;rw [hcp] at he;rw [ht,hk];exact he;exact he);rw [hm] at this ⊢;exact this;(rcases Ow.num hp with ⟨h0,A',cap2,hA⟩ | ⟨g,cap2,cur,hF,hcg,hg,hle,hcap,hsz,htk⟩);rw [hA] at hc;injection hc with _ hl _;omega;(have hcx:=hc;rw [hcg] at hcx;injection hcx with hA hl _;have hdv:a.eval x=.slice (some ⟨g,lo,none⟩) (hi - lo) (cap' + (hi - lo)):=by (rcases hv with ⟨h1,_⟩ | ⟨g',h1,h2⟩);omega;(rw [← hA] at h1;have:g'=g:=by injection h1 with h1;injection h1 with h1;exact h1.symm);rw [h2,this]);(let ⟨A2,c2,hyv,hys⟩:=hsl;have hsrc:∃ b o,A2=some ⟨b,o,none⟩/\∀ (j:Nat) y,ys[j]?=some y->w.cell? ⟨b,o + j,none⟩=some (.int .i64 y):=by (rcases hys with h1 | ⟨b,o,h1,h2⟩);rw [h1] at hm;simp at hm;refine ⟨b,o,h1,λj y hj=>?_⟩;let ⟨cs,hcs,hr⟩:=h2.get hj;have hr:cs=[.int .i64 y]:=hr;subst hr;have:=(hcs 0 _ rfl).2;have hsz1:j * Rep.sz Int=j:=M5 j;rw [hsz1] at this;simpa using this);have hr:=i8 (P:=P) (T:=T) (T':=T') (ty:=ty) (dc:=cap' + (hi - lo)) (c2:=c2 + ys.length) he hs1 hg hle hsz hlh aa hm hsrc;refine Bk.upon (Bk.val ?_ (v:=.int .i64 ((min (hi - lo) ys.length:Nat):Int)) (w':=w.setRow g (cur.toList.take lo ++ (ys.take (min (hi - lo) ys.length)).map (Value.int .i64) ++ cur.toList.drop (lo + ((ys.take (min (hi - lo) ys.length)).map (Value.int .i64)).length)).toArray) ?_);simp only [execOp,resolve,invoke,builtin,KJ,KQ,KE,LH,K4,LQ,hdv,hyv,hr];rfl;(refine hK _ _ (cont _ _ (fin _ _ ?_));refine h.write (b:=g) (by rw [hk];rfl) (by rw [hF];simp) (Ext.setRow w g _) ?_;have hlen:=gv (ys:=ys) hlh (show hi<=xs.length by omega);have hcl:cur.toList.length=cap2:=by rw [PP,hsz]);(have hsz2:(cur.toList.take lo ++ (ys.take (min (hi - lo) ys.length)).map (Value.int .i64) ++ cur.toList.drop (lo + ((ys.take (min (hi - lo) ys.length)).map (Value.int .i64)).length)).toArray.size=cap2:=by rw [NF,KH,KH,NT,K5,LJ,LJ,hcl];omega);have:=Ow.mkNum (e:=e) (g:=g) (cap:=cap2) (xs:=dK xs lo hi ys) (M:=M) (v:=a.get k) (setRow_heap w g cur _ e _ hg) aa hcap hsz2 (by rw [hlen];exact gw hlh aa hle hsz htk);rw [hF,hcg];rw [hlen] at this;exact this
theorem cpW {ops:Array Oper} {rest:List Oper} {T T' e k d:Nat} {x y:Operand} {pos:String} {ag:Array Edge} {c:Value} {xs ys:PZ}
  (hs:St M0 w0 n Γ a w) (hx:Od Γ x (Qv c)) (hk:Ao Γ k=some (Ow e c xs)) (hy:Od Γ y (Va ys)) (he:P.underlying T=some (.slice (P.elem T))) (hs1:(P.info? (P.elem T)).map (·.size)=some 1) (hn:Nat.blt d n=true) (hdk:Nat.beq d k=false)
  (cont:∀ a' w',St M0 w0 n ((d,Va ((min (xs.length - 0) ys.length:Nat):Int)) :: (k,Ow e c (dK xs 0 xs.length ys)) :: Γ) a' w'->wpListIn (Fr rr) 0 P ops Q rest a' w') :
  wpListIn (Fr rr) 0 P ops Q (⟨some d,.call { callee:=.builtin .copy,args:=#[x,y],argTypes:=#[T,T'] },ty,pos,ag,none⟩ :: rest) a w:=
 qW he hs1 hs (λρ M w r=>by
  let ⟨F,hF,hv⟩:=hx ρ M w r;let ⟨F2,hp⟩:=r.tmp _ _ hk;refine ⟨[],rfl,L0 _,?_⟩;rcases Ow.num hp with ⟨h0,A',cap2,hA⟩ | ⟨g,cap2,cur,_,hcg,_,hle,_⟩
  ·exact ⟨A',0,cap2,cap2,hA,by rw [h0];exact K9 _,.inl ⟨by rw [h0];rfl,A',by rw [hv,hA]⟩⟩
  ·exact ⟨_,_,cap2,cap2 - xs.length,hcg,K9 _,.inr ⟨g,rfl,by rw [hv,hcg,Nat.sub_zero,OL hle]⟩⟩) hk (λF M _ ρ rd=>by
  let ⟨_,h1⟩:=hy ρ M w rd;exact .inr (Va.list h1)) hn hdk cont
theorem cpS {ops:Array Oper} {rest:List Oper} {T T' e k d:Nat} {x y:Operand} {pos:String} {ag:Array Edge} {c:Value} {xs:PZ} {lo hi lo2 hi2:Nat}
  (hs:St M0 w0 n Γ a w) (hx:Od Γ x (mL c lo hi)) (hk:Ao Γ k=some (Ow e c xs)) (hy:Od Γ y (mL c lo2 hi2)) (he:P.underlying T=some (.slice (P.elem T))) (hs1:(P.info? (P.elem T)).map (·.size)=some 1) (hn:Nat.blt d n=true) (hdk:Nat.beq d k=false)
  (cont:∀ a' w',St M0 w0 n ((d,Va ((min (hi - lo) ((xs.drop lo2).take (hi2 - lo2)).length:Nat):Int)) :: (k,Ow e c (dK xs lo hi ((xs.drop lo2).take (hi2 - lo2)))) :: Γ) a' w'->wpListIn (Fr rr) 0 P ops Q rest a' w') :
  wpListIn (Fr rr) 0 P ops Q (⟨some d,.call { callee:=.builtin .copy,args:=#[x,y],argTypes:=#[T,T'] },ty,pos,ag,none⟩ :: rest) a w:=
 qW he hs1 hs hx hk (λF M hp ρ rd=>by
  let ⟨_,_,hlh,A,len,cap,cap',hc,hhl,hv⟩:=hy ρ M w rd;refine .inl ?_;rcases Ow.num hp with ⟨h0,A',cap2,hA⟩ | ⟨g,cap2,cur,hF,hcg,hg,hle,hcap,hsz,htk⟩
  ·rw [hA] at hc;injection hc with _ hl _;rcases hv with ⟨_,A',h2⟩ | ⟨g,_,h2⟩
   ·exact ⟨A',cap',by rw [h2,h0];simp,.inl (by rw [h0];simp)⟩
   ·have e3:hi2 - lo2=0:=by omega
    exact ⟨_,cap',by rw [h2,h0,e3];rfl,.inl (by rw [h0];simp)⟩
  ·rw [hcg] at hc;injection hc with hA hl _;have hlen:((xs.drop lo2).take (hi2 - lo2)).length=hi2 - lo2:=by simp;omega
   rcases hv with ⟨h1,A',h2⟩ | ⟨g',h1,h2⟩
   ·have h3:(xs.drop lo2).take (hi2 - lo2)=[]:=MN aa;exact ⟨A',cap',by rw [h2,h3];rfl,.inl h3⟩
   ·rw [← hA] at h1;have hgg:g'=g:=by injection h1 with h1;injection h1 with h1;exact h1.symm
    subst hgg;refine ⟨_,cap',by rw [h2,hlen],.inr ⟨g',lo2,rfl,Row.of_get λi y hi=>?_⟩⟩;have hsz1:i * Rep.sz Int=i:=M5 i;rw [hsz1];refine ⟨[.int .i64 y],λj v hj=>⟨λhno=>hno,?_⟩,rfl⟩;cases j with
    | succ j=>simp at hj
    | zero=>
     simp only [List.getElem?_cons_zero,Option.some.injEq] at hj;subst hj;have hi':i < hi2 - lo2:=by rw [← hlen];exact (KG.1 hi).1
     rw [LN hi',N5] at hi;have h5:cur.toList[lo2 + i]?=some (.int .i64 y):=by
      have h6:(cur.toList.take xs.length)[lo2 + i]?=some (.int .i64 y):=by rw [htk,KZ,hi];rfl
      rwa [LN aa] at h6
     simp only [World.cell?,hg,NS];simpa using h5) hn hdk cont
end
end
section
variable {rr:Option Nat}
def Si (b:Nat) (s:P3) (pos:Int):Ent where
 p F _ w _:=F=[b]/\0<=pos/\w.heap[b]?=some (.stringIter s pos.toNat)
 st h e:=by
  obtain ⟨rfl,h0,h⟩:=h;exact ⟨rfl,h0,by rw [e.block b (KS.1 h).1 ai];exact h⟩
 sb h _:=h
def SI (s:P3):Ent where
 p F M w v:=∃ b,v=pb b 0/\(Si b s 0).p F M w v
 st h e:=let ⟨b,hv,h⟩:=h;⟨b,hv,(Si b s 0).st h e⟩
 sb h s':=let ⟨b,hv,h⟩:=h;⟨b,hv,(Si b s 0).sb h s'⟩
def kM (s:P3) (pos:Int):Kd .i32:=⟨((Utf8.decode s pos.toNat).1:Nat)⟩
def dQ (s:P3) (pos:Int):Int:=if pos < s.size then pos + (Utf8.decode s pos.toNat).2 else pos
def Nx (s:P3) (pos:Int):Ent where
 p F _ _ v:=F=[]/\(pos < s.size->v=.tuple #[.bool true,.int .i64 pos,.int .i32 (Utf8.decode s pos.toNat).1])/\(¬ pos < s.size->v=.tuple #[.bool false])
 st h _:=h
 sb h _:=h
section
variable {P:Program} {M0:Fm} {w0:World} {n:Nat} {Γ:Cx} {Q:Exit->Act->World->Prop} {a:Act} {w:World} {ty:TypeId}
theorem rgs {T:TypeId} {x:Operand} {s:P3} (hx:Od Γ x (Va s)) (hT:P.underlying T=some .string):OR P (.range T x) ty Γ (SI s):=by refine OR.run λρ M w r=>?_;let ⟨_,hv⟩:=hx ρ M w r;refine ⟨pb w.heap.size 0,w.alloc (.stringIter s 0),λ_ _ _ _=>?_,Ext.alloc _ _ _,[w.heap.size],by simp,λk hk=>?_,w.heap.size,rfl,rfl,PO _,heap_alloc_new w _⟩;simp only [execOp,Va.str hv,KJ,run_range_string w T s hT,KE,KQ];rfl;simp at hk;subst hk;exact ⟨Nat.le_refl _,by simp⟩
theorem mT {ops:Array Oper} {rest:List Oper} {d:Nat} {op:Op} {pos:String} {ag:Array Edge} {s:P3} (K:Nat)
  (hs:St M0 w0 n Γ a w) (ho:OR P op ty Γ (SI s)) (hn:Nat.blt d n=true) (hdk:Nat.beq d K=false)
  (k:∀ b a' w',St M0 w0 n ((d,Qv (pb b 0)) :: (K,Si b s 0) :: (d,SI s) :: Γ) a' w'->wpListIn (Fr rr) 0 P ops Q rest a' w'):wpListIn (Fr rr) 0 P ops Q (⟨some d,op,ty,pos,ag,none⟩ :: rest) a w:=
 sq hs ho hn λa' w' s'=>by
  let ⟨M,φ,h⟩:=s';let ⟨b,hv,hb⟩:=h.holds d (SI s) (by simp [Ao]);refine k b a' w' ?_;unfold St;rw [Fp];exact h.split (by simp [Ao]) (LU hdk) ⟨rfl,hv⟩ hb
theorem nxs {ops:Array Oper} {rest:List Oper} {d K:Nat} {x:Operand} {T:TypeId} {p:String} {ag:Array Edge} {b:Nat} {s:P3} {pos:Int}
  (hs:St M0 w0 n Γ a w) (hx:Od Γ x (Qv (pb b 0))) (hk:Ao Γ K=some (Si b s pos)) (hn:Nat.blt d n=true) (hdk:Nat.beq d K=false)
  (k:∀ a' w',St M0 w0 n ((d,Nx s pos) :: (K,Si b s (dQ s pos)) :: Γ) a' w'->wpListIn (Fr rr) 0 P ops Q rest a' w'):wpListIn (Fr rr) 0 P ops Q (⟨some d,.next x true,T,p,ag,none⟩ :: rest) a w:=by refine wpListIn_plain rfl λKc hK=>?_;let ⟨M,φ,h⟩:=hs;let ⟨_,_,hv⟩:=hx _ _ _ h.rd;let ⟨hF,h0,hc⟩:=h.holds K _ hk;have hlt:=(KS.1 hc).1;by_cases hp:pos < s.size;(have hp':pos.toNat < s.size:=by omega);(have hrun:(Instr.next (pb b 0) true T).run P w=.ok (.tuple #[.bool true,.int .i64 pos,.int .i32 (Utf8.decode s pos.toNat).1]) { w with heap:=w.heap.setIfInBounds b (.stringIter s (pos.toNat + (Utf8.decode s pos.toNat).2)) }:=by (simp only [Instr.next,getObj,setObj,KJ,Sem.run,hc,Result.andThen,hp',if_true];simp only [goInt,Sem.run];have:((pos.toNat:Nat):Int)=pos:=by omega);simp [this]);refine Bk.upon (Bk.val (v:=.tuple #[.bool true,.int .i64 pos,.int .i32 (Utf8.decode s pos.toNat).1]) (w':={ w with heap:=w.heap.setIfInBounds b (.stringIter s (pos.toNat + (Utf8.decode s pos.toNat).2)) }) ?_ ?_);simp only [execOp,hv,KJ,hrun,KE,KQ];(refine hK _ _ (k _ _ ?_);have h1:StF M0 w0 n (put K (Si b s (dQ s pos)) (Ao Γ)) a { w with heap:=w.heap.setIfInBounds b (.stringIter s (pos.toNat + (Utf8.decode s pos.toNat).2)) }:=by refine h.write (b:=b) (by rw [hk];rfl) (by rw [hF];simp) ⟨rfl,rfl,rfl,by simp,λq _ hq=>by simp only [ND];rw [if_neg (λe=>hq e.symm)],K9 _⟩ ⟨hF,?_,?_⟩;unfold dQ;rw [if_pos hp];omega;(have e1:(dQ s pos).toNat=pos.toNat + (Utf8.decode s pos.toNat).2:=by unfold dQ;rw [if_pos hp];omega);rw [e1];simp only [ND,if_true];rw [if_pos hlt]);let ⟨M',φ',h1⟩:=h1;unfold St;rw [Ak,Ak];exact h1.gives ⟨Ext.refl _ _,[],L5,λq hq=>by simp at hq,rfl,λ_=>rfl,λhh=>absurd hp hh⟩ (KY hn);(have hp':¬ pos.toNat < s.size:=by omega);(have hrun:(Instr.next (pb b 0) true T).run P w=.ok (.tuple #[.bool false]) w:=by simp [Instr.next,getObj,Sem.run,hc,hp']);refine Bk.upon (Bk.val (v:=.tuple #[.bool false]) (w':=w) ?_ ?_);simp only [execOp,hv,KJ,hrun,KE,KQ];(refine hK _ _ (k _ _ ?_);have e1:dQ s pos=pos:=by unfold dQ;rw [if_neg hp]);(rw [e1];have h1:StF M0 w0 n (put K (Si b s pos) (Ao Γ)) a w:=StF.less ⟨M,φ,h⟩ λt e he=>by unfold put at he;split at he;rename_i ht;rw [ht,hk];exact he;exact he);let ⟨M',φ',h1⟩:=h1;unfold St;rw [Ak,Ak];exact h1.gives ⟨Ext.refl _ _,[],L5,λq hq=>by simp at hq,rfl,λhh=>absurd hh hp,λ_=>rfl⟩ (KY hn)
theorem nx0 {x:Operand} {s:P3} {pos:Int} (h:Od Γ x (Nx s pos)):OR P (.extract x 0) ty Γ (Va (decide (pos < (s.size:Int)))):=OR.val λρ M w r=>by
 let ⟨_,_,h1,h2⟩:=h ρ M w r;by_cases hp:pos < s.size
 ·exact ⟨.bool true,λ_ _ _ _=>by simp only [execOp,h1 hp];rfl,by rw [decide_eq_true hp];exact Va.mkBool⟩
 ·exact ⟨.bool false,λ_ _ _ _=>by simp only [execOp,h2 hp];rfl,by rw [decide_eq_false hp];exact Va.mkBool⟩
theorem nx1 {x:Operand} {s:P3} {pos:Int} (h:Od Γ x (Nx s pos)) (hb:decide (pos < (s.size:Int))=true):OR P (.extract x 1) ty Γ (Va pos):=OR.val λρ M w r=>by
 let ⟨_,_,h1,_⟩:=h ρ M w r;have hp:pos < s.size:=by simpa using hb
 exact ⟨.int .i64 pos,λ_ _ _ _=>by simp only [execOp,h1 hp];rfl,Va.mkInt⟩
theorem nx2 {x:Operand} {s:P3} {pos:Int} (h:Od Γ x (Nx s pos)) (hb:decide (pos < (s.size:Int))=true):OR P (.extract x 2) ty Γ (Va (kM s pos)):=OR.val λρ M w r=>by
 let ⟨_,_,h1,_⟩:=h ρ M w r;have hp:pos < s.size:=by simpa using hb
 exact ⟨.int .i32 (Utf8.decode s pos.toNat).1,λ_ _ _ _=>by simp only [execOp,h1 hp];rfl,Ik.mkv (x:=kM s pos)⟩
end
end
section
variable {rr:Option Nat}
def InO (e:TypeId) (M:Nat->Prop) (w:World):P2->List (Option PZ)->P1->Prop
 | [],[],F=>F=[]
 | c :: cs,none :: xs,F=>c.oneCell'=true/\InO e M w cs xs F
 | c :: cs,some x :: xs,F=>∃ F1 F2,F=F1 ++ F2/\(Ow e c x).p F1 M w undef/\InO e M w cs xs F2
 | _,_,_=>False
theorem InO.st {e:TypeId} {M:Nat->Prop} {w w':World}:∀ {cs:P2} {xs:List (Option PZ)} {F:P1},InO e M w cs xs F->Ext (λk=>M k/\k ∉ F) w w'->InO e M w' cs xs F
 | [],[],_,h,_=>h
 | _ :: _,none :: _,_,⟨h0,h⟩,x=>⟨h0,h.st x⟩
 | _ :: _,some _ :: _,_,⟨F1,F2,hF,h1,h2⟩,x=>⟨F1,F2,hF,Ent.st _ h1 (x.mono λk _ hk=>⟨hk.1,λhm=>hk.2 (by rw [hF];exact LD _ hm)⟩),h2.st (x.mono λk _ hk=>⟨hk.1,λhm=>hk.2 (by rw [hF];exact LC _ hm)⟩)⟩
 | [],_ :: _,_,h,_=>by simp [InO] at h
 | _ :: _,[],_,h,_=>by simp [InO] at h
theorem InO.sb {e:TypeId} {M M':Nat->Prop} {w:World}:∀ {cs:P2} {xs:List (Option PZ)} {F:P1},InO e M w cs xs F->(∀ k,k < w.heap.size->M' k->M k)->InO e M' w cs xs F
 | [],[],_,h,_=>h
 | _ :: _,none :: _,_,⟨h0,h⟩,x=>⟨h0,h.sb x⟩
 | _ :: _,some _ :: _,_,⟨F1,F2,hF,h1,h2⟩,x=>⟨F1,F2,hF,Ent.sb _ h1 x,h2.sb x⟩
 | [],_ :: _,_,h,_=>by simp [InO] at h
 | _ :: _,[],_,h,_=>by simp [InO] at h
theorem InO.focus {e:TypeId} {M:Nat->Prop} {w:World}:∀ {cs:P2} {xs:List (Option PZ)} {F:P1} {k:Nat} {x:PZ},InO e M w cs xs F->xs[k]?=some (some x) ->
  ∃ c F1 F2,cs[k]?=some c/\(Ow e c x).p F1 M w undef/\InO e M w cs (xs.set k none) F2/\F.Perm (F1 ++ F2)
 | [],[],_,k,x,_,h=>by simp at h
 | c :: cs,none :: xs,F,0,x,_,h=>by simp at h
 | c :: cs,none :: xs,F,k + 1,x,⟨h0,h⟩,hk=>by
  obtain ⟨c',F1,F2,h1,h2,h3,h4⟩:=InO.focus (k:=k) h (by simpa using hk);exact ⟨c',F1,F2,by simpa using h1,h2,⟨h0,h3⟩,h4⟩
 | c :: cs,some y :: xs,F,0,x,⟨F1,F2,hF,h1,h2⟩,hk=>by
  have:y=x:=by simpa using hk
  subst this;refine ⟨c,F1,F2,by simp,h1,⟨?_,h2⟩,by rw [hF]⟩;obtain ⟨_,cs',ho,_⟩ | ⟨_,_,g,hc⟩:=h1
  ·rcases ho.2 with ⟨hc,_⟩ | ⟨_,_,_,hc,_⟩ <;> rw [hc] <;> rfl
  ·rw [hc];rfl
 | c :: cs,some y :: xs,F,k + 1,x,⟨Fa,Fb,hF,h1,h2⟩,hk=>by
  obtain ⟨c',F1,F2,q1,q2,q3,q4⟩:=InO.focus (k:=k) h2 (by simpa using hk);refine ⟨c',F1,Fa ++ F2,by simpa using q1,q2,⟨Fa,F2,rfl,h1,q3⟩,?_⟩;rw [hF];refine (List.Perm.append_left Fa q4).trans ?_;rw [← K3,← K3];exact List.Perm.append_right F2 List.perm_append_comm
 | [],_ :: _,_,_,_,h,_=>by simp [InO] at h
 | _ :: _,[],_,_,_,h,_=>by simp [InO] at h
theorem InO.close {e:TypeId} {M:Nat->Prop} {w:World}:∀ {cs:P2} {xs:List (Option PZ)} {F F1:P1} {k:Nat} {c:Value} {x:PZ},InO e M w cs xs F->xs[k]?=some none->cs[k]?=some c->(Ow e c x).p F1 M w undef ->
  ∃ F',InO e M w cs (xs.set k (some x)) F'/\F'.Perm (F1 ++ F)
 | [],[],_,_,k,c,x,_,h,_,_=>by simp at h
 | c :: cs,none :: xs,F,F1,0,c',x,⟨h0,h⟩,_,hc,hp=>by
  have:c=c':=by simpa using hc
  subst this;exact ⟨F1 ++ F,⟨F1,F,rfl,hp,h⟩,List.Perm.refl _⟩
 | c :: cs,none :: xs,F,F1,k + 1,c',x,⟨h0,h⟩,hk,hc,hp=>by
  let ⟨F',h1,h2⟩:=InO.close (k:=k) h (by simpa using hk) (by simpa using hc) hp;exact ⟨F',⟨h0,h1⟩,h2⟩
 | c :: cs,some y :: xs,F,F1,0,c',x,_,hk,_,_=>by simp at hk
 | c :: cs,some y :: xs,F,F1,k + 1,c',x,⟨Fa,Fb,hF,h1,h2⟩,hk,hc,hp=>by
  let ⟨F',q1,q2⟩:=InO.close (k:=k) h2 (by simpa using hk) (by simpa using hc) hp;refine ⟨Fa ++ F',⟨Fa,F',rfl,h1,q1⟩,?_⟩;rw [hF];refine (List.Perm.append_left Fa q2).trans ?_;rw [← K3,← K3];exact List.Perm.append_right Fb List.perm_append_comm
 | [],_ :: _,_,_,_,_,_,h,_,_,_=>by simp [InO] at h
 | _ :: _,[],_,_,_,_,_,h,_,_,_=>by simp [InO] at h
theorem InO.setc {e:TypeId} {M:Nat->Prop} {w:World} {v:Value} (hv:v.oneCell'=true):∀ {cs:P2} {xs:List (Option PZ)} {F:P1} {k:Nat},InO e M w cs xs F->xs[k]?=some none->InO e M w (cs.set k v) xs F
 | [],[],_,k,_,h=>by simp at h
 | c :: cs,none :: xs,F,0,⟨h0,h⟩,_=>⟨hv,h⟩
 | c :: cs,none :: xs,F,k + 1,⟨h0,h⟩,hk=>⟨h0,InO.setc hv h (by simpa using hk)⟩
 | c :: cs,some y :: xs,F,0,_,hk=>by simp at hk
 | c :: cs,some y :: xs,F,k + 1,⟨Fa,Fb,hF,h1,h2⟩,hk=>⟨Fa,Fb,hF,h1,InO.setc hv h2 (by simpa using hk)⟩
 | [],_ :: _,_,_,h,_=>by simp [InO] at h
 | _ :: _,[],_,_,h,_=>by simp [InO] at h
def Oo (e2 e:TypeId) (c:Value) (xss:List (Option PZ)):Ent where
 p F M w _:=∃ g cap cur F',F.Perm (g :: F')/\c=.slice (some ⟨g,0,none⟩) xss.length cap/\w.heap[g]?=some (.cells cur e2 (0,0))/\xss.length<=cap/\cap<=maxLen/\cur.size=cap/\InO e M w (cur.toList.take xss.length) xss F'
 st h x:=by
  let ⟨g,cap,cur,F',hF,hc,hg,h1,h2,h3,h4⟩:=h;refine ⟨g,cap,cur,F',hF,hc,?_,h1,h2,h3,h4.st (x.mono λk _ hk=>⟨hk.1,λhm=>hk.2 (hF.mem_iff.2 (LK _ hm))⟩)⟩;rw [x.block g (KS.1 hg).1 λhm=>hm.2 (hF.mem_iff.2 (LO ..))];exact hg
 sb h s:=let ⟨g,cap,cur,F',hF,hc,hg,h1,h2,h3,h4⟩:=h;⟨g,cap,cur,F',hF,hc,hg,h1,h2,h3,h4.sb s⟩
def OO (e2 e:TypeId) (xss:List (Option PZ)):Ent where
 p F M w v:=(Oo e2 e v xss).p F M w v
 st h x:=(Oo e2 e _ xss).st h x
 sb h s:=(Oo e2 e _ xss).sb h s
section
variable {P:Program} {M0:Fm} {w0:World} {n:Nat} {Γ:Cx} {Q:Exit->Act->World->Prop} {a:Act} {w:World} {ty:TypeId}
theorem StM.split3 {g:Mp} {M:Nat->Prop} {φ:Nat->P1} {d k:Nat} {e1 e2:Ent} {F1 F2:P1} (h:StM M0 w0 n g a w M φ) (hd:(g d).isSome=true) (hne:d≠k) (hF:(φ d).Perm (F2 ++ F1))
  (h1:e1.p F1 M w (a.get d)) (h2:e2.p F2 M w (a.get k)):StF M0 w0 n (put d e1 (put k e2 g)) a w:=by (have h':StM M0 w0 n (put d ⟨λF _ _ _=>F=F2 ++ F1,λh _=>h,λh _=>h⟩ g) a w M (λt=>if t=d then F2 ++ F1 else φ t):=by refine ⟨λt e he=>?_,λt ht=>?_,λt s hts ht hs=>?_,h.sub,h.bd,h.fr,h.sz,h.df⟩;unfold put at he;by_cases h3:t=d;subst h3;simp only [if_true,Option.some.injEq] at he ⊢;subst he;rfl;simp only [if_neg h3] at he ⊢;exact h.holds t e he;by_cases h3:t=d;subst h3;simp only [if_true];have:=h.own t hd;exact ⟨hF.nodup_iff.1 this.1,λk hk=>this.2 k (hF.mem_iff.2 hk)⟩;simp only [put,if_neg h3] at ht ⊢;exact h.own t ht;by_cases h3:t=d;subst h3;simp only [if_true,if_neg (Ne.symm hts)];simp only [put,if_neg (Ne.symm hts)] at hs;exact λq hq=>h.apart t s hts hd hs q (hF.mem_iff.2 hq);by_cases h4:s=d;subst h4;simp only [if_true,if_neg h3];simp only [put,if_neg h3] at ht;exact λq hq hm=>h.apart t s hts ht hd q hq (hF.mem_iff.2 hm);simp only [put,if_neg h3,if_neg h4] at ht hs ⊢;exact h.apart t s hts ht hs);have:=h'.split2 (d:=d) (k:=k) (e1:=e1) (e2:=e2) (F1:=F1) (F2:=F2) (by simp [put]) hne ai h1 h2;refine StF.less this λt e he=>?_;unfold put at he ⊢;by_cases h3:t=d;rw [if_pos h3] at he ⊢;exact he;rw [if_neg h3] at he ⊢;by_cases h4:t=k;rw [if_pos h4] at he ⊢;exact he;rw [if_neg h4] at he ⊢;rw [if_neg h3];exact he
theorem StM.merge {g:Mp} {M:Nat->Prop} {φ:Nat->P1} {d k:Nat} {e:Ent} {F:P1} (h:StM M0 w0 n g a w M φ) (hd:(g d).isSome=true) (hk:(g k).isSome=true) (hne:d≠k) (hF:F.Perm (φ k ++ φ d)) (he:e.p F M w (a.get d)) :
  StF M0 w0 n (put d e (put k Dd g)) a w:=by refine ⟨M,λt=>if t=d then F else if t=k then [] else φ t,λt e' he'=>?_,λt ht=>?_,λt s hts ht hs=>?_,h.sub,h.bd,h.fr,h.sz,h.df⟩;unfold put at he';by_cases h3:t=d;subst h3;simp only [if_true,Option.some.injEq] at he' ⊢;subst he';exact he;by_cases h4:t=k;subst h4;simp only [if_neg h3,if_true,Option.some.injEq] at he' ⊢;subst he';rfl;simp only [if_neg h3,if_neg h4] at he' ⊢;exact h.holds t e' he';by_cases h3:t=d;subst h3;simp only [if_true];refine ⟨hF.nodup_iff.2 (N0.2 ⟨(h.own k hk).1,(h.own t hd).1,λx hx y hy e=>?_⟩),λq hq=>?_⟩;subst e;exact h.apart t k hne hd hk x hy hx;(rcases LA.1 (hF.mem_iff.1 hq) with h5 | h5);exact (h.own k hk).2 q h5;exact (h.own t hd).2 q h5;by_cases h4:t=k;simp only [if_neg h3,if_pos h4];exact ⟨List.nodup_nil,λq hq=>by simp at hq⟩;simp only [put,if_neg h3,if_neg h4] at ht ⊢;exact h.own t ht;(have ap:∀ u,u≠d->u≠k->((put d e (put k Dd g)) u).isSome=true->∀ q∈φ u,q ∉ F:=λu hu hk' hs q hq hm=>by (simp only [put,if_neg hu,if_neg hk'] at hs;rcases LA.1 (hF.mem_iff.1 hm) with h5 | h5);exact h.apart u k hk' hs hk q hq h5;exact h.apart u d hu hs hd q hq h5);by_cases h4:t=k;(subst h4;simp only [if_neg (Ne.symm hne),if_true];exact λq hq=>by simp at hq);by_cases h6:s=k;(subst h6;simp only [if_neg (Ne.symm hne),if_true];exact λq _ hm=>by simp at hm);by_cases h3:t=d;subst h3;simp only [if_true,if_neg (Ne.symm hts),if_neg h6];exact λq hq hm=>ap s (Ne.symm hts) h6 hs q hm hq;by_cases h5:s=d;subst h5;simp only [if_true,if_neg h3,if_neg h4];exact λq hq=>ap t h3 h4 ht q hq;simp only [put,if_neg h3,if_neg h4,if_neg h5,if_neg h6] at ht hs ⊢;exact h.apart t s hts ht hs
theorem InO.nils {e:TypeId} {M:Nat->Prop} {w:World}:∀ k:Nat,InO e M w (List.replicate k (Value.slice none 0 0)) (List.replicate k (some [])) []
 | 0=>rfl
 | k + 1=>⟨[],[],rfl,.inl ⟨rfl,[],⟨by simp,.inl ⟨rfl,rfl⟩⟩,rfl⟩,InO.nils k⟩
theorem mkO {T e2 e:TypeId} {x y:Operand} {m:Int} {xs:List PZ} (hx:Od Γ x (Va m)) (hy:Od Γ y (Va m)) (hT:P.underlying T=some (.slice e2)) (hi:(P.info? e2).map (λi=>(i.zero,i.size,Nat.ble i.bytes 65536))=some (some (.slice none 0 0),1,true)) (h:cT ([]:PZ) m=some xs):OR P (.makeSlice T x y) ty Γ (OO e2 e (xs.map some)):=by
 unfold cT at h;split at h
 case isFalse=>cases h
 rename_i hc;cases h
 refine OR.run λρ M w r=>?_;let ⟨_,h1⟩:=hx ρ M w r;let ⟨_,h2⟩:=hy ρ M w r;obtain ⟨k,rfl⟩:∃ k:Nat,m=k:=⟨m.toNat,by omega⟩;have hk:k<=1073741824:=by omega
 cases hie:P.info? e2 with
 | none=>simp [hie] at hi
 | some i=>
  simp only [hie,Option.map_some,Option.some.injEq,Prod.mk.injEq] at hi;let ⟨hz,hs,hb⟩:=hi;have hb':=KY hb;have hr:=run_make (P:=P) w T e2 i (.slice none 0 0) hT hie hz .i64 .i64 (k:Int) (k:Int) aa (PO _) (by
   have:i.bytes * k<=65536 * 1073741824:=OP hb' hk;have h3:((i.bytes * k:Nat):Int)<=281474976710656:=by omega
   rwa [PG] at h3) aa
  simp only [L8,hs] at hr;have hcells:(Value.slice none 0 0).cells=#[Value.slice none 0 0]:=rfl;rw [hcells,M5] at hr;have hmade:(madeCells #[Value.slice none 0 0] k)=(List.replicate k (Value.slice none 0 0)).toArray:=by
   apply Array.ext';apply PA
   ·simp [madeCells]
   ·intro j h1 h2;simp [madeCells,Nat.mod_one]
  rw [hmade] at hr;refine ⟨.slice (some ⟨w.heap.size,0,none⟩) k k,w.alloc (.cells (List.replicate k (Value.slice none 0 0)).toArray e2),λ_ _ _ _=>by simp only [execOp,Va.int h1,Va.int h2,KJ,hr,KE,KQ],Ext.alloc _ _ _,[w.heap.size],by simp,λq hq=>?_,w.heap.size,k,(List.replicate k (Value.slice none 0 0)).toArray,[],List.Perm.refl _,?_,heap_alloc_new w _,?_,?_,by simp,?_⟩
  ·simp at hq;subst hq;exact ⟨Nat.le_refl _,by simp⟩
  ·simp
  ·simp
  ·unfold maxLen;omega
  ·have hl:(List.map some (List.replicate (Int.toNat (k:Int)) ([]:PZ))).length=k:=by simp
   rw [hl];simp only [L8,List.map_replicate];rw [MF ai];exact InO.nils k
theorem mU {ops:Array Oper} {rest:List Oper} {d:Nat} {op:Op} {pos:String} {ag:Array Edge} {e2 e:TypeId} {xss:List (Option PZ)} (K:Nat)
  (hs:St M0 w0 n Γ a w) (ho:OR P op ty Γ (OO e2 e xss)) (hn:Nat.blt d n=true) (hdk:Nat.beq d K=false)
  (k:∀ c a' w',St M0 w0 n ((d,Qv c) :: (K,Oo e2 e c xss) :: (d,OO e2 e xss) :: Γ) a' w'->wpListIn (Fr rr) 0 P ops Q rest a' w'):wpListIn (Fr rr) 0 P ops Q (⟨some d,op,ty,pos,ag,none⟩ :: rest) a w:=
 sq hs ho hn λa' w' s'=>by
  let ⟨M,φ,h⟩:=s';have hb:=h.holds d (OO e2 e xss) (by simp [Ao]);refine k (a'.get d) a' w' ?_;unfold St;rw [Fp];exact h.split (by simp [Ao]) (LU hdk) ⟨rfl,rfl⟩ hb
theorem qR {T e2 e k:TypeId} {x i:Operand} {c:Value} {xss:List (Option PZ)} {m:Int} {y:Option PZ} (hx:Od Γ x (Qv c)) (hk:Ao Γ k=some (Oo e2 e c xss)) (hi:Od Γ i (Va m)) (hT:P.underlying T=some (.slice e2)) (hs:(P.info? e2).map (·.size)=some 1) (h:idx xss m=some y):OR P (.indexAddr T x i) ty Γ (Pe c m.toNat):=by
 refine OR.val λρ M w r=>?_;let ⟨_,_,hv⟩:=hx ρ M w r;let ⟨_,h2⟩:=hi ρ M w r;let ⟨_,g,cap,cur,F',hF,hc,_⟩:=r.tmp _ _ hk;let ⟨h0,hl,hg⟩:=Au h;have hsz:∀ w,(sizeOf e2).run P w=.ok 1 w:=λw=>by
  cases hie:P.info? e2 with
  | none=>simp [hie] at hs
  | some i=>simp [hie] at hs;simp [sizeOf,typeInfo,hie,hs]
 refine ⟨.pointer (some ⟨g,m.toNat,none⟩),λ_ _ _ _=>?_,rfl,g,by rw [hc];rfl,rfl⟩;simp only [execOp,hv,hc,Va.int h2,Instr.indexAt,KJ,asIntOf,KQ,KE,run_underlying hT];simp [h0,hl,hsz,Bo]
theorem ldo {ops:Array Oper} {rest:List Oper} {d K K2 T e2 e:Nat} {x:Operand} {pos:String} {ag:Array Edge} {c:Value} {xss:List (Option PZ)} {j:Nat} {y:PZ}
  (hs:St M0 w0 n Γ a w) (hx:Od Γ x (Pe c j)) (hk:Ao Γ K=some (Oo e2 e c xss)) (hy:xss[j]?=some (some y)) (ha:(P.underlying T).map Br=some false) (hn:Nat.blt d n=true) (hKK:Nat.beq K K2=false) (hdK:Nat.beq d K=false) (hdK2:Nat.beq d K2=false)
  (k:∀ c' a' w',St M0 w0 n ((d,Qv c') :: (K,Oo e2 e c (xss.set j none)) :: (K2,Ow e c' y) :: Γ) a' w'->wpListIn (Fr rr) 0 P ops Q rest a' w'):wpListIn (Fr rr) 0 P ops Q (⟨some d,.load T x,ty,pos,ag,none⟩ :: rest) a w:=by
 refine wpListIn_plain rfl λKc hK=>?_;let ⟨M,φ,h⟩:=hs;let ⟨_,_,g',hg',hv⟩:=hx _ _ _ h.rd;let ⟨g,cap,cur,F',hF,hc,hg,h1,h2,h3,h4⟩:=h.holds K _ hk;have hgg:g'=g:=by rw [hc] at hg';simpa [Value.ownBlock] using hg'.symm
 subst hgg;let ⟨c',F1,F2,q1,q2,q3,q4⟩:=h4.focus hy;have hj:j < xss.length:=(KG.1 hy).1;rw [LN hj] at q1;have hcell:w.cell? ⟨g',j,none⟩=some c':=by
  simp only [World.cell?,hg];simpa using q1
 refine Bk.upon (Bk.val (v:=c') (w':=w) ?_ ?_)
 ·simp only [execOp,hv,Instr.loadAt,Instr.sureAddr,KJ,KQ,KE,loadVar,Ty.run_agg ha];simp [hcell]
 ·refine hK _ _ (k c' _ _ ?_);have hsp:=h.split3 (d:=K) (k:=K2) (e1:=Oo e2 e c (xss.set j none)) (e2:=Ow e c' y) (F1:=g' :: F2) (F2:=F1) (by rw [hk];rfl) (LU hKK)
   (hF.trans ((List.Perm.cons _ q4).trans (by
    rw [← NU];exact (List.perm_middle (a:=g') (l₁:=F1) (l₂:=F2)).symm)))
   ⟨g',cap,cur,F2,List.Perm.refl _,by rw [hc];simp,hg,by simpa using h1,h2,h3,by simpa using q3⟩ q2
  let ⟨M',φ',hsp⟩:=hsp;unfold St;rw [Ak,Ak,Ak];exact hsp.gives ⟨Ext.refl _ _,[],L5,λq hq=>by simp at hq,rfl,rfl⟩ (KY hn)
theorem sto {ops:Array Oper} {rest:List Oper} {K K2 T e2 e:Nat} {x y:Operand} {pos:String} {ag:Array Edge} {c c':Value} {xss:List (Option PZ)} {j:Nat} {ys:PZ}
  (hs:St M0 w0 n Γ a w) (hx:Od Γ x (Pe c j)) (hk:Ao Γ K=some (Oo e2 e c xss)) (hy:Od Γ y (Qv c')) (hk2:Ao Γ K2=some (Ow e c' ys)) (hh:xss[j]?=some none) (hT:(P.info? T).map (·.size)=some 1) (hKK:Nat.beq K K2=false)
  (k:∀ w',St M0 w0 n ((K,Oo e2 e c (xss.set j (some ys))) :: (K2,Dd) :: Γ) a w'->wpListIn (Fr rr) 0 P ops Q rest a w'):wpListIn (Fr rr) 0 P ops Q (⟨none,.store T x y,ty,pos,ag,none⟩ :: rest) a w:=by
 refine wpListIn_plain rfl λKc hK=>?_;let ⟨M,φ,h⟩:=hs;let ⟨_,_,g',hg',hv⟩:=hx _ _ _ h.rd;let ⟨_,_,hyv⟩:=hy _ _ _ h.rd;let ⟨g,cap,cur,F',hF,hc,hg,h1,h2,h3,h4⟩:=h.holds K _ hk;have how:=h.holds K2 _ hk2;have hgg:g'=g:=by rw [hc] at hg';simpa [Value.ownBlock] using hg'.symm
 subst hgg;have hne:=LU hKK;have hj:j < xss.length:=(KG.1 hh).1;have hc1:c'.oneCell'=true/\c'.cells=#[c']:=by
  obtain ⟨_,cs',ho,_⟩ | ⟨_,_,g,hc⟩:=how
  ·rcases ho.2 with ⟨hc,_⟩ | ⟨_,_,_,hc,_⟩ <;> rw [hc] <;> exact ⟨rfl,rfl⟩
  ·rw [hc];exact ⟨rfl,rfl⟩
 have hst:=run_storeCells_at P g' j e2 [c'] 0 cur w hg (by simp;omega) (λv hv=>by simp at hv;rw [hv];exact hc1.1);simp only [NS,LM,NH,MJ] at hst;have hsz:∀ w,(sizeOf T).run P w=.ok 1 w:=λw=>by
  cases hie:P.info? T with
  | none=>simp [hie] at hT
  | some i=>simp [hie] at hT;simp [sizeOf,typeInfo,hie,hT]
 have hset:(cur.toList.take j ++ [c'] ++ cur.toList.drop (j + 1))=cur.toList.set j c':=by
  rw [List.set_eq_take_append_cons_drop,if_pos (by simp;omega)];simp
 rw [hset] at hst;refine Bk.upon (Bk.skip (w':=w.setRow g' (cur.toList.set j c').toArray) ?_ ?_)
 ·simp only [execOp,hv,hyv,Instr.storeAt,Instr.sureAddr,KJ,KQ,KE,storeVar,hc1.2,hsz];simp [hst]
 ·refine hK _ _ (k _ ?_);have hgK:g'∈φ K:=hF.mem_iff.2 (LO ..);have hMg:=((h.own K (by rw [hk];rfl)).2 _ hgK).1;have hgF':g' ∉ F':=by
   have:=hF.nodup_iff.1 (h.own K (by rw [hk];rfl)).1;exact (List.nodup_cons.1 this).1
  have hin:InO e M (w.setRow g' (cur.toList.set j c').toArray) ((cur.toList.take xss.length).set j c') xss F':=by
   refine InO.st (InO.setc hc1.1 h4 hh) ((Ext.setRow w g' _).mono λq _ hq=>?_);subst hq;exact ⟨hMg,hgF'⟩
  have hw1:=h.write (b:=g') (p:=K) (e':=Oo e2 e c xss) (w':=w.setRow g' (cur.toList.set j c').toArray) (by rw [hk];rfl) hgK (Ext.setRow w g' _)
   ⟨g',cap,(cur.toList.set j c').toArray,F',hF,hc,setRow_heap w g' cur _ e2 _ hg,h1,h2,by simp [h3],by
    show InO e M _ (List.take xss.length (cur.toList.set j c')) xss F';rw [List.take_set];exact hin⟩
  let ⟨M',φ',hw1⟩:=hw1;have e1:put K (Oo e2 e c xss) (Ao Γ) K=some (Oo e2 e c xss):=by simp [put]
  have e2':put K (Oo e2 e c xss) (Ao Γ) K2=some (Ow e c' ys):=by unfold put;rw [if_neg (Ne.symm hne)];exact hk2
  let ⟨g2,cap2,cur2,F2,p1,p2,p3,p4,p5,p6,p7⟩:=hw1.holds K _ e1;have how2:=hw1.holds K2 _ e2';have hg2:g2=g':=by rw [hc] at p2;injection p2 with p2;injection p2 with p2;injection p2 with p2;exact p2.symm
  subst hg2;have hcur:cur2=(cur.toList.set j c').toArray:=by
   have:=setRow_heap w g2 cur (cur.toList.set j c').toArray e2 _ hg;rw [this] at p3;injection p3 with p3;injection p3 with p3;exact p3.symm
  have hcj:(cur2.toList.take xss.length)[j]?=some c':=by
   rw [hcur,LN hj];have hlt:j < cur.toList.length:=by simp;omega
   show (cur.toList.set j c')[j]?=some c';rw [MG hlt]
  let ⟨F3,r1,r2⟩:=p7.close hh hcj (show (Ow e c' ys).p (φ' K2) M' _ undef from how2);have hm:=hw1.merge (d:=K) (k:=K2) (e:=Oo e2 e c (xss.set j (some ys))) (F:=g2 :: F3) (by rw [e1];rfl) (by rw [e2'];rfl) hne (by
    refine (List.Perm.cons _ r2).trans ?_;rw [← NU];refine (List.perm_middle (a:=g2) (l₁:=φ' K2) (l₂:=F2)).symm.trans ?_;exact List.Perm.append_left _ p1.symm)
   ⟨g2,cap2,cur2,F3,List.Perm.refl _,by rw [p2];simp,p3,by simpa using p4,p5,p6,by simpa using r1⟩
  unfold St;refine StF.less hm λt e he=>?_;rw [Ak,Ak] at he;unfold put at he ⊢;by_cases h5:t=K
  ·rw [if_pos h5] at he ⊢;exact he
  ·rw [if_neg h5] at he ⊢;by_cases h6:t=K2
   ·rw [if_pos h6] at he ⊢;exact he
   ·rw [if_neg h6] at he ⊢;rw [if_neg h5];exact he
theorem InO.chk {e:TypeId} {M M':Nat->Prop} {w:World}:∀ {cs:P2} {xs:List PZ} {F:P1},InO e M w cs (xs.map some) F->(∀ k,k < w.heap.size->M' k->M k)->(∀ k∈F,¬ M' k)->Chk M' w cs xs
 | [],[],_,_,_,_=>rfl
 | c :: cs,x :: xs,F,⟨F1,F2,hF,h1,h2⟩,hs,hM=>by
  refine ⟨[c],cs,rfl,⟨c,rfl,Ow.sl (Ent.sb _ h1 hs) λk hk=>hM k (by rw [hF];exact LD _ hk)⟩,h2.chk hs λk hk=>hM k (by rw [hF];exact LC _ hk)⟩
 | [],_ :: _,_,h,_,_=>by simp [InO] at h
 | _ :: _,[],_,h,_,_=>by simp [InO] at h
theorem fzo {k e2 e:Nat} {c:Value} {xss:List PZ} {R:Prop} (hM:Bd M0 w0) (h:St M0 w0 n Γ a w) (hk:Ao Γ k=some (Oo e2 e c (xss.map some))) (r:St M0 w0 n ((k,At c (Va xss)) :: Γ) a w->R):R:=by (refine r ?_;let ⟨M,φ,h⟩:=h;have hks:(Ao Γ k).isSome=true:=by rw [hk];rfl);have hMs:∀ q,q < w.heap.size->(M q/\q ∉ φ k)->M q:=λq _ hq=>hq.1;unfold St;rw [Ak];refine ⟨λq=>M q/\q ∉ φ k,λt=>if t=k then [] else φ t,λt e' he=>?_,λt ht=>?_,λt s hts ht hs=>?_,λq hq=>⟨h.sub q hq,λhm=>?_⟩,λq hq=>h.bd q hq.1,h.fr,h.sz,h.df⟩;simp only [put] at he;by_cases h4:t=k;(subst h4;simp only [if_true,Option.some.injEq] at he ⊢;subst he;let ⟨g,cap,cur,F',hF,hc,hg,h1,h2,h3,h4⟩:=h.holds t _ hk;show (Va xss).p [] _ w c;refine Va.mkList ⟨some ⟨g,0,none⟩,cap - xss.length,by rw [hc,K5] at *;rw [OL h1],.inr ⟨g,0,rfl,(h4.chk hMs λq hq hm=>hm.2 (hF.mem_iff.2 (LK _ hq))).row λj v hj=>⟨λhm=>hm.2 (hF.mem_iff.2 (LO ..)),?_⟩⟩⟩;have hlt:j < (xss.map some).length:=by have:=(KG.1 hj).1;simp only [LJ] at this;omega);rw [LN hlt] at hj;simp only [World.cell?,hg,MJ];simpa using hj;simp only [if_neg h4] at he ⊢;exact Ent.sb _ (h.holds t e' he) hMs;by_cases h4:t=k;simp [h4];simp only [put,if_neg h4] at ht ⊢;have:=h.own t ht;exact ⟨this.1,λq hq=>⟨⟨(this.2 q hq).1,h.apart t k h4 ht hks q hq⟩,(this.2 q hq).2⟩⟩;by_cases h5:t=k;simp [h5];by_cases h6:s=k;simp [h6];simp only [put,if_neg h5,if_neg h6] at ht hs ⊢;exact h.apart t s hts ht hs;(rcases ((h.own k hks).2 q hm).2 with h1 | h1);have:=hM.1 q hq;omega;exact hM.2 q h1 hq
theorem Oo.at_ {xss:List PZ} {m:Int} {y:PZ} (h:idx xss m=some y):(xss.map some)[m.toNat]?=some (some y):=by let ⟨_,_,h⟩:=Au h;rw [KZ,h];rfl
theorem Oo.idx {xss:List PZ} {m:Int} {y:PZ} (h:Pn.idx xss m=some y):Pn.idx (xss.map some) m=some (some y):=by let ⟨h0,_,h⟩:=Au h;unfold Pn.idx;rw [if_pos h0,KZ,h];rfl
theorem Oo.idxh {xss:List PZ} {m:Int} {y:PZ} (h:Pn.idx xss m=some y):Pn.idx ((xss.map some).set m.toNat none) m=some none:=by let ⟨h0,h1,h⟩:=Au h;unfold Pn.idx;rw [if_pos h0,MG (by simp;omega)]
theorem Oo.hole {xss:List PZ} {m:Int} {y:PZ} (h:Pn.idx xss m=some y):((xss.map some).set m.toNat none)[m.toNat]?=some none:=by let ⟨h0,h1,h⟩:=Au h;rw [MG (by simp;omega)]
theorem oor {K e2 e j:Nat} {c:Value} {xss:List PZ} {ys:PZ} {R:Prop} (h:St M0 w0 n Γ a w) (hk:Ao Γ K=some (Oo e2 e c (((xss.map some).set j none).set j (some ys)))) (r:St M0 w0 n ((K,Oo e2 e c ((xss.set j ys).map some)) :: Γ) a w->R):R:=by (refine r (StF.less h λt e' he=>?_);have e1:(xss.set j ys).map some=((xss.map some).set j none).set j (some ys):=by rw [List.set_set,List.map_set]);rw [Ak] at he;unfold put at he;split at he;rename_i ht;rw [ht,hk,← e1];exact he;exact he
end
end
section
variable {rr:Option Nat}
def cn (T e b:Nat) (v:Value) (s:P2) (w:World):Prop:=
 (∃ p,(p=.pointer none\/p=pb b 0)/\w.heap[b]?=some (.cells #[p,v] T (0,0)))/\w.ownsRow 0 e 1 v s.length s/\v.ownBlock≠some b
def Bw (T e b:Nat) (s:P3):Ent where
 p F _ w _:=∃ v:Value,F=b :: v.ownBlock.toList/\cn T e b v (Lib.strCells s) w
 st {_ _ w _ _} h x:=by
  obtain ⟨v,rfl,⟨p,hp,hb⟩,ho,hne⟩:=h;have hl:b < w.heap.size:=(KS.1 hb).1;refine ⟨v,rfl,⟨p,hp,?_⟩,Wa ho λk hk=>?_,hne⟩
  ·rw [x.block b hl ai];exact hb
  ·exact x.block k (ho.lt k hk).2 λhm=>hm.2 (by simp [hk])
 sb h _:=h
instance {T e b:Nat} {s:P3}:Gh (Bw T e b s):=⟨λh _=>h⟩
def mN (T e:Nat):Ent where
 p F M w v:=∃ b,v=pb b 0/\(Bw T e b .empty).p F M w v
 st h x:=let ⟨b,hv,h⟩:=h;⟨b,hv,(Bw T e b .empty).st h x⟩
 sb h s:=let ⟨b,hv,h⟩:=h;⟨b,hv,(Bw T e b .empty).sb h s⟩
section
variable {P:Program} {M0:Fm} {w0:World} {n:Nat} {Γ:Cx} {Q:Exit->Act->World->Prop} {a:Act} {w:World} {ty:TypeId}
theorem kb {T e:TypeId} (hz1:(P.info? T).map (·.zero)=some (some (.agg #[.pointer none,.slice none 0 0]))):OR P (.alloc T) ty Γ (mN T e):=by
 refine OR.run λρ M w r=>?_;refine ⟨.pointer (some ⟨w.heap.size,0,none⟩),w.alloc (.cells #[.pointer none,.slice none 0 0] T),λ_ _ _ _=>?_,Ext.alloc _ _ _,[w.heap.size],by simp,λk hk=>?_,w.heap.size,rfl,.slice none 0 0,rfl,⟨_,.inl rfl,Ch _ _⟩,World.ownsRow_nil _ _ _ _,by simp [Value.ownBlock]⟩
 ·cases hi:P.info? T with
  | none=>simp [hi] at hz1
  | some i=>
   simp only [hi,Option.map_some,Option.some.injEq] at hz1;simp only [execOp,Instr.alloc,zeroValue,typeInfo,KJ,run_program,KE,hi,KQ,hz1,newVar,newRow,run_newObj];rfl
 ·simp at hk;subst hk;exact ⟨Nat.le_refl _,by simp⟩
theorem St.openBu {d T e:Nat} (h:St M0 w0 n Γ a w) (k:Nat) (hd:Ao Γ d=some (mN T e)) (hne:Nat.beq d k=false):∃ b,St M0 w0 n ((d,Qv (pb b 0)) :: (k,Bw T e b .empty) :: Γ) a w:=by let ⟨M,φ,h⟩:=h;let ⟨b,hv,hb⟩:=h.holds d _ hd;refine ⟨b,?_⟩;unfold St;rw [Fp];exact h.split (by rw [hd];rfl) (LU hne) ⟨rfl,hv⟩ hb
theorem iM {ops:Array Oper} {rest:List Oper} {d:Nat} {op:Op} {pos:String} {ag:Array Edge} {T e:Nat} (K:Nat)
  (hs:St M0 w0 n Γ a w) (ho:OR P op ty Γ (mN T e)) (hn:Nat.blt d n=true) (hdk:Nat.beq d K=false)
  (k:∀ b a' w',St M0 w0 n ((d,Qv (pb b 0)) :: (K,Bw T e b .empty) :: (d,mN T e) :: Γ) a' w'->wpListIn (Fr rr) 0 P ops Q rest a' w'):wpListIn (Fr rr) 0 P ops Q (⟨some d,op,ty,pos,ag,none⟩ :: rest) a w:=
 sq hs ho hn λa' w' s=>let ⟨b,s⟩:=s.openBu K (by simp [Ao]) hdk;k b a' w' s
theorem eF {w w':World} {b:Nat} {v:Value} (hg:w.grownBy w' v.ownBlock) (hd:w.drawn<=w'.drawn):Ext (λk=>k=b\/v.ownBlock=some k) w w':=
 ⟨hg.os,hg.tape,hg.output,hg.size,λk hk hn=>hg.block k hk λe=>hn (.inr e.symm),hd⟩
theorem qX {f T e n0:Nat} {ps:List Ent} {vs0:P2->P2} {R:Value} {s r:P3} (hc:da P f=true)
  (hps:∀ {M:Nat->Prop} {w:World} {vs:P2},Ui M w (Qv (pb n0 0) :: ps) vs->vs=vs0 vs)
  (h:∀ (vs:P2) (v:Value) (w:World) (M:Nat->Prop),Ui M w (Qv (pb n0 0) :: ps) vs->cn T e n0 v (Lib.strCells s) w->Calls P f (vs0 vs).toArray w λen w'=>en=.returned R/\Ext (λk=>k=n0\/v.ownBlock=some k) w w'/\∃ v',cn T e n0 v' (Lib.strCells r) w'/\∀ k,v'.ownBlock=some k->v.ownBlock=some k\/w.heap.size<=k) :
  Cg P f (Qv (pb n0 0) :: ps) [Bw T e n0 s] (Rz (λ_:Unit=>Dd) (λ_=>[Bw T e n0 r])):=by
 refine ⟨hc,λvs M w Ft hM hf ho hnd hFM=>?_⟩;obtain ⟨F1,_,rfl,hown,rfl⟩:=ho;obtain ⟨v,rfl,hb⟩:=hown undef;rw [hps hf];refine (h vs v w M hf hb).mono ?_;rintro en w' ⟨rfl,hx,v',hb',hk⟩;refine ⟨_,n0 :: v'.ownBlock.toList,rfl,hx.mono λk _ hk=>?_,?_,λk hk'=>?_,(),rfl,n0 :: v'.ownBlock.toList,[],by simp,λu=>⟨v',rfl,hb'⟩,rfl⟩
 ·rcases hk with rfl | hk
  ·simp
  ·simp [hk]
 ·cases hv:v'.ownBlock with
  | none=>simp
  | some k=>
   have:=hb'.2.2;rw [hv] at this;simp only [PQ,List.nodup_cons,MU,List.not_mem_nil,not_false_eq_true,L5,and_self,and_true];intro e;exact this (by rw [e])
 ·simp only [K8,Option.mem_toList] at hk';rcases hk' with rfl | hk'
  ·exact .inl ai
  ·rcases hk k hk' with h1 | h1
   ·exact .inl (by simp [h1])
   ·exact .inr ⟨h1,(hb'.2.1.lt k hk').2⟩
end
end
end Go.Pn
namespace Go.Proofs
open Go Go.RowKit
theorem gI (b:Nat) (w:World) (h0:w.cell? ⟨b,0,none⟩=some (.pointer (some ⟨b,0,none⟩))) :
  Calls Tryz.prog 296 #[.pointer (some ⟨b,0,none⟩)] w λe w'=>e=.returned (.tuple #[])/\w'=w:=by let ⟨j,hj,_⟩:=N4.1 (show (Tryz.prog.info? 325).map (·.size)=some 2 by kernel_rfl);go_enter Tryz.func296,Tryz.ntmps296;go_wp2;rw [Lib.run_neq_ptr_same w _ Tryz.underlying323 hj];go_wp2;go_end0;exact ⟨rfl,rfl⟩
theorem H4 (b:Nat) (w:World) (h0:w.cell? ⟨b,0,none⟩=some (.pointer none)) (hsh:w.shape? b=some (325,2)) (hfz:w.frozen? ⟨b,0,none⟩=false) :
  Calls Tryz.prog 296 #[.pointer (some ⟨b,0,none⟩)] w λe w'=>e=.returned (.tuple #[])/\w'=w.setCell ⟨b,0,none⟩ (.pointer (some ⟨b,0,none⟩)):=by let ⟨j,hj,hjs⟩:=N4.1 (show (Tryz.prog.info? 325).map (·.size)=some 2 by kernel_rfl);go_enter Tryz.func296,Tryz.ntmps296;go_wp2;rw [Lib.run_to_unsafe w ⟨b,0,none⟩ Tryz.underlying323 Tryz.underlying409 hj (by rw [hjs];decide) hsh (Nat.zero_lt_succ 1)];simp only [Result.andThen];rw [Oper.upon_value];go_wp2;rw [run_callFunc_extern Tryz.func331 Go.Pn.ae Go.Pn.ae Go.Pn.ae (e:=Extern.AbiNoEscape.same) Go.Pn.ae];rw [Lib.run_noEscape];simp only [Result.andThen];rw [Oper.upon_value];go_wp2;rw [Lib.run_from_unsafe w ⟨b,0,none⟩ Tryz.underlying409 Tryz.underlying323 hj hsh Go.Pn.ae];simp only [Result.andThen];rw [Oper.upon_value];go_wp2;go_end0;exact ⟨rfl,rfl⟩
theorem J1 (b:Nat) (v:Value) (s:P2) (w:World) (h:Pn.cn 325 5 b v s w) :
  Calls Tryz.prog 296 #[.pointer (some ⟨b,0,none⟩)] w λe w'=>e=.returned (.tuple #[])/\w'.heap[b]?=some (.cells #[Pn.pb b 0,v] 325 (0,0))/\w'.ownsRow 0 5 1 v s.length s/\v.ownBlock≠some b/\Pn.Ext (λk=>k=b) w w':=by obtain ⟨⟨p,rfl | rfl,hb⟩,ho,hne⟩:=h;have ha:Lib.BuilderAt 325 5 0 b (.pointer none) s w:=⟨Nat.zero_le _,v,hb,ho,hne⟩;refine (H4 b w ha.cell0 ha.shape ha.frozen0).mono ?_;rintro e w' ⟨rfl,rfl⟩;refine ⟨rfl,by simp [World.setCell,NX,hb,Pn.pb],?_,hne,Pn.Ext.setCell w ⟨b,0,none⟩ _ rfl⟩;exact ho.kept (row:=some b) ⟨rfl,rfl,rfl,by simp [World.setCell],λk _ hk=>Below.heap_setCell _ _ _ _ (λe=>hk (by simp [e]))⟩ (Or.inr hne);have ha:Lib.BuilderAt 325 5 0 b (Pn.pb b 0) s w:=⟨Nat.zero_le _,v,hb,ho,hne⟩;refine (gI b w ha.cell0).mono ?_;rintro e w' ⟨rfl,rfl⟩;exact ⟨rfl,hb,ho,hne,Pn.Ext.refl _ _⟩
theorem J2 {b:Nat} {p v v':Value} {s s':P2} {w w1 w2:World} (hx1:Pn.Ext (λk=>k=b) w w1) (hl:v.ownBlock≠some b) (hb2:w2.heap[b]?=some (.cells #[Pn.pb b 0,v] 325 (0,0))) (hx2:Pn.Ext (λk=>k=b\/v.ownBlock=some k) w1 w2) (hown':w2.ownsRow 0 5 1 v' s'.length s') (hk:∀ k,v'.ownBlock=some k->v.ownBlock=some k\/w.heap.size<=k) :
  Pn.Ext (λk=>k=b\/v.ownBlock=some k) w (w2.setCell ⟨b,1,none⟩ v')/\∃ v'',Pn.cn 325 5 b v'' s' (w2.setCell ⟨b,1,none⟩ v')/\∀ k,v''.ownBlock=some k->v.ownBlock=some k\/w.heap.size<=k:=by (refine ⟨(hx1.mono λk _ hk=>.inl hk).trans (hx2.trans (Pn.Ext.setCell w2 ⟨b,1,none⟩ _ (.inl rfl))),v',?_,hk⟩;let ⟨_,v2,hb3,ho3,hne3⟩:=Lib.BuilderAt.put (T:=325) (e:=5) (L0 b) hb2 hown' (by decide);have:v2=v':=by (have h1:(w2.setCell ⟨b,1,none⟩ v').heap[b]?=some (.cells #[Pn.pb b 0,v'] 325 (0,0)):=by simp [World.setCell,NX,hb2]);rw [h1] at hb3;simp at hb3;exact hb3.symm);subst this;exact ⟨⟨_,.inr rfl,hb3⟩,ho3,hne3⟩
theorem bu_wb (b:Nat) (v:Value) (bs:P2) (c:Int) (w:World) (h:Pn.cn 325 5 b v bs w) (hlen:bs.length + 1<=140737488355328) :
  Calls Tryz.prog 251 #[.pointer (some ⟨b,0,none⟩),.int .u8 c] w λe w'=>e=.returned .nilIface/\Pn.Ext (λk=>k=b\/v.ownBlock=some k) w w'/\∃ v',Pn.cn 325 5 b v' (bs ++ [.int .u8 c]) w'/\∀ k,v'.ownBlock=some k->v.ownBlock=some k\/w.heap.size<=k:=by
 let ⟨i0,hi,hz0,hz1,hz2⟩:=info_parts (show (Tryz.prog.info? 5).map (λi=>(i.zero,i.size,i.bytes))=some (some (.int .u8 0),1,1) by kernel_rfl);have e240:∀ args w,(callFunc 296 args).run Tryz.prog w=.ok (.enter 296 args) w:=enters_of Tryz.func296 Go.Pn.ae rfl
 go_enter Tryz.func251,Tryz.ntmps251
 go_wp2_with (go_at_fn 296;refine (J1 b v bs _ h).mono ?_)
 rintro e w1 ⟨rfl,hbk,hown,hne,hx1⟩;have c0:w1.cell? ⟨b,0,none⟩=some (.pointer (some ⟨b,0,none⟩)):=by rw [MZ hbk];rfl
 have c1:w1.cell? ⟨b,1,none⟩=some v:=by rw [MZ hbk];rfl
 let ⟨v',w2,hr,hown',hgrow,_,hat⟩:=run_append_own_at (P:=Tryz.prog) (w:=w1.alloc (.cells #[.int .u8 c] 5)) 0 46 46 5 i0 (.int .u8 0) 1 1 Tryz.underlying46 hi hz0 hz1 hz2 rfl (by decide) v bs.length bs (hown.alloc _) ⟨w1.heap.size,0,none⟩ 1 1 [.int .u8 c] rfl (λj u hj=>by
  match j,hj with
  | 0,hj=>simp at hj;subst hj;simp [Addr.add]) (λu hu=>by simp at hu;subst hu;rfl) (by unfold maxLen;omega) Go.Pn.aa (L0 _)
 have hdr:=Pn.eL (P:=Tryz.prog) Tryz.underlying46 hi hz0 hz1 hz2 (hown.alloc (.cells #[.int .u8 c] 5)) (a:=⟨w1.heap.size,0,none⟩) (news:=[.int .u8 c]) rfl (λj u hj=>by
  match j,hj with
  | 0,hj=>simp at hj;subst hj;simp [Addr.add]) (λu hu=>by simp at hu;subst hu;rfl) (by unfold maxLen;omega) Go.Pn.aa hr
 have hlt:b < w1.heap.size:=(KS.1 hbk).1;have hb2:w2.heap[b]?=some (.cells #[.pointer (some ⟨b,0,none⟩),v] 325 (0,0)):=by
  rw [hgrow.block b (by simp;omega) (λe=>hne e.symm),Lib.alloc_old w1 _ b hlt];exact hbk
 have d0:w2.cell? ⟨b,0,none⟩=some (.pointer (some ⟨b,0,none⟩)):=by rw [MZ hb2];rfl
 have d1:w2.cell? ⟨b,1,none⟩=some v:=by rw [MZ hb2];rfl
 have f1:w2.frozen? ⟨b,1,none⟩=false:=Lib.frozen_of_heap hb2 1;obtain ⟨g,cap,rfl⟩:∃ g cap,v'=.slice (some ⟨g,0,none⟩) (bs.length + 1) cap:=by
  rcases hown'.2 with ⟨_,h0⟩ | ⟨g,cap,cur,hv,_⟩
  ·omega
  ·exact ⟨g,cap,hv⟩
 go_wp2_with (at_builtin;refine OQ _ rfl _ _ _ _ rfl _ _ rfl rfl _ _ hr ?_)
 go_ret
 refine ⟨rfl,?_⟩;refine J2 (p:=.pointer none) (s:=bs) hx1 hne hb2 ((Pn.Ext.alloc _ w1 _).trans (Pn.eF hgrow hdr)) (by simpa using hown') (λk hk=>?_);have:=hx1.size;rcases hat with h1 | h1
 ·exact .inl (by rw [← h1];exact hk)
 ·rw [h1] at hk;injection hk with hk;rw [World.size_alloc] at hk;exact .inr Go.Pn.aa
theorem fm {P:Program} {t u ty e:TypeId} {i:TypeInfo} (ht:P.underlying t=some (.slice e)) (hu:P.underlying u=some .string) (hi:P.info? e=some i) (hz:i.zero=some (.int .u8 0)) (hsize:i.size=1) (hby:i.bytes=1)
  {v v':Value} {n:Nat} {xs:P2} {w w':World} {s:P3} (hown:w.ownsRow 0 e 1 v n xs) (hb:n + s.size<=140737488355328) (hr:(Builtin.append_ #[t,u] ty #[v,.string s]).run P w=.ok v' w') :
  (∀ k,v'.ownBlock=some k->v.ownBlock=some k\/w.heap.size<=k)/\w.drawn<=w'.drawn:=by (have hxl:xs.length=n:=by simpa using hown.1);(rcases hown.2 with ⟨rfl,rfl⟩ | ⟨g,cap,cur,rfl,hbg,hg,hnc,hcm,hcs,htake⟩);by_cases hm:s.size=0;(have hn:Lib.strCells s=[]:=MN (by rw [OX];exact hm);have hf:=Lib.run_firstCells_string (P:=P) w 1 s;rw [hm] at hf;have:(Builtin.append_ #[t,u] ty #[.slice none 0 0,.string s]).run P w=.ok (.slice none 0 0) w:=by simp [Builtin.append_,run_underlying ht,run_underlying hu,sizeOf,typeInfo,hi,hsize,Builtin.lenOf,hm,hf]);rw [this] at hr;injection hr with h1 h2;subst h1 h2;exact ⟨λk hk=>by simp [Value.ownBlock] at hk,K9 _⟩;have:=run_append_nil_string (P:=P) w t u ty e i (.int .u8 0) ht hu hi hz s Go.Pn.aa Go.Pn.aa (by rw [hby];omega);rw [this] at hr;injection hr with h1 h2;subst h1 h2;exact ⟨λk hk=>by simp [Value.ownBlock] at hk;exact .inr Go.Pn.aa,PN _⟩;by_cases hroom:n + s.size<=cap;have:=Lib.run_append_room_string (P:=P) w t u ty e i ht hu hi hsize g n cap cur hg s hroom Go.Pn.aa;rw [this] at hr;injection hr with h1 h2;subst h1 h2;exact ⟨λk hk=>.inl hk,K9 _⟩;have:=Lib.run_append_grow_string (P:=P) w t u ty e i (.int .u8 0) ht hu hi hz ⟨g,0,none⟩ n cap xs (by rw [hsize];exact hown.1) (hown.cells rfl) s Go.Pn.aa Go.Pn.aa (growslice_fits Go.Pn.aa (by rw [hby];omega));rw [this] at hr;injection hr with h1 h2;subst h1 h2;exact ⟨λk hk=>by simp [Value.ownBlock] at hk;exact .inr Go.Pn.aa,PN _⟩
theorem bu_ws (b:Nat) (v:Value) (bs:P2) (s:P3) (w:World) (h:Pn.cn 325 5 b v bs w) (hlen:bs.length + s.size<=140737488355328) :
  Calls Tryz.prog 250 #[.pointer (some ⟨b,0,none⟩),.string s] w λe w'=>e=.returned (.tuple #[.int .i64 s.size,.nilIface])/\Pn.Ext (λk=>k=b\/v.ownBlock=some k) w w'/\∃ v',Pn.cn 325 5 b v' (bs ++ Lib.strCells s) w'/\∀ k,v'.ownBlock=some k->v.ownBlock=some k\/w.heap.size<=k:=by let ⟨i0,hi,hz0,hz1,hz2⟩:=info_parts (show (Tryz.prog.info? 5).map (λi=>(i.zero,i.size,i.bytes))=some (some (.int .u8 0),1,1) by kernel_rfl);have e240:∀ args w,(callFunc 296 args).run Tryz.prog w=.ok (.enter 296 args) w:=enters_of Tryz.func296 Go.Pn.ae rfl;go_enter Tryz.func250,Tryz.ntmps250;go_wp2_with (go_at_fn 296;refine (J1 b v bs _ h).mono ?_);(rintro e w1 ⟨rfl,hbk,hown,hne,hx1⟩;have c0:w1.cell? ⟨b,0,none⟩=some (.pointer (some ⟨b,0,none⟩)):=by rw [MZ hbk];rfl);(have c1:w1.cell? ⟨b,1,none⟩=some v:=by rw [MZ hbk];rfl);(let ⟨v',w2,hr,hown',hgrow,_⟩:=Lib.run_append_own_string (P:=Tryz.prog) w1 0 46 9 46 5 i0 Tryz.underlying46 Tryz.underlying9 hi hz0 hz1 hz2 v bs.length bs hown s (by unfold maxLen;omega) hlen (L0 _);have hat:=fm Tryz.underlying46 Tryz.underlying9 hi hz0 hz1 hz2 hown hlen hr;have hlt:b < w1.heap.size:=(KS.1 hbk).1;have hb2:w2.heap[b]?=some (.cells #[.pointer (some ⟨b,0,none⟩),v] 325 (0,0)):=by rw [hgrow.block b hlt (λe=>hne e.symm)];exact hbk);(have d0:w2.cell? ⟨b,0,none⟩=some (.pointer (some ⟨b,0,none⟩)):=by rw [MZ hb2];rfl);(have d1:w2.cell? ⟨b,1,none⟩=some v:=by rw [MZ hb2];rfl);(have f1:w2.frozen? ⟨b,1,none⟩=false:=Lib.frozen_of_heap hb2 1;obtain ⟨ao,n',cap,rfl⟩:∃ ao n' cap,v'=.slice ao n' cap:=by (rcases hown'.2 with ⟨hv,_⟩ | ⟨g,cap,cur,hv,_⟩);exact ⟨_,_,_,hv⟩;exact ⟨_,_,_,hv⟩);go_wp2_with (at_builtin;refine OQ _ rfl _ _ _ _ rfl _ _ rfl rfl _ _ hr ?_);go_ret2;(refine ⟨rfl,?_⟩;refine J2 (p:=.pointer none) (s:=bs) hx1 hne hb2 (Pn.eF hgrow hat.2) (by simpa [OX] using hown') (λk hk=>?_);have:=hx1.size;rcases hat.1 k hk with h1 | h1);exact .inl h1;exact .inr Go.Pn.aa
theorem jJ {w:World} {g:Nat} (n:Nat) {M:Nat->Prop} (h:M g):Pn.Ext M w (w.freeze ⟨g,0,none⟩ n):=by unfold World.freeze;split;exact Pn.Ext.refl _ _;refine ⟨rfl,rfl,rfl,by simp,λk hk hn=>?_,K9 _⟩;simp only [NX];rw [if_neg (λe=>hn (by rw [← e];exact h))]
theorem lU (b g cap:Nat) (p:Value) (cur:Array Value) (l:List UInt8) (w:World) (h0:l≠[]) (hbk:w.heap[b]?=some (.cells #[p,.slice (some ⟨g,0,none⟩) l.length cap] 325 (0,0))) (hg:w.heap[g]?=some (.cells cur 5 (0,0))) (hnc:l.length<=cap) (hcm:cap<=maxLen) (hcs:cur.size=cap) (htk:∀ j x,l[j]?=some x->w.cell? ((⟨g,0,none⟩:Addr).add j)=some (.int .u8 x.toNat)) :
  Calls Tryz.prog 253 #[.pointer (some ⟨b,0,none⟩)] w λe w'=>e=.returned (.string ⟨l.toArray⟩)/\Pn.Ext (λk=>k=g) w w':=by
 have hl0:l.length≠0:=by simpa using h0
 have c1:w.drew.cell? ⟨b,1,none⟩=some (.slice (some ⟨g,0,none⟩) l.length cap):=by
  have:w.drew.heap[b]?=some (.cells #[p,.slice (some ⟨g,0,none⟩) l.length cap] 325 (0,0)):=hbk;rw [MZ this];rfl
 have hSD:(Builtin.unsafeSliceData_ #[46] 373 #[.slice (some ⟨g,0,none⟩) l.length cap]).run Tryz.prog w.drew=.ok (.pointer (some ⟨g,0,none⟩)) w.drew:=
  Lib.run_unsafeSliceData_row _ _ _ _ _ _ Go.Pn.aa
 have hUS:(Builtin.unsafeString_ #[373,3] 9 #[.pointer (some ⟨g,0,none⟩),.int .i64 l.length]).run Tryz.prog w.drew=.ok (.string ⟨l.toArray⟩) (w.drew.freeze ⟨g,0,none⟩ l.length):=by
  refine Lib.run_unsafeString_row w.drew 373 3 9 5 Tryz.underlying373 Go.Pn.ae g cur.size (by have hg':w.drew.heap[g]?=some (.cells cur 5 (0,0)):=hg;simp [World.shape?,hg']) l h0 Go.Pn.aa (by unfold maxLen at hcm;omega) ?_;intro j x hx;exact htk j x hx
 have mixed:Tryz.prog.follows Departure.mixedOrders=true:=by kernel_rfl
 go_enter Tryz.func253,Tryz.ntmps253
 go_wp2
 go_region_o
 all_goals (go_wp2;go_ret;exact ⟨rfl,(Pn.Ext.drew _ w).trans (jJ _ rfl)⟩)
theorem lV (b:Nat) (p:Value) (w:World) (hbk:w.heap[b]?=some (.cells #[p,.slice none 0 0] 325 (0,0))) :
  Calls Tryz.prog 253 #[.pointer (some ⟨b,0,none⟩)] w λe w'=>e=.returned (.string ⟨#[]⟩)/\Pn.Ext Pn.No w w':=by
 have hUS:∀ (W:World) (q:Option Addr),(Builtin.unsafeString_ #[373,3] 9 #[.pointer q,.int .i64 0]).run Tryz.prog W=.ok (.string .empty) W:=λW q=>O6 W _ _ _ q;have c1:w.drew.cell? ⟨b,1,none⟩=some (.slice none 0 0):=by
  have:w.drew.heap[b]?=some (.cells #[p,.slice none 0 0] 325 (0,0)):=hbk;rw [MZ this];rfl
 have hSD:(Builtin.unsafeSliceData_ #[46] 373 #[.slice none 0 0]).run Tryz.prog w.drew=.ok (.pointer none) w.drew:=rfl;have mixed:Tryz.prog.follows Departure.mixedOrders=true:=by kernel_rfl
 go_enter Tryz.func253,Tryz.ntmps253
 go_wp2
 go_region_o
 all_goals (go_wp2;go_ret;exact ⟨rfl,Pn.Ext.drew _ w⟩)
theorem j5 (b g:Nat) (p:Value) (cur:Array Value) (w:World) (hbk:w.heap[b]?=some (.cells #[p,.slice (some ⟨g,0,none⟩) 0 0] 325 (0,0))) (hg:w.heap[g]?=some (.cells cur 5 (0,0))) :
  Calls Tryz.prog 253 #[.pointer (some ⟨b,0,none⟩)] w λe w'=>e=.returned (.string ⟨#[]⟩)/\Pn.Ext Pn.No w w':=by
 have hUS:∀ (W:World) (q:Option Addr),(Builtin.unsafeString_ #[373,3] 9 #[.pointer q,.int .i64 0]).run Tryz.prog W=.ok (.string .empty) W:=λW q=>O6 W _ _ _ q;have hlt:b < w.heap.size:=(KS.1 hbk).1;have c1:w.drew.cell? ⟨b,1,none⟩=some (.slice (some ⟨g,0,none⟩) 0 0):=by
  have:w.drew.heap[b]?=some (.cells #[p,.slice (some ⟨g,0,none⟩) 0 0] 325 (0,0)):=hbk;rw [MZ this];rfl
 have hSD:(Builtin.unsafeSliceData_ #[46] 373 #[.slice (some ⟨g,0,none⟩) 0 0]).run Tryz.prog w.drew=.ok (.pointer (some ⟨w.drew.heap.size,0,none⟩)) (w.drew.alloc (.view ⟨g,0,none⟩ 5)):=
  Lib.run_unsafeSliceData_zero w.drew _ _ 5 Tryz.underlying373 ⟨g,0,none⟩ 0 (5,cur.size) (by have hg':w.drew.heap[g]?=some (.cells cur 5 (0,0)):=hg;simp [World.shape?,hg'])
 have c2:(w.drew.alloc (.view ⟨g,0,none⟩ 5)).cell? ⟨b,1,none⟩=some (.slice (some ⟨g,0,none⟩) 0 0):=by
  have:(w.drew.alloc (.view ⟨g,0,none⟩ 5)).heap[b]?=_:=(Lib.alloc_old w.drew _ b hlt).trans hbk;rw [MZ this];rfl
 have c3:(w.alloc (.view ⟨g,0,none⟩ 5)).drew.cell? ⟨b,1,none⟩=some (.slice (some ⟨g,0,none⟩) 0 0):=c2;have c0:w.cell? ⟨b,1,none⟩=some (.slice (some ⟨g,0,none⟩) 0 0):=c1;have mixed:Tryz.prog.follows Departure.mixedOrders=true:=by kernel_rfl
 go_enter Tryz.func253,Tryz.ntmps253
 go_wp2
 go_region_o
 all_goals (go_wp2;go_ret;exact ⟨rfl,(Pn.Ext.drew _ w).trans (Pn.Ext.alloc _ _ _)⟩)
theorem j4 (b g cap:Nat) (p:Value) (w:World) (hc0:cap≠0) (hbk:w.heap[b]?=some (.cells #[p,.slice (some ⟨g,0,none⟩) 0 cap] 325 (0,0))) :
  Calls Tryz.prog 253 #[.pointer (some ⟨b,0,none⟩)] w λe w'=>e=.returned (.string ⟨#[]⟩)/\Pn.Ext Pn.No w w':=by
 have hUS:∀ (W:World) (q:Option Addr),(Builtin.unsafeString_ #[373,3] 9 #[.pointer q,.int .i64 0]).run Tryz.prog W=.ok (.string .empty) W:=λW q=>O6 W _ _ _ q;have c1:w.drew.cell? ⟨b,1,none⟩=some (.slice (some ⟨g,0,none⟩) 0 cap):=by
  have:w.drew.heap[b]?=some (.cells #[p,.slice (some ⟨g,0,none⟩) 0 cap] 325 (0,0)):=hbk;rw [MZ this];rfl
 have hSD:(Builtin.unsafeSliceData_ #[46] 373 #[.slice (some ⟨g,0,none⟩) 0 cap]).run Tryz.prog w.drew=.ok (.pointer (some ⟨g,0,none⟩)) w.drew:=
  Lib.run_unsafeSliceData_row _ _ _ _ _ _ hc0
 clear hc0;have mixed:Tryz.prog.follows Departure.mixedOrders=true:=by kernel_rfl
 go_enter Tryz.func253,Tryz.ntmps253
 go_wp2
 go_region_o
 all_goals (go_wp2;go_ret;exact ⟨rfl,Pn.Ext.drew _ w⟩)
theorem bu_str (b:Nat) (v:Value) (l:List UInt8) (w:World) (h:Pn.cn 325 5 b v (Lib.byteCells l) w) :
  Calls Tryz.prog 253 #[.pointer (some ⟨b,0,none⟩)] w λe w'=>e=.returned (.string ⟨l.toArray⟩)/\Pn.Ext (λk=>k=b\/v.ownBlock=some k) w w':=by
 let ⟨⟨p,_,hb⟩,ho,hne⟩:=h;rw [Lib.byteCells_length] at ho;rcases ho.2 with ⟨rfl,h0⟩ | ⟨g,cap,cur,rfl,_,hg,hnc,hcm,hcs,htk⟩
 ·obtain rfl:=MN h0;exact (lV b p w hb).mono λe w' h=>⟨h.1,h.2.no⟩
 ·cases l with
  | nil=>
   by_cases hc:cap=0
   ·subst hc;exact (j5 b g p cur w hb hg).mono λe w' h=>⟨h.1,h.2.no⟩
   ·exact (j4 b g cap p w hc hb).mono λe w' h=>⟨h.1,h.2.no⟩
  | cons x r=>
   refine (lU b g cap p cur (x :: r) w Go.Pn.ai hb hg hnc hcm Go.Pn.aa ?_).mono λe w' h=>⟨h.1,h.2.mono λk _ hk=>.inr (by rw [hk];rfl)⟩;intro j x hx;exact ho.cells (g:=g) rfl j (.int .u8 x.toNat) (by simp only [Lib.byteCells,KZ,hx,Option.map_some])
end Go.Proofs
namespace Go.Pn
open Go Go.RowKit
section
open Go.Proofs
def P7 (f:Nat) (v0 v1:P3):Option P3:=if v1.size + v0.size<=1000000000 then some (v1 ++ v0) else none
theorem P8 (f n0:Nat) (v0 v1 r:P3) (hm:P7 f v0 v1=some r):Cg Tryz.prog 250 [Qv (pb n0 0),Va v0] [Bw 325 5 n0 (v1)] (Rz (λx:Unit=>Dd) (λx=>[Bw 325 5 n0 (r)])):=by
 unfold P7 at hm;split at hm
 case isFalse=>cases hm
 rename_i hb;obtain rfl:=Option.some.inj hm;refine qX (vs0:=λ_=>[pb n0 0,.string v0]) (R:=.tuple #[.int .i64 v0.size,.nilIface]) ae ?_ ?_
 ·intro M w vs hf
  match vs,hf with
  | [a,b],⟨⟨_,ha⟩,hb,_⟩=>rw [show a=pb n0 0 from ha,Va.str hb]
 ·intro vs v w M hf h;refine (Proofs.bu_ws n0 v (Lib.strCells v1) v0 w h (by rw [OX];omega)).mono ?_;rintro e w' ⟨rfl,h1,v',h2,h3⟩;refine ⟨rfl,h1,v',?_,h3⟩;have:Lib.strCells (v1 ++ v0)=Lib.strCells v1 ++ Lib.strCells v0:=by simp [Lib.strCells]
  rw [this];exact h2
def P9 (f:Nat) (v0:UInt8) (v1:P3):Option P3:=if v1.size + 1<=1000000000 then some (v1.push v0) else none
theorem QA (f n0:Nat) (v0:UInt8) (v1 r:P3) (hm:P9 f v0 v1=some r):Cg Tryz.prog 251 [Qv (pb n0 0),Va v0] [Bw 325 5 n0 (v1)] (Rz (λx:Unit=>Dd) (λx=>[Bw 325 5 n0 (r)])):=by
 unfold P9 at hm;split at hm
 case isFalse=>cases hm
 rename_i hb;obtain rfl:=Option.some.inj hm;refine qX (vs0:=λ_=>[pb n0 0,.int .u8 v0.toNat]) (R:=.nilIface) ae ?_ ?_
 ·intro M w vs hf
  match vs,hf with
  | [a,b],⟨⟨_,ha⟩,hb,_⟩=>rw [show a=pb n0 0 from ha,Va.byte hb]
 ·intro vs v w M hf h;refine (Proofs.bu_wb n0 v (Lib.strCells v1) v0.toNat w h (by rw [OX];omega)).mono ?_;rintro e w' ⟨rfl,h1,v',h2,h3⟩;refine ⟨rfl,h1,v',?_,h3⟩;have:Lib.strCells (v1.push v0)=Lib.strCells v1 ++ [.int .u8 v0.toNat]:=by simp [Lib.strCells,ByteArray.push]
  rw [this];exact h2
def QB (f:Nat) (v0:P3):Option P3:=some v0
theorem QC (f n0:Nat) (v0 r:P3) (hm:QB f v0=some r):Cg Tryz.prog 253 [Qv (pb n0 0)] [Bw 325 5 n0 (v0)] (Rz (λx:Unit=>Va (r)) (λx=>[Dd])):=by
 obtain rfl:=Option.some.inj hm;refine ⟨ae,λvs M w Ft hM hf ho hnd hFM=>?_⟩;obtain ⟨F1,_,rfl,hown,rfl⟩:=ho;obtain ⟨v,rfl,hb⟩:=hown undef
 match vs,hf with
 | [a],⟨⟨_,ha⟩,_⟩=>
  rw [show a=pb n0 0 from ha];refine (Proofs.bu_str n0 v v0.data.toList w (by rw [← Lib.strCells_eq];exact hb)).mono ?_;rintro e w' ⟨rfl,hx⟩;refine ⟨_,[],rfl,hx.mono λk _ hk=>?_,L5,by simp,(),?_⟩
  ·rcases hk with rfl | hk
   ·simp
   ·simp [hk]
  ·exact ⟨Va.mkStr,[],[],rfl,λ_=>rfl,rfl⟩
end
section
open Go.Proofs
@[reducible] def lk:Cx->Nat->Option Ent
 | [],_=>none
 | (s,e) :: Γ,t=>match Nat.beq s t with | true=>some e | false=>lk Γ t
theorem Bq:∀ (Γ:Cx) (n:Nat),lk Γ n=Ao Γ n
 | [],_=>rfl
 | (s,e) :: Γ,t=>by
  show (match Nat.beq s t with | true=>some e | false=>lk Γ t)=(match Nat.beq s t with | true=>some e | false=>Ao Γ t)
  rw [Bq Γ t]
@[reducible] def kv:List Oper->Nat->Option Tmp
 | [],_=>none
 | o :: _,0=>o.dst
 | _ :: l,j + 1=>kv l j
theorem im:∀ (l:List Oper) (j:Nat) (d:Tmp),kv l j=some d->(l[j]?).bind (·.dst)=some d
 | [],_,_,h=>by cases h
 | o :: l,0,d,h=>h
 | o :: l,j + 1,d,h=>by simpa using im l j d h
class Lk (o:Option Ent) (e:outParam Ent):Prop where h:o=some e
instance {e:Ent}:Lk (some e) e:=⟨rfl⟩
@[reducible] def lk2:Cx->Cx->Nat->Option Ent
 | [],Γ,t=>lk Γ t
 | (s,e) :: Δ,Γ,t=>match Nat.beq s t with | true=>some e | false=>lk2 Δ Γ t
theorem Tq:∀ (Δ Γ:Cx) (n:Nat),lk2 Δ Γ n=lk (Δ ++ Γ) n
 | [],_,_=>rfl
 | (s,e) :: Δ,Γ,t=>by
  show (match Nat.beq s t with | true=>some e | false=>lk2 Δ Γ t)=(match Nat.beq s t with | true=>some e | false=>lk (Δ ++ Γ) t)
  rw [Tq Δ Γ t]
instance {Δ Γ:Cx} {n:Nat} {e:Ent} [h:Lk (lk2 Δ Γ n) e]:Lk (lk (Δ ++ Γ) n) e:=⟨(Tq _ _ _).symm.trans h.h⟩
class Gt (o:Option Tmp) (e:outParam Tmp):Prop where h:o=some e
instance {e:Tmp}:Gt (some e) e:=⟨rfl⟩
theorem jH {ops:Array Oper} {L:List Oper} {j d:Nat} (ho:ops.toList=L) (h:kv L j=some d):(ops[j]?).bind (·.dst)=some d:=by subst ho;have:=im _ _ _ h;rwa [MV] at this
@[reducible] def J3 (d n:Nat):Option Unit:=match Nat.ble n d with | true=>none | false=>some ()
class Bf (b:Option Unit):Prop where h:b=some ()
instance:Bf (some ()):=⟨rfl⟩
theorem Bf.lt {d n:Nat} (h:Bf (J3 d n)):Nat.blt d n=true:=by
 have h:=h.h;unfold J3 at h;split at h
 ·cases h
 ·rename_i hb;cases hc:Nat.blt d n with
  | true=>rfl
  | false=>
   have h1:¬ d < n:=λhd=>by
    have:Nat.blt d n=true:=PH hd;rw [this] at hc;cases hc
   have h2:Nat.ble n d=true:=PH aa;rw [h2] at hb;cases hb
class AD (g:Prop) (Γ:Cx) (x:Operand) (e:outParam Ent):Prop where h:g->Od Γ x e
class AO (g:Prop) (P:Program) (op:Op) (Γ:Cx) (e:outParam Ent):Prop where h:g->∀ ty,OR P op ty Γ e
class Ug (g:Prop) (e:Ent) (e':outParam Ent):Prop where h:g->∀ F M w v,e.p F M w v->e'.p F M w v
section
variable {g:Prop} {P:Program} {Γ:Cx}
instance (priority:=low) {e:Ent}:Ug g e e:=⟨λ_ _ _ _ _ h=>h⟩
instance {b c:Bool} {e:Ent}:Ug (b=c) (Gd b c e) e:=⟨λhb _ _ _ _ h=>h.1 hb⟩
instance {b c b2 w:Bool} {e:Ent}:Ug (b=c/\b2=w) (Gd ((b == c) && (b2 == w)) true e) e:=⟨λhb _ _ _ _ h=>h.1 (g2 hb.1 hb.2)⟩
instance {n:Nat} {e e':Ent} [Lk (lk Γ n) e] [Ug g e e']:AD g Γ (.tmp n) e':=⟨λhg ρ M w r=>let ⟨F,hF⟩:=t ((Bq _ _).symm.trans Lk.h) ρ M w r;⟨F,Ug.h hg _ _ _ _ hF⟩⟩
instance {n:Int}:AD g Γ (.const (.int .i64 n)) (Va n):=⟨λ_=>ci⟩
instance {n:Bool}:AD g Γ (.const (.bool n)) (Va n):=⟨λ_=>cb⟩
instance {n:P3}:AD g Γ (.const (.string n)) (Va n):=⟨λ_=>cs⟩
instance (priority:=low) {n:Value}:AD g Γ (.const n) (Qv n):=⟨λ_=>cq⟩
instance {x:Operand} {α:Type} {_:Rep α} {y:α} [AD g Γ x (Va y)]:AO g P (.move x) Γ (Va y):=⟨λh _=>mv (AD.h h)⟩
instance {x:Operand} {α:Type} {_:Rep α} {y:α} [AD g Γ x (Va y)]:AO g P (.assign x) Γ (Va y):=⟨λh _=>sa (AD.h h)⟩
instance {x:Operand} {c:Value} [AD g Γ x (Qv c)]:AO g P (.move x) Γ (Qv c):=⟨λh _=>av (AD.h h)⟩
instance {x:Operand} {c:Value} [AD g Γ x (Qv c)]:AO g P (.assign x) Γ (Qv c):=⟨λh _=>aV (AD.h h)⟩
instance (priority:=low) {x:Operand} {e:Ent} [AD g Γ x e] [Zf e]:AO g P (.move x) Γ e:=⟨λh _=>cH (AD.h h)⟩
instance {x y:Operand} {T T':TypeId} {m n:Int} [AD g Γ x (Va m)] [AD g Γ y (Va n)]:AO g P (.binOp .lss T x y T') Γ (Va (decide (m < n))):=⟨λh _=>lt (AD.h h) (AD.h h)⟩
instance {x y:Operand} {T T':TypeId} {m n:Int} [AD g Γ x (Va m)] [AD g Γ y (Va n)]:AO g P (.binOp .leq T x y T') Γ (Va (decide (m<=n))):=⟨λh _=>le (AD.h h) (AD.h h)⟩
instance {x y:Operand} {T T':TypeId} {m n:Int} [AD g Γ x (Va m)] [AD g Γ y (Va n)]:AO g P (.binOp .gtr T x y T') Γ (Va (decide (m > n))):=⟨λh _=>gt (AD.h h) (AD.h h)⟩
instance {x y:Operand} {T T':TypeId} {m n:Int} [AD g Γ x (Va m)] [AD g Γ y (Va n)]:AO g P (.binOp .geq T x y T') Γ (Va (decide (m>=n))):=⟨λh _=>ge (AD.h h) (AD.h h)⟩
instance {x y:Operand} {T T':TypeId} {m n:Int} [AD g Γ x (Va m)] [AD g Γ y (Va n)]:AO g P (.binOp .eql T x y T') Γ (Va (m == n)):=⟨λh _=>eq (AD.h h) (AD.h h)⟩
instance {x y:Operand} {T T':TypeId} {m n:Int} [AD g Γ x (Va m)] [AD g Γ y (Va n)]:AO g P (.binOp .neq T x y T') Γ (Va (m != n)):=⟨λh _=>ne (AD.h h) (AD.h h)⟩
instance {x y:Operand} {T T':TypeId} {m n:Int} [AD g Γ x (Va m)] [AD g Γ y (Va n)]:AO g P (.binOp .add T x y T') Γ (Va (wr (m + n))):=⟨λh _=>ad (AD.h h) (AD.h h)⟩
instance {x y:Operand} {T T':TypeId} {m n:Int} [AD g Γ x (Va m)] [AD g Γ y (Va n)]:AO g P (.binOp .sub T x y T') Γ (Va (wr (m - n))):=⟨λh _=>sb (AD.h h) (AD.h h)⟩
instance {x y:Operand} {T T':TypeId} {m n:Int} [AD g Γ x (Va m)] [AD g Γ y (Va n)]:AO g P (.binOp .mul T x y T') Γ (Va (wr (m * n))):=⟨λh _=>ml (AD.h h) (AD.h h)⟩
instance {x y:Operand} {T T':TypeId} {m n:P3} [AD g Γ x (Va m)] [AD g Γ y (Va n)]:AO g P (.binOp .eql T x y T') Γ (Va (m.toList == n.toList)):=⟨λh _=>seq (AD.h h) (AD.h h)⟩
instance {x:Operand} {T:TypeId} {b:Bool} [AD g Γ x (Va b)]:AO g P (.unOp .not T x) Γ (Va (!b)):=⟨λh _=>nt (AD.h h)⟩
instance {x:Operand} {e1 e2:Ent} [AD g Γ x (T2 e1 e2)] [Zf e1]:AO g P (.extract x 0) Γ e1:=⟨λh _=>x20 (AD.h h)⟩
instance {x:Operand} {e1 e2:Ent} [AD g Γ x (T2 e1 e2)] [Zf e2]:AO g P (.extract x 1) Γ e2:=⟨λh _=>x21 (AD.h h)⟩
instance {x:Operand} {e1 e2 e3:Ent} [AD g Γ x (T3 e1 e2 e3)] [Zf e1]:AO g P (.extract x 0) Γ e1:=⟨λh _=>Pn.x30 (AD.h h)⟩
instance {x:Operand} {e1 e2 e3:Ent} [AD g Γ x (T3 e1 e2 e3)] [Zf e2]:AO g P (.extract x 1) Γ e2:=⟨λh _=>Pn.x31 (AD.h h)⟩
instance {x:Operand} {e1 e2 e3:Ent} [AD g Γ x (T3 e1 e2 e3)] [Zf e3]:AO g P (.extract x 2) Γ e3:=⟨λh _=>Pn.x32 (AD.h h)⟩
instance {T:TypeId} {x:Operand} {α:Type} {_:Rep α} {y:α} [AD g Γ x (Pt y)] [Ty P T α]:AO g P (.load T x) Γ (Va y):=⟨λh _=>ld (AD.h h)⟩
instance {x:Operand} {b o:Nat} [AD g Γ x (Qv (pb b o))]:AO g P (.nilCheck x) Γ (Qv (pb b o)):=⟨λh _=>aN (AD.h h)⟩
instance {x y:Operand} {T':TypeId} {b c:Bool} [AD g Γ x (Va b)] [AD g Γ y (Va c)]:AO g Tryz.prog (.binOp .eql 4 x y T') Γ (Va (b == c)):=⟨λh _=>beq (AD.h h) (AD.h h) Tryz.underlying4⟩
instance {x y:Operand} {T':TypeId} {b c:Bool} [AD g Γ x (Va b)] [AD g Γ y (Va c)]:AO g Tryz.prog (.binOp .neq 4 x y T') Γ (Va (b != c)):=⟨λh _=>bne (AD.h h) (AD.h h) Tryz.underlying4⟩
instance {x:Operand} {b:P3} [AD g Γ x (Va b)]:AO g Tryz.prog (.call { callee:=.builtin .len,args:=#[x],argTypes:=#[9] }) Γ (Va (b.size:Int)):=⟨λh _=>lns (AD.h h) Tryz.underlying9⟩
class AF (P:Program) (S k:Nat) (α:Type) (hα:Rep α) (β:outParam Type) (hβ:outParam (Rep β)) (f:outParam (α->β)):Prop where h:Fd P S k f
set_option synthInstance.checkSynthOrder false in
instance {S k:Nat} {α β:Type} {hα:Rep α} {hβ:Rep β} {f:α->β} [h:Fd P S k f]:AF P S k α hα β hβ f:=⟨h⟩
instance {S k:Nat} {x:Operand} {α β:Type} {hα:Rep α} {hβ:Rep β} {f:α->β} {y:α} [AD g Γ x (Pt y)] [h:AF P S k α hα β hβ f]:AO g P (.fieldAddr S x k) Γ (Pt (f y)):=⟨λhg _=>have:=h.h;fa (AD.h hg)⟩
instance {T:TypeId} {x:Operand} {α:Type} {_:Rep α} {y:α} [AD g Γ x (Va y)]:AO g P (.box T x) Γ (Pt y):=⟨λh _=>bx (AD.h h)⟩
instance {T:TypeId} {x:Operand} {α:Type} {_:Rep α} {xs:List α} [AD g Γ x (Va xs)] [Es P T α]:AO g P (.call { callee:=.builtin .len,args:=#[x],argTypes:=#[T] }) Γ (Va (xs.length:Int)):=⟨λh _=>ln (AD.h h)⟩
instance {c:Operand} {m:Nat} {b p:Bool} [AD g Γ c (Va b)] [hx:Lk (lk Γ m) (Gd b true (Va p))]:AO g P (.pick c (.tmp m) (.const (.bool false))) Γ (Va (b && p)):=⟨λh _=>qH (AD.h h) ((Bq _ _).symm.trans hx.h)⟩
instance {c:Operand} {m:Nat} {b p:Bool} [AD g Γ c (Va b)] [hx:Lk (lk Γ m) (Gd b false (Va p))]:AO g P (.pick c (.const (.bool true)) (.tmp m)) Γ (Va (b || p)):=⟨λh _=>qE (AD.h h) ((Bq _ _).symm.trans hx.h)⟩
class ADl (g:Prop) (Γ:Cx) (xs:List Operand) (es:List Ent):Prop where h:g->Odl Γ xs es
instance:ADl g Γ [] []:=⟨λ_=>on⟩
instance {x:Operand} {xs:List Operand} {e:Ent} {es:List Ent} [AD g Γ x e] [Zf e] [ADl g Γ xs es]:ADl g Γ (x :: xs) (e :: es):=⟨λh=>oc (AD.h h) (ADl.h h)⟩
class Rn (P:Program) (L:List Oper) (n k:Nat) (l:List Oper) (Γ:Cx) (l':outParam (List Oper)) (Γ':outParam Cx):Prop where
 h:∀ {M0 w0 a w ops Q rr},ops.toList=L->St M0 w0 n Γ a w->(∀ a w,St M0 w0 n Γ' a w->wpListIn (Fr rr) 0 P ops Q l' a w)->wpListIn (Fr rr) 0 P ops Q l a w
variable {L:List Oper} {n k:Nat}
instance {l:List Oper}:Rn P L n 0 l Γ l Γ:=⟨λ_ s h=>h _ _ s⟩
instance {op:Op} {d:Tmp} {ty:TypeId} {pos:String} {ag:Array Edge} {rest l':List Oper} {e:Ent} {Γ':Cx} [AO True P op Γ e] [hn:Bf (J3 d n)] [hr:Rn P L n k rest ((d,e) :: Γ) l' Γ'] :
  Rn P L n (k + 1) (⟨some d,op,ty,pos,ag,none⟩ :: rest) Γ l' Γ':=⟨λho s h=>sq s (AO.h trivial ty) hn.lt λ_ _ s=>hr.h ho s h⟩
instance {op:Op} {d j dj:Tmp} {b want:Bool} {ty:TypeId} {pos:String} {ag:Array Edge} {rest l':List Oper} {e:Ent} {Γ':Cx} [hj:Gt (kv L j) dj] [hl:Lk (lk Γ dj) (Va b)] [AO (b=want) P op Γ e] [hn:Bf (J3 d n)] [hr:Rn P L n k rest ((d,Gd b want e) :: Γ) l' Γ'] :
  Rn P L n (k + 1) (⟨some d,op,ty,pos,ag,some (j,want)⟩ :: rest) Γ l' Γ':=⟨λho s h=>sg s (jH ho hj.h) ((Bq _ _).symm.trans hl.h) (λhb=>AO.h hb ty) hn.lt λ_ _ s=>hr.h ho s h⟩
instance {op:Op} {d j dj:Tmp} {b c b2 want:Bool} {ty:TypeId} {pos:String} {ag:Array Edge} {rest l':List Oper} {e:Ent} {Γ':Cx} [hj:Gt (kv L j) dj] [hl:Lk (lk Γ dj) (Gd b c (Va b2))] [AO (b=c/\b2=want) P op Γ e] [hn:Bf (J3 d n)] [hr:Rn P L n k rest ((d,Gd ((b == c) && (b2 == want)) true e) :: Γ) l' Γ'] :
  Rn P L n (k + 1) (⟨some d,op,ty,pos,ag,some (j,want)⟩ :: rest) Γ l' Γ':=⟨λho s h=>sn s (jH ho hj.h) ((Bq _ _).symm.trans hl.h) (λhb hc=>AO.h (g:=b=c/\b2=want) ⟨hb,hc⟩ ty) hn.lt λ_ _ s=>hr.h ho s h⟩
theorem ru {ops:Array Oper} {l l':List Oper} {Γ':Cx} {M0:Fm} {w0:World} {a:Act} {w:World} {Q:Exit->Act->World->Prop} {rr:Option Nat} (k:Nat) (s:St M0 w0 n Γ a w) [hr:Rn P ops.toList n k l Γ l' Γ'] (h:∀ a w,St M0 w0 n Γ' a w->wpListIn (Fr rr) 0 P ops Q l' a w):wpListIn (Fr rr) 0 P ops Q l a w:=hr.h rfl s h
end
end
section
open Go.Proofs
section
variable {rr:Option Nat} {P:Program} {M0:Fm} {w0:World} {n:Nat} {Γ:Cx} {Q:Exit->Act->World->Prop} {a:Act} {w:World} {ty:TypeId}
theorem la {c:Code} {id:Nat} {S τ:Type} {m:Nat->S->Option S} {f:Nat} {s0:S} {k:S->Option τ} {r:τ} (hm:(m f s0).bind k=some r) (I:S->Act->World->Prop) (h0:I s0 a w) (hz:∀ s,m 0 s=none)
  (hb:∀ o,k o=some r->∀ n z a w,m (n + 1) z=some o->I z a w->c.wpIn (Fr rr) 0 P (Exit.then (λa' w'=>∃ s',m n s'=some o/\I s' a' w') (Exit.inBlock id (Exit.then (I o) Q))) a w)
  (hc:∀ o,k o=some r->∀ a w,I o a w->Q .normal a w):(Code.block id (Code.loop c)).wpIn (Fr rr) 0 P Q a w:=by let ⟨o,ho,hk⟩:=bs hm;exact kw (I o) (wpIn_block (ib m o I f s0 h0 ho hz λn z a w hm s=>hb o hk n z a w hm s)) (hc o hk)
theorem lb {c:Code} {id:Nat} {S ρ τ:Type} {m:Nat->S->Option (Lo S ρ)} {f:Nat} {s0:S} {k:Lo S ρ->Option τ} {r:τ} (hm:(m f s0).bind k=some r) (I:S->Act->World->Prop) (h0:I s0 a w) (hz:∀ s,m 0 s=none)
  (hb:∀ o,k o=some r->∀ n z a w,m (n + 1) z=some o->I z a w->c.wpIn (Fr rr) 0 P (Exit.then (λa' w'=>∃ s',m n s'=some o/\I s' a' w') (Exit.inBlock id (Exit.then (λa w=>∃ z,o=.brk z/\I z a w) Q))) a w)
  (hc:∀ z,k (.brk z)=some r->∀ a w,I z a w->Q .normal a w):(Code.block id (Code.loop c)).wpIn (Fr rr) 0 P Q a w:=by let ⟨o,ho,hk⟩:=bs hm;exact lI o I (wpIn_block (ib m o I f s0 h0 ho hz λn z a w hm s=>hb o hk n z a w hm s)) λz a w e h=>by subst e;exact hc z hk a w h
theorem R {id:Nat} {ops:Array Oper} {d:Code} {Γ':Cx} (k:Nat) (s:St M0 w0 n Γ a w) [hr:Rn P ops.toList n k ops.toList Γ [] Γ'] (h:∀ a w,St M0 w0 n Γ' a w->d.wpIn (Fr rr) 0 P Q a w):(Code.seq (Code.region id ops false) d).wpIn (Fr rr) 0 P Q a w:=
 se (rg (hr.h rfl s λ_ _ s=>nl (h _ _ s)))
theorem R0 {id:Nat} {ops:Array Oper} {Γ':Cx} (k:Nat) (s:St M0 w0 n Γ a w) [hr:Rn P ops.toList n k ops.toList Γ [] Γ'] (h:∀ a w,St M0 w0 n Γ' a w->Q .normal a w):(Code.region id ops false).wpIn (Fr rr) 0 P Q a w:=
 rg (hr.h rfl s λ_ _ s=>nl (h _ _ s))
theorem am {t:Nat} {b:Bool} {c:Code} {ρ:Type} {x y:Option ρ} {r:ρ} (hs:St M0 w0 n Γ a w) [hl:Lk (lk Γ t) (Va b)] (hm:(bif b then x else y)=some r)
  (ht:b=true->x=some r->c.wpIn (Fr rr) 0 P Q a w) (hf:b=false->y=some r->Q .normal a w):(Code.cond (.tmp t) c .skip).wpIn (Fr rr) 0 P Q a w:=
 cm hs ((Bq _ _).symm.trans hl.h) hm ht λh1 h2=>wpIn_skip (hf h1 h2)
theorem aw {t:Nat} {b:Bool} {d:Code} {ρ:Type} {x y:Option ρ} {r:ρ} (hs:St M0 w0 n Γ a w) [hl:Lk (lk Γ t) (Va b)] (hm:(bif b then x else y)=some r)
  (ht:b=true->x=some r->Q .normal a w) (hf:b=false->y=some r->d.wpIn (Fr rr) 0 P Q a w):(Code.cond (.tmp t) .skip d).wpIn (Fr rr) 0 P Q a w:=
 cm hs ((Bq _ _).symm.trans hl.h) hm (λh1 h2=>wpIn_skip (ht h1 h2)) hf
theorem cM {t:Nat} {b:Bool} {c d:Code} {ρ:Type} {x y:Option ρ} {r:ρ} (hs:St M0 w0 n Γ a w) [hl:Lk (lk Γ t) (Va b)] (hm:(bif b then x else y)=some r)
  (ht:b=true->x=some r->c.wpIn (Fr rr) 0 P Q a w) (hf:b=false->y=some r->d.wpIn (Fr rr) 0 P Q a w):(Code.cond (.tmp t) c d).wpIn (Fr rr) 0 P Q a w:=
 cm hs ((Bq _ _).symm.trans hl.h) hm ht hf
class q8 (Γ:Cx) (xs:Array Operand) (es:List Ent):Prop where h:Odl Γ xs.toList es
instance {xs:List Operand} {es:List Ent} [h:ADl True Γ xs es]:q8 Γ xs.toArray es:=⟨h.h trivial⟩
theorem cB {ops:Array Oper} {rest:List Oper} {d:Nat} {f:FuncId} {A:Array TypeId} {args:Array Operand} {ps:List Ent} {pos:String} {ag:Array Edge} {ρ τ:Type} {m:Option ρ} {k:ρ->Option τ} {r:τ} {E:ρ->Ent} (hs:St M0 w0 n Γ a w) (hm:m.bind k=some r)
  (c:∀ x,m=some x->Sp P f ps (E x)) [hA:q8 Γ args ps] [hn:Bf (J3 d n)]
  (cont:∀ x,k x=some r->∀ a' w',St M0 w0 n ((d,E x) :: Γ) a' w'->wpListIn (Fr rr) 0 P ops Q rest a' w') :
  wpListIn (Fr rr) 0 P ops Q (⟨some d,.call { callee:=.value (.func f),args:=args,argTypes:=A },ty,pos,ag,none⟩ :: rest) a w:=
 let ⟨x,hx,hk⟩:=bs hm;sq hs (cc rfl hA.h (c x hx)) hn.lt (cont x hk)
theorem iB {ops:Array Oper} {rest:List Oper} {d T:Nat} {x i:Operand} {pos:String} {ag:Array Edge} {τ α:Type} {hα:Rep α} {xs:List α} {v:Int} {k:α->Option τ} {r:τ} (hs:St M0 w0 n Γ a w) (hm:(idx xs v).bind k=some r)
  [hx:AD True Γ x (Va xs)] [hi:AD True Γ i (Va v)] [he:Es P T α] [hn:Bf (J3 d n)]
  (cont:∀ x,k x=some r->∀ a' w',St M0 w0 n ((d,Pt x) :: Γ) a' w'->wpListIn (Fr rr) 0 P ops Q rest a' w') :
  wpListIn (Fr rr) 0 P ops Q (⟨some d,.indexAddr T x i,ty,pos,ag,none⟩ :: rest) a w:=
 let ⟨_,hx',hk⟩:=bs hm;sq hs (ix (hx.h trivial) (hi.h trivial) hx') hn.lt (cont _ hk)
class Su (Γ' Γ:Cx):Prop where h:∀ t e,Ao Γ' t=some e->Ao Γ t=some e
instance:Su [] Γ:=⟨λ_ _ h=>by cases h⟩
instance {k:Nat} {e:Ent} {Γ':Cx} [h:Lk (lk Γ k) e] [h':Su Γ' Γ]:Su ((k,e) :: Γ') Γ:=⟨λt e1 he=>by
 rw [Ak] at he;unfold put at he;split at he
 ·rename_i ht;subst ht;cases he;exact (Bq _ _).symm.trans h.h
 ·exact h'.h t e1 he⟩
theorem St.fi {Γ':Cx} (s:St M0 w0 n Γ a w) [h:Su Γ' Γ]:St M0 w0 n Γ' a w:=StF.less s h.h
end
section
variable {P:Program} {M0:Fm} {w0:World} {n:Nat} {Γ:Cx} {a:Act} {w:World}
@[reducible] def kq (k d:Nat):Option Unit:=match Nat.beq k d with | true=>none | false=>some ()
theorem fL {k d:Nat} (h:Bf (kq k d)):Nat.beq k d=false:=by have h:=h.h;unfold kq at h;split at h;cases h;assumption
class AG (Γ:Cx) (b:Nat) (K:outParam Nat) (e:outParam Ent):Prop where h:Ao Γ K=some e
instance {α:Type} {_:Rep α} {K b:Nat} {x:α}:AG ((K,Mg b x) :: Γ) b K (Mg b x):=⟨by simp [Ao]⟩
instance (priority:=low) {K k b:Nat} {e e':Ent} [h:AG Γ b K e] [hn:Bf (kq k K)]:AG ((k,e') :: Γ) b K e:=⟨by
 have:=fL hn;show (match Nat.beq k K with | true=>some e' | false=>Ao Γ K)=some e
 rw [this];exact h.h⟩
instance {K b:Nat} {e:Ent} [h:AG Γ b K e]:AG ([] ++ Γ) b K e:=⟨h.h⟩
instance {K b:Nat} {p:Nat×Ent} {Δ:Cx} {e:Ent} [h:AG (p :: (Δ ++ Γ)) b K e]:AG ((p :: Δ) ++ Γ) b K e:=⟨h.h⟩
class AC (Γ:Cx) (c:Value) (K:outParam Nat) (e:outParam Ent):Prop where h:Ao Γ K=some (At c e)
instance {K:Nat} {c:Value} {e:Ent}:AC ((K,At c e) :: Γ) c K e:=⟨by simp [Ao]⟩
class RC (P:Program) (Γ:Cx) (r:ResultVar) (e:Ent):Prop where h:RS P Γ r e
instance {t:Nat} {e:Ent} [h:Lk (lk Γ t) e] [Zf e]:RC P Γ (.tmp t) e:=⟨rt ((Bq _ _).symm.trans h.h)⟩
instance {t m:Nat} {α:Type} {_:Rep α} [h:Lk (lk Γ t) (Qv (.slice none 0 m))]:RC P Γ (.tmp t) (Va ([]:List α)):=⟨ro (hO (Pn.t ((Bq _ _).symm.trans h.h)))⟩
instance {t T K b:Nat} {α:Type} {_:Rep α} {x:α} [h:Lk (lk Γ t) (Qv (pb b 0))] [h2:AG Γ b K (Mg b x)] [Ty P T α]:RC P Γ (.cell t T) (Va x):=⟨rc ((Bq _ _).symm.trans h.h) h2.h⟩
class kC (P:Program) (Γ:Cx) (rs:Array ResultVar) (e:Ent):Prop where h:RV P Γ rs e
instance {r:ResultVar} {e:Ent} [h:RC P Γ r e]:kC P Γ #[r] e:=⟨rv1 h.h⟩
instance {r1 r2:ResultVar} {e1 e2:Ent} [h1:RC P Γ r1 e1] [h2:RC P Γ r2 e2]:kC P Γ #[r1,r2] (T2 e1 e2):=⟨rv2 h1.h h2.h⟩
instance {r1 r2 r3:ResultVar} {e1 e2 e3:Ent} [h1:RC P Γ r1 e1] [h2:RC P Γ r2 e2] [h3:RC P Γ r3 e3]:kC P Γ #[r1,r2,r3] (T3 e1 e2 e3):=⟨rv3 h1.h h2.h h3.h⟩
theorem rT {fn:Func} {rr:Option Nat} {Q:Exit->Act->World->Prop} {e:Ent} {r1:ResultVar} (hD:M0.ds=[]) (hs:St M0 w0 n Γ a w) (hq:eH P fn (cC M0 w0 e) .ret a w=Q .ret a w) (hr:fn.results=#[r1]) [h:kC P Γ #[r1] e]:Code.ret.wpIn (Fr rr) 0 P Q a w:=wpIn_ret (hq ▸ rn hD hs hr h.h)
theorem rU {fn:Func} {rr:Option Nat} {Q:Exit->Act->World->Prop} {e:Ent} {r1 r2:ResultVar} (hD:M0.ds=[]) (hs:St M0 w0 n Γ a w) (hq:eH P fn (cC M0 w0 e) .ret a w=Q .ret a w) (hr:fn.results=#[r1,r2]) [h:kC P Γ #[r1,r2] e]:Code.ret.wpIn (Fr rr) 0 P Q a w:=wpIn_ret (hq ▸ rn hD hs hr h.h)
theorem rV {fn:Func} {rr:Option Nat} {Q:Exit->Act->World->Prop} {e:Ent} {r1 r2 r3:ResultVar} (hD:M0.ds=[]) (hs:St M0 w0 n Γ a w) (hq:eH P fn (cC M0 w0 e) .ret a w=Q .ret a w) (hr:fn.results=#[r1,r2,r3]) [h:kC P Γ #[r1,r2,r3] e]:Code.ret.wpIn (Fr rr) 0 P Q a w:=wpIn_ret (hq ▸ rn hD hs hr h.h)
end
end
section
set_option synthInstance.checkSynthOrder false
class Kw (g:Prop) {ρ:Type} (m:Option ρ) (x:outParam ρ):Prop where h:g->m=some x
theorem Kw.e {ρ:Type} {m:Option ρ} {x:ρ} (h:Kw True m x):m=some x:=h.h trivial
theorem bk {α β:Type} {o:Option α} {f:α->Option β} {r:β} (h:o.bind f=some r):∃ x,Kw True o x/\f x=some r:=let ⟨x,h1,h2⟩:=bs h;⟨x,⟨λ_=>h1⟩,h2⟩
theorem gk {α ρ:Type} [Inhabited α] {B c:Bool} {o:Option α} {k:α->Option ρ} {r:ρ} (h:B=c->o.bind k=some r):∃ x,Kw (B=c) o x/\(B=c->k x=some r):=let ⟨x,h1,h2⟩:=gx h;⟨x,⟨h1⟩,h2⟩
class Kf (g:Prop) {ρ:Type} (m:Option ρ) (x:outParam ρ):Prop where h:g->m=some x
section
variable {g:Prop} {ρ:Type} {m:Option ρ} {x:ρ}
instance [h:Kw g m x]:Kf g m x:=⟨h.h⟩
end
class Pa (b p:Bool) (r:outParam Bool):Prop where
 h:b=true->p=r
 z:b=false->r=false
class Po (b p:Bool) (r:outParam Bool):Prop where
 h:b=false->p=r
 z:b=true->r=true
theorem eV {b p r:Bool} (h:b=true->some p=some r) (e:b=false->some false=some r):Pa b p r:=⟨λx=>si (h x),λx=>(si (e x)).symm⟩
theorem eU {b p r:Bool} (h:b=false->some p=some r) (e:b=true->some true=some r):Po b p r:=⟨λx=>si (h x),λx=>(si (e x)).symm⟩
class Cn (P:Program) (f:FuncId) {ρ:outParam Type} (m:outParam (Option ρ)) (ps:outParam (List Ent)) (E:outParam (ρ->Ent)):Prop where h:∀ x,m=some x->Sp P f ps (E x)
section
variable {g:Prop} {P:Program} {Γ:Cx}
class AX (g:Prop) (Γ:Cx) (x:Operand) (e:Ent):Prop where h:g->Od Γ x e
instance {x:Operand} {e:Ent} [h:AD g Γ x e]:AX g Γ x e:=⟨h.h⟩
instance (priority:=low) {x:Operand} {K:Nat} {c:Value} {e:Ent} [h:AD g Γ x (Qv c)] [h2:AC Γ c K e]:AX g Γ x e:=⟨λhg=>ta (h.h hg) h2.h⟩
class mR (g:Prop) (Γ:Cx) (xs:List Operand) (es:List Ent):Prop where h:g->Odl Γ xs es
instance:mR g Γ [] []:=⟨λ_=>on⟩
instance {x:Operand} {xs:List Operand} {e:Ent} {es:List Ent} [h:AX g Γ x e] [Zf e] [h':mR g Γ xs es]:mR g Γ (x :: xs) (e :: es):=⟨λhg=>oc (h.h hg) (h'.h hg)⟩
instance {f:FuncId} {ρ:Type} {m:Option ρ} {ps:List Ent} {E:ρ->Ent} {xs:List Operand} {A:Array TypeId} {x:ρ} [hc:Cn P f m ps E] [hA:mR g Γ xs ps] [hk:Kf g m x] :
  AO g P (.call { callee:=.value (.func f),args:=xs.toArray,argTypes:=A }) Γ (E x):=⟨λhg _=>cc rfl (hA.h hg) (hc.h x (hk.h hg))⟩
instance {T:TypeId} {x i:Operand} {α:Type} {hα:Rep α} {xs:List α} {v:Int} {y:α} [hx:AD g Γ x (Va xs)] [hi:AX g Γ i (Va v)] [he:Es P T α] [hk:Kf g (idx xs v) y] :
  AO g P (.indexAddr T x i) Γ (Pt y):=⟨λhg _=>ix (hx.h hg) (hi.h hg) (hk.h hg)⟩
instance (priority:=high) {c:Operand} {m:Nat} {b p r:Bool} [hc:AD g Γ c (Va b)] [hx:Lk (lk Γ m) (Gd b true (Va p))] [hp:Pa b p r]:AO g P (.pick c (.tmp m) (.const (.bool false))) Γ (Va r):=⟨λh _=>pa (hc.h h) ((Bq _ _).symm.trans hx.h) hp.h hp.z⟩
instance (priority:=high) {c:Operand} {m:Nat} {b p r:Bool} [hc:AD g Γ c (Va b)] [hx:Lk (lk Γ m) (Gd b false (Va p))] [hp:Po b p r]:AO g P (.pick c (.const (.bool true)) (.tmp m)) Γ (Va r):=⟨λh _=>po (hc.h h) ((Bq _ _).symm.trans hx.h) hp.h hp.z⟩
instance {c:Operand} {m:Nat} {B w b p:Bool} [hc:AD (B=w) Γ c (Va b)] [hx:Lk (lk Γ m) (Gd ((B == w) && (b == true)) true (Va p))]:AO (B=w) P (.pick c (.tmp m) (.const (.bool false))) Γ (Va (b && p)):=⟨λh _=>pJ (hc.h h) ((Bq _ _).symm.trans hx.h) λe=>g2 h e⟩
instance {c:Operand} {m:Nat} {B w b p:Bool} [hc:AD (B=w) Γ c (Va b)] [hx:Lk (lk Γ m) (Gd ((B == w) && (b == false)) true (Va p))]:AO (B=w) P (.pick c (.const (.bool true)) (.tmp m)) Γ (Va (b || p)):=⟨λh _=>pH (hc.h h) ((Bq _ _).symm.trans hx.h) λe=>g2 h e⟩
instance {x y:Operand} {T T':TypeId} {m n:Int} [hx:AD g Γ x (Va m)] [hy:AD g Γ y (Va n)]:AO g P (.call { callee:=.builtin .max,args:=#[x,y],argTypes:=#[T,T'] }) Γ (Va (if n > m then n else m)):=⟨λh _=>mx (hx.h h) (hy.h h)⟩
instance {K b:Nat} {cs:P2}:AG ((K,Mr b cs) :: Γ) b K (Mr b cs):=⟨by simp [Ao]⟩
instance {T K b:Nat} {x:Operand} {α:Type} {_:Rep α} {y:α} [hx:AD g Γ x (Qv (pb b 0))] [hk:AG Γ b K (Mg b y)] [Ty P T α]:AO g P (.load T x) Γ (Va y):=⟨λh _=>lm (hx.h h) hk.h⟩
class qZ (α:Type) (hα:Rep α) (off:Nat) (β:outParam Type) (hβ:outParam (Rep β)) (f:outParam (α->β)):Prop where h:DF f off
instance {off:Nat} {α β:Type} {hα:Rep α} {hβ:Rep β} {f:α->β} [h:DF f off]:qZ α hα off β hβ f:=⟨h⟩
instance (priority:=low) {T K b off:Nat} {x:Operand} {α β:Type} {hα:Rep α} {hβ:Rep β} {y:α} {f:α->β} [hx:AD g Γ x (Qv (pb b off))] [hk:AG Γ b K (Mg b y)] [hf:qZ α hα off β hβ f] [Ty P T β]:AO g P (.load T x) Γ (Va (f y)):=⟨λh _=>have:=hf.h;lf (hx.h h) hk.h⟩
class Fo (P:Program) (S k:Nat) (off:outParam Nat):Prop where h:∃ m,Mb P S k=some (off,m + 1)
class Pq (o off:Nat) (q:outParam Nat):Prop where h:o + off=q
instance {o:Nat}:Pq 0 o o:=⟨Nat.zero_add o⟩
instance (priority:=low) {o:Nat}:Pq o 0 o:=⟨rfl⟩
instance {S k b o off q:Nat} {x:Operand} [hx:AD g Γ x (Qv (pb b o))] [hf:Fo P S k off] [hq:Pq o off q]:AO g P (.fieldAddr S x k) Γ (Qv (pb b q)):=⟨λh _=>let ⟨_,e⟩:=hf.h;ax (hx.h h) e hq.h⟩
@[reducible] def ec:P2->Nat->Option Value
 | [],_=>none
 | c :: _,0=>some c
 | _ :: l,j + 1=>ec l j
theorem DO:∀ (l:P2) (j:Nat),ec l j=l[j]?
 | [],_=>rfl
 | _ :: _,0=>rfl
 | _ :: l,j + 1=>by simpa [ec] using DO l j
class Nt (o:Option Value) (c:outParam Value):Prop where h:o=some c
instance {c:Value}:Nt (some c) c:=⟨rfl⟩
instance (priority:=low) {T K b off:Nat} {x:Operand} {β:Type} {_:Rep β} {cs:P2} {c:Value} [hx:AD g Γ x (Qv (pb b off))] [hk:AG Γ b K (Mr b cs)] [hc:Nt (ec cs off) c] [Ty P T (List β)]:AO g P (.load T x) Γ (Qv c):=⟨λh _=>bw (List β) (hx.h h) hk.h ((DO _ _).symm.trans hc.h) rfl rfl⟩
instance (priority:=low) {T K b off:Nat} {x:Operand} {cs:P2} {c:Value} [hx:AD g Γ x (Qv (pb b off))] [hk:AG Γ b K (Mr b cs)] [hc:Nt (ec cs off) c] [Ty P T Int]:AO g P (.load T x) Γ (Qv c):=⟨λh _=>bw Int (hx.h h) hk.h ((DO _ _).symm.trans hc.h) rfl rfl⟩
class AR (Γ:Cx) (c:Value) (K ei:outParam Nat) (α:outParam Type) (hα:outParam (Rep α)) (xs:outParam (List α)):Prop where h:Ao Γ K=some (Ow ei c xs)
instance {K ei:Nat} {c:Value} {α:Type} {hα:Rep α} {xs:List α}:AR ((K,Ow ei c xs) :: Γ) c K ei α hα xs:=⟨by simp [Ao]⟩
instance (priority:=low) {K k ei:Nat} {c:Value} {e':Ent} {α:Type} {hα:Rep α} {xs:List α} [h:AR Γ c K ei α hα xs] [hn:Bf (kq k K)]:AR ((k,e') :: Γ) c K ei α hα xs:=⟨by
 have:=fL hn;show (match Nat.beq k K with | true=>some e' | false=>Ao Γ K)=some (Ow ei c xs)
 rw [this];exact h.h⟩
instance {K ei:Nat} {c:Value} {α:Type} {hα:Rep α} {xs:List α} [h:AR Γ c K ei α hα xs]:AR ([] ++ Γ) c K ei α hα xs:=⟨h.h⟩
instance {K ei:Nat} {c:Value} {p:Nat×Ent} {Δ:Cx} {α:Type} {hα:Rep α} {xs:List α} [h:AR (p :: (Δ ++ Γ)) c K ei α hα xs]:AR ((p :: Δ) ++ Γ) c K ei α hα xs:=⟨h.h⟩
instance {T K e:Nat} {x i:Operand} {c:Value} {α:Type} {hα:Rep α} {xs:List α} {m:Int} {y:α} [hx:AD g Γ x (Qv c)] [hk:AR Γ c K e α hα xs] [hi:AX g Γ i (Va m)] [he:Ea P T e α] [h:Kf g (idx xs m) y]:AO g P (.indexAddr T x i) Γ (Pe c (m.toNat * Rep.sz α)):=⟨λhg _=>bD (hx.h hg) hk.h (hi.h hg) (h.h hg)⟩
instance {T K e:Nat} {x:Operand} {c:Value} {α:Type} {hα:Rep α} {xs:List α} {m:Int} {y:α} [hx:AD g Γ x (Pe c (m.toNat * Rep.sz α))] [hk:AR Γ c K e α hα xs] [Ty P T α] [h:Kf g (idx xs m) y]:AO g P (.load T x) Γ (Va y):=⟨λhg _=>lq (hx.h hg) hk.h (Dl (h.h hg))⟩
instance {T K e:Nat} {x:Operand} {c:Value} {α:Type} {hα:Rep α} {xs:List α} [hx:AD g Γ x (Qv c)] [hk:AR Γ c K e α hα xs] [he:Ea P T e α]:AO g P (.call { callee:=.builtin .len,args:=#[x],argTypes:=#[T] }) Γ (Va (xs.length:Int)):=⟨λhg _=>ig (hx.h hg) hk.h⟩
class Smz (α:Type) [Rep α]:Prop where h:Nat.ble (Rep.sz α) 1000000=true
theorem Smz.le {α:Type} [Rep α] [h:Smz α] {k:Nat} (hk:Nat.ble k 16=true):Nat.ble (k * Rep.sz α) 16777216=true:=by have h1:=KY h.h;have h2:=KY hk;refine PH ?_;exact LW (OP h2 h1) (by decide)
instance {T e:Nat} {α:Type} {_:Rep α} [Ea P T e α] [Smz α] {x:Operand} {y:α} [hx:AX g Γ x (Va y)]:AO g P (.buildSlice T 1 #[(0,x)]) Γ (Va [y]):=⟨λhg _=>eG (o1 (hx.h hg) o0) rfl rfl (Smz.le rfl)⟩
instance {T e:Nat} {α:Type} {_:Rep α} [Ea P T e α] [Smz α] {x x2:Operand} {y y2:α} [hx:AX g Γ x (Va y)] [hx2:AX g Γ x2 (Va y2)]:AO g P (.buildSlice T 2 #[(0,x),(1,x2)]) Γ (Va [y,y2]):=⟨λhg _=>eG (o1 (hx.h hg) (o1 (hx2.h hg) o0)) rfl rfl (Smz.le rfl)⟩
theorem Vc {ks:P1} {t:Nat} {Δ Γ:Cx} (ht:t∈ks):Ao (Bx ks Δ ++ Γ) t=Ao (Δ ++ Γ) t:=by
 induction Δ with
 | nil=>rfl
 | cons p Δ ih=>
  let ⟨s,e⟩:=p;show Ao ((match ks.contains s with | true=>(s,e) :: Bx ks Δ | false=>Bx ks Δ) ++ Γ) t=(match Nat.beq s t with | true=>some e | false=>Ao (Δ ++ Γ) t)
  split
  ·show (match Nat.beq s t with | true=>some e | false=>Ao (Bx ks Δ ++ Γ) t)=_
   rw [ih]
  ·rename_i hc;split
   ·rename_i hb;have:=MX hb;subst this;simp at hc;exact absurd ht hc
   ·exact ih
class Ot (op:Op) (n:Nat):Prop where h:n∈Av op
class Ml (n:Nat) (xs:List Operand):Prop where h:Operand.tmp n∈xs
instance {n:Nat} {xs:List Operand}:Ml n (.tmp n :: xs):=⟨by simp⟩
instance (priority:=low) {n:Nat} {x:Operand} {xs:List Operand} [h:Ml n xs]:Ml n (x :: xs):=⟨by simp [h.h]⟩
instance {n:Nat}:Ot (.move (.tmp n)) n:=⟨by simp [Av,Op.operands]⟩
instance {n:Nat} {o:BinOp} {T T':TypeId} {y:Operand}:Ot (.binOp o T (.tmp n) y T') n:=⟨by simp [Av,Op.operands]⟩
instance {n:Nat} {o:BinOp} {T T':TypeId} {x:Operand}:Ot (.binOp o T x (.tmp n) T') n:=⟨by simp [Av,Op.operands]⟩
instance {n T:Nat}:Ot (.load T (.tmp n)) n:=⟨by simp [Av,Op.operands]⟩
instance {n:Nat}:Ot (.nilCheck (.tmp n)) n:=⟨by simp [Av,Op.operands]⟩
instance {n S k:Nat}:Ot (.fieldAddr S (.tmp n) k) n:=⟨by simp [Av,Op.operands]⟩
instance {n T:Nat} {y:Operand}:Ot (.indexAddr T (.tmp n) y) n:=⟨by simp [Av,Op.operands]⟩
instance {n T:Nat} {x:Operand}:Ot (.indexAddr T x (.tmp n)) n:=⟨by simp [Av,Op.operands]⟩
instance {n:Nat} {x y:Operand}:Ot (.pick (.tmp n) x y) n:=⟨by simp [Av,Op.operands]⟩
instance {n:Nat} {x y:Operand}:Ot (.pick x (.tmp n) y) n:=⟨by simp [Av,Op.operands]⟩
instance {n:Nat} {x y:Operand}:Ot (.pick x y (.tmp n)) n:=⟨by simp [Av,Op.operands]⟩
instance {n:Nat} {f:FuncId} {xs:List Operand} {A:Array TypeId} [h:Ml n xs]:Ot (.call { callee:=.value (.func f),args:=xs.toArray,argTypes:=A }) n:=⟨by simp only [Av,Op.operands,Call.operands,NW];exact ⟨.tmp n,by simp [h.h],rfl⟩⟩
instance {n:Nat} {f:Builtin} {xs:List Operand} {A:Array TypeId} [h:Ml n xs]:Ot (.call { callee:=.builtin f,args:=xs.toArray,argTypes:=A }) n:=⟨by simp only [Av,Op.operands,Call.operands,NW];exact ⟨.tmp n,by simp [h.h],rfl⟩⟩
instance {op:Op} {Δ:Cx} {n:Nat} {e:Ent} [hl:Lk (lk2 Δ Γ n) e] [ho:Ot op n]:Lk (lk (Bx (Av op) Δ ++ Γ) n) e:=⟨by
 rw [Bq];have h1:=hl.h;rw [Tq,Bq] at h1;exact (Vc ho.h).trans h1⟩
class Nk (Δ:Cx) (K:Nat):Prop where h:Ao Δ K=none
instance {K:Nat}:Nk [] K:=⟨rfl⟩
instance {Δ:Cx} {K k:Nat} {e:Ent} [hn:Bf (kq k K)] [h:Nk Δ K]:Nk ((k,e) :: Δ) K:=⟨by
 have:=fL hn;show (match Nat.beq k K with | true=>some e | false=>Ao Δ K)=none
 rw [this];exact h.h⟩
theorem Jo {Δ Γ:Cx} {K:Nat} (h:Ao Δ K=none):Ao (Δ ++ Γ) K=Ao Γ K:=by
 induction Δ with
 | nil=>rfl
 | cons p Δ ih=>
  let ⟨k,e⟩:=p;have h':(match Nat.beq k K with | true=>some e | false=>Ao Δ K)=none:=h
  show (match Nat.beq k K with | true=>some e | false=>Ao (Δ ++ Γ) K)=Ao Γ K
  split at h'
  ·cases h'
  ·exact ih h'
theorem Gp {Δ:Cx} {ks:P1} {K:Nat} (h:Ao Δ K=none):Ao (Bx ks Δ) K=none:=by
 cases hl:Ao (Bx ks Δ) K with
 | none=>rfl
 | some e=>exact absurd (Bp hl).2 (by rw [h];simp)
instance {Δ:Cx} {ks:P1} {b K:Nat} {e:Ent} [h:AG Γ b K e] [hn:Nk Δ K]:AG (Bx ks Δ ++ Γ) b K e:=⟨(Jo (Gp hn.h)).trans h.h⟩
instance {Δ:Cx} {ks:P1} {c:Value} {K ei:Nat} {α:Type} {hα:Rep α} {xs:List α} [h:AR Γ c K ei α hα xs] [hn:Nk Δ K]:AR (Bx ks Δ ++ Γ) c K ei α hα xs:=⟨(Jo (Gp hn.h)).trans h.h⟩
class Fs (P:Program) (L:List Oper) (k:Nat) (l:List Oper) (i:Nat) (Γ Δ:Cx) (Δ':outParam Cx) (l':outParam (List Oper)):Prop where
 h:∀ {ops:Array Oper},ops.toList=L->L.drop i=l->Fl P ops Γ i Δ->Fl P ops Γ (i + k) Δ'/\L.drop (i + k)=l'
variable {L:List Oper} {k i:Nat} {Δ Δ':Cx} {l':List Oper}
instance {l:List Oper}:Fs P L 0 l i Γ Δ Δ l:=⟨λ_ h2 h=>⟨h,h2⟩⟩
theorem iu {ops:Array Oper} {L l:List Oper} {o:Oper} {i:Nat} (h:ops.toList=L) (hd:L.drop i=o :: l):ops[i]?=some o/\L.drop (i + 1)=l:=by subst h;constructor;rw [← MV,← List.head?_drop,hd];rfl;rw [← PK,hd];rfl
instance {l:List Oper} {op:Op} {d:Tmp} {ty:TypeId} {pos:String} {ag:Array Edge} {e:Ent} [ho:AO True P op (Bx (Av op) Δ ++ Γ) e] [hr:Fs P L k l (i + 1) Γ ((d,e) :: Δ) Δ' l'] :
  Fs P L (k + 1) (⟨some d,op,ty,pos,ag,none⟩ :: l) i Γ Δ Δ' l':=⟨λh1 h2 h=>by
 have h3:=iu h1 h2;have:=hr.h h1 h3.2 (.cons h h3.1 (ho.h trivial ty))
 rwa [Nat.add_right_comm] at this⟩
instance {l:List Oper} {op:Op} {d j dj:Tmp} {b want:Bool} {ty:TypeId} {pos:String} {ag:Array Edge} {e:Ent} [hj:Gt (kv L j) dj] [hl:Lk (lk Δ dj) (Va b)] [ho:AO (b=want) P op (Bx (Av op) Δ ++ Γ) e] [hr:Fs P L k l (i + 1) Γ ((d,Gd b want e) :: Δ) Δ' l'] :
  Fs P L (k + 1) (⟨some d,op,ty,pos,ag,some (j,want)⟩ :: l) i Γ Δ Δ' l':=⟨λh1 h2 h=>by
 have h3:=iu h1 h2;have:=hr.h h1 h3.2 (.cong h h3.1 (jH h1 hj.h) ((Bq _ _).symm.trans hl.h) λhb=>ho.h hb ty)
 rwa [Nat.add_right_comm] at this⟩
theorem fW {n id:Nat} {M0:Fm} {w0:World} [hmx:Mx P] {rr:Option Nat} {ops:Array Oper} {Q:Exit->Act->World->Prop} {a:Act} {w:World} (m:Nat) (hs:St M0 w0 n Γ a w) [hfl:Fs P ops.toList m ops.toList 0 Γ [] Δ l'] (hf:Jr ops m=true)
  (hdj:Δ.all (λx=>(Ao Γ x.1).isNone)=true) (hn:Δ.all (λx=>Nat.blt x.1 n)=true)
  (K:∀ a' w',St M0 w0 n (Δ ++ Γ) a' w'->wpListIn (Fr rr) 0 P ops Q l' a' w'):(Code.region id ops true).wpIn (Fr rr) 0 P Q a w:=by have:=hfl.h rfl rfl .nil;rw [MJ] at this;exact Qy (m:=m) hs this.1 hf hdj hn λa' w' s=>by rw [this.2];exact K a' w' s
class Zc (P:Program) (T:TypeId) (cs:outParam P2):Prop where h:∀ ty Γ,OR P (.alloc T) ty Γ (MR cs)
theorem aR {n:Nat} {M0:Fm} {w0:World} {rr:Option Nat} {Q:Exit->Act->World->Prop} {a:Act} {w:World} {ops:Array Oper} {rest:List Oper} {d T:Nat} {ty:TypeId} {pos:String} {ag:Array Edge} {cs:P2} (K:Nat)
  (hs:St M0 w0 n Γ a w) [hz:Zc P T cs] [hn:Bf (J3 d n)] [hdk:Bf (kq d K)]
  (k:∀ b a' w',St M0 w0 n ((d,Qv (pb b 0)) :: (K,Mr b cs) :: (d,MR cs) :: Γ) a' w'->wpListIn (Fr rr) 0 P ops Q rest a' w'):wpListIn (Fr rr) 0 P ops Q (⟨some d,.alloc T,ty,pos,ag,none⟩ :: rest) a w:=
 bt K hs (hz.h ty Γ) hn.lt (fL hdk) k
theorem sW {n:Nat} {M0:Fm} {w0:World} {rr:Option Nat} {Q:Exit->Act->World->Prop} {a:Act} {w:World} {ops:Array Oper} {rest:List Oper} {T K b:Nat} {x y:Operand} {ty:TypeId} {pos:String} {ag:Array Edge} {α:Type} {_:Rep α} [Ty P T α] {v:α} {cs:P2}
  (hs:St M0 w0 n Γ a w) [hx:AD True Γ x (Qv (pb b 0))] [hk:AG Γ b K (Mr b cs)] [hy:AD True Γ y (Va v)] (hl:cs.length=Rep.sz α)
  (k:∀ w',St M0 w0 n ((K,Mg b v) :: Γ) a w'->wpListIn (Fr rr) 0 P ops Q rest a w'):wpListIn (Fr rr) 0 P ops Q (⟨none,.store T x y,ty,pos,ag,none⟩ :: rest) a w:=
 cD hs (hx.h trivial) hk.h (hy.h trivial) hl k
end
end
section
@[reducible] def bi:Cx->Cx->Cx
 | [],Γ=>Γ
 | p :: l,Γ=>p :: bi l Γ
class Pj (Γ:Cx) (ks:P1) (Γ':outParam Cx):Prop where h:∀ t e,Ao Γ' t=some e->Ao Γ t=some e
instance {Γ:Cx}:Pj Γ [] []:=⟨λ_ _ h=>by cases h⟩
instance {Γ Γ':Cx} {k:Nat} {ks:P1} {e:Ent} [h:Lk (lk Γ k) e] [h':Pj Γ ks Γ']:Pj Γ (k :: ks) ((k,e) :: Γ'):=⟨λt e1 he=>by
 rw [Ak] at he;unfold put at he;split at he
 ·rename_i ht;subst ht;cases he;exact (Bq _ _).symm.trans h.h
 ·exact h'.h t e1 he⟩
theorem St.pj {M0:Fm} {w0:World} {n:Nat} {Γ Γ':Cx} {a:Act} {w:World} (s:St M0 w0 n Γ a w) (ks:P1) [h:Pj Γ ks Γ']:St M0 w0 n Γ' a w:=StF.less s h.h
section
variable {rr:Option Nat} {P:Program} {M0:Fm} {w0:World} {nn:Nat} {Γ Γ0:Cx} {Q:Exit->Act->World->Prop} {a:Act} {w:World}
theorem lA {c:Code} {id:Nat} {S τ:Type} {m:Nat->S->Option S} {f:Nat} {s0:S} {k:S->Option τ} {r:τ} (hm:(m f s0).bind k=some r) (ks:P1) (s:St M0 w0 nn Γ a w) [Pj Γ ks Γ0] (C:S->Cx) (h0:St M0 w0 nn (bi (C s0) Γ0) a w) (hz:∀ s,m 0 s=none)
  (hb:∀ o,k o=some r->∀ n z a w,m (n + 1) z=some o->St M0 w0 nn (bi (C z) Γ0) a w->c.wpIn (Fr rr) 0 P (Exit.then (λa' w'=>∃ s',m n s'=some o/\St M0 w0 nn (bi (C s') Γ0) a' w') (Exit.inBlock id (Exit.then (λa w=>St M0 w0 nn (bi (C o) Γ0) a w) Q))) a w)
  (hc:∀ o,k o=some r->∀ a w,St M0 w0 nn (bi (C o) Γ0) a w->Q .normal a w):(Code.block id (Code.loop c)).wpIn (Fr rr) 0 P Q a w:=
 la hm (λz a w=>St M0 w0 nn (bi (C z) Γ0) a w) h0 hz hb hc
theorem cz {c:Code} {id:Nat} {S τ:Type} {m:Nat->S->Option S} {f:Nat} {s0:S} {k:S->Option τ} {r:τ} (hm:(m f s0).bind k=some r) (ks:P1) (s:St M0 w0 nn Γ a w) [Pj Γ ks Γ0] (C:S->Value->Cx) (h0:∃ v,St M0 w0 nn (bi (C s0 v) Γ0) a w) (hz:∀ s,m 0 s=none)
  (hb:∀ o,k o=some r->∀ n z a w,m (n + 1) z=some o->(∃ v,St M0 w0 nn (bi (C z v) Γ0) a w)->c.wpIn (Fr rr) 0 P (Exit.then (λa' w'=>∃ s',m n s'=some o/\∃ v,St M0 w0 nn (bi (C s' v) Γ0) a' w') (Exit.inBlock id (Exit.then (λa w=>∃ v,St M0 w0 nn (bi (C o v) Γ0) a w) Q))) a w)
  (hc:∀ o,k o=some r->∀ a w,(∃ v,St M0 w0 nn (bi (C o v) Γ0) a w)->Q .normal a w):(Code.block id (Code.loop c)).wpIn (Fr rr) 0 P Q a w:=
 la hm (λz a w=>∃ v,St M0 w0 nn (bi (C z v) Γ0) a w) h0 hz hb hc
theorem lB {c:Code} {id:Nat} {S ρ τ:Type} {m:Nat->S->Option (Lo S ρ)} {f:Nat} {s0:S} {k:Lo S ρ->Option τ} {r:τ} (hm:(m f s0).bind k=some r) (ks:P1) (s:St M0 w0 nn Γ a w) [Pj Γ ks Γ0] (C:S->Cx) (h0:St M0 w0 nn (bi (C s0) Γ0) a w) (hz:∀ s,m 0 s=none)
  (hb:∀ o,k o=some r->∀ n z a w,m (n + 1) z=some o->St M0 w0 nn (bi (C z) Γ0) a w->c.wpIn (Fr rr) 0 P (Exit.then (λa' w'=>∃ s',m n s'=some o/\St M0 w0 nn (bi (C s') Γ0) a' w') (Exit.inBlock id (Exit.then (λa w=>∃ z,o=.brk z/\St M0 w0 nn (bi (C z) Γ0) a w) Q))) a w)
  (hc:∀ z,k (.brk z)=some r->∀ a w,St M0 w0 nn (bi (C z) Γ0) a w->Q .normal a w):(Code.block id (Code.loop c)).wpIn (Fr rr) 0 P Q a w:=
 lb hm (λz a w=>St M0 w0 nn (bi (C z) Γ0) a w) h0 hz hb hc
theorem qQ {c:Code} {id:Nat} {S ρ τ:Type} {m:Nat->S->Option (Lo S ρ)} {f:Nat} {s0:S} {k:Lo S ρ->Option τ} {r:τ} (hm:(m f s0).bind k=some r) (ks:P1) (s:St M0 w0 nn Γ a w) [Pj Γ ks Γ0] (C:S->Value->Cx) (h0:∃ v,St M0 w0 nn (bi (C s0 v) Γ0) a w) (hz:∀ s,m 0 s=none)
  (hb:∀ o,k o=some r->∀ n z a w,m (n + 1) z=some o->(∃ v,St M0 w0 nn (bi (C z v) Γ0) a w)->c.wpIn (Fr rr) 0 P (Exit.then (λa' w'=>∃ s',m n s'=some o/\∃ v,St M0 w0 nn (bi (C s' v) Γ0) a' w') (Exit.inBlock id (Exit.then (λa w=>∃ z,o=.brk z/\∃ v,St M0 w0 nn (bi (C z v) Γ0) a w) Q))) a w)
  (hc:∀ z,k (.brk z)=some r->∀ a w,(∃ v,St M0 w0 nn (bi (C z v) Γ0) a w)->Q .normal a w):(Code.block id (Code.loop c)).wpIn (Fr rr) 0 P Q a w:=
 lb hm (λz a w=>∃ v,St M0 w0 nn (bi (C z v) Γ0) a w) h0 hz hb hc
theorem pU {c:Code} {id:Nat} {S ρ τ:Type} {m:Nat->S->Option (Lo S ρ)} {f:Nat} {s0:S} {k:Lo S ρ->Option τ} {r:τ} (hm:(m f s0).bind k=some r) (ks:P1) (s:St M0 w0 nn Γ a w) [Pj Γ ks Γ0] (C:S->Value->Value->Cx) (h0:∃ v u,St M0 w0 nn (bi (C s0 v u) Γ0) a w) (hz:∀ s,m 0 s=none)
  (hb:∀ o,k o=some r->∀ n z a w,m (n + 1) z=some o->(∃ v u,St M0 w0 nn (bi (C z v u) Γ0) a w)->c.wpIn (Fr rr) 0 P (Exit.then (λa' w'=>∃ s',m n s'=some o/\∃ v u,St M0 w0 nn (bi (C s' v u) Γ0) a' w') (Exit.inBlock id (Exit.then (λa w=>∃ z,o=.brk z/\∃ v u,St M0 w0 nn (bi (C z v u) Γ0) a w) Q))) a w)
  (hc:∀ z,k (.brk z)=some r->∀ a w,(∃ v u,St M0 w0 nn (bi (C z v u) Γ0) a w)->Q .normal a w):(Code.block id (Code.loop c)).wpIn (Fr rr) 0 P Q a w:=
 lb hm (λz a w=>∃ v u,St M0 w0 nn (bi (C z v u) Γ0) a w) h0 hz hb hc
theorem cP {c:Code} (ks:P1) (s:St M0 w0 nn Γ a w) [Pj Γ ks Γ0] (C:Cx) (h:c.wpIn (Fr rr) 0 P (Exit.then (λa w=>St M0 w0 nn (bi C Γ0) a w) Q) a w) (h':∀ a w,St M0 w0 nn (bi C Γ0) a w->Q .normal a w):c.wpIn (Fr rr) 0 P Q a w:=kw _ h h'
theorem iD {c:Code} (ks:P1) (s:St M0 w0 nn Γ a w) [Pj Γ ks Γ0] (C:Value->Cx) (h:c.wpIn (Fr rr) 0 P (Exit.then (λa w=>∃ v,St M0 w0 nn (bi (C v) Γ0) a w) Q) a w) (h':∀ a w,(∃ v,St M0 w0 nn (bi (C v) Γ0) a w)->Q .normal a w):c.wpIn (Fr rr) 0 P Q a w:=kw _ h h'
end
end
section
section
variable {Γ:Cx} {x:Operand} {α:Type} [Rep α]
theorem pv {y:α} (h:Od Γ x (Pt y)):Od Γ x (Va (some y)):=λρ M w r=>by
 let ⟨F,hF,b,o,hv,hp⟩:=h ρ M w r;exact ⟨F,hF,[.pointer (some ⟨b,o,none⟩)],hv,b,o,rfl,hp⟩
theorem vp {y:α} {o:Option α} (h:Od Γ x (Va o)) (e:o=some y):Od Γ x (Pt y):=λρ M w r=>by
 subst e;obtain ⟨F,hF,cs,hv,b,o,rfl,hp⟩:=h ρ M w r;exact ⟨F,hF,b,o,hv,hp⟩
theorem pnl (h:Od Γ x (Qv (.pointer none))):Od Γ x (Va (none:Option α)):=λρ M w r=>by
 let ⟨F,hF,hv⟩:=h ρ M w r;exact ⟨F,hF,[.pointer none],hv,rfl⟩
theorem pM {k:Nat} {c:Value} {o:Option α} (h:Ao Γ k=some (At c (Va o))):Oc Γ c:=λρ M w r=>by
 let ⟨F,_,cs,hv,hr⟩:=r.tmp _ _ h;cases o with
 | none=>have hr:cs=_:=hr;subst hr;rw [hv];rfl
 | some y=>obtain ⟨b,o,rfl,_⟩:=hr;rw [hv];rfl
end
end
end Go.Pn
set_option maxRecDepth 100000
namespace Go.Pn
open Go Go.RowKit
section
open Go.Proofs
instance:Fo Tryz.prog 24 0 0:=⟨0,ae⟩
instance:Fo Tryz.prog 24 1 1:=⟨0,ae⟩
instance:Fo Tryz.prog 32 2 2:=⟨0,ae⟩
instance:Fo Tryz.prog 58 0 0:=⟨0,ae⟩
instance:Fo Tryz.prog 58 1 1:=⟨0,ae⟩
instance:Fo Tryz.prog 58 2 2:=⟨0,ae⟩
instance:Fo Tryz.prog 58 3 3:=⟨0,ae⟩
instance:Fo Tryz.prog 58 4 4:=⟨0,ae⟩
instance:Fo Tryz.prog 64 0 0:=⟨0,ae⟩
instance:Fo Tryz.prog 64 1 1:=⟨0,ae⟩
instance:Fo Tryz.prog 69 0 0:=⟨0,ae⟩
instance:Fo Tryz.prog 69 1 1:=⟨0,ae⟩
instance:Fo Tryz.prog 113 0 0:=⟨0,ae⟩
instance:Fo Tryz.prog 113 1 1:=⟨0,ae⟩
instance:Fo Tryz.prog 113 2 2:=⟨2,ae⟩
instance:Fo Tryz.prog 113 3 5:=⟨2,ae⟩
instance:Fo Tryz.prog 113 4 8:=⟨0,ae⟩
instance:Fo Tryz.prog 113 5 9:=⟨0,ae⟩
instance:Fo Tryz.prog 144 0 0:=⟨0,ae⟩
instance:Fo Tryz.prog 144 1 1:=⟨0,ae⟩
instance:Fo Tryz.prog 154 0 0:=⟨1,ae⟩
instance:Fo Tryz.prog 154 1 2:=⟨0,ae⟩
instance:Fo Tryz.prog 154 2 3:=⟨0,ae⟩
instance:Fo Tryz.prog 154 3 4:=⟨0,ae⟩
instance:Fo Tryz.prog 154 4 5:=⟨0,ae⟩
instance:Fo Tryz.prog 154 5 6:=⟨4,ae⟩
instance:Fo Tryz.prog 188 0 0:=⟨4,ae⟩
instance:Fo Tryz.prog 188 1 5:=⟨0,ae⟩
instance:Fo Tryz.prog 203 3 7:=⟨0,ae⟩
instance:Fo Tryz.prog 203 5 9:=⟨0,ae⟩
instance:Fo Tryz.prog 263 0 0:=⟨4,ae⟩
instance:Fo Tryz.prog 343 0 0:=⟨4,ae⟩
instance:Fo Tryz.prog 343 1 5:=⟨0,ae⟩
instance:Fo Tryz.prog 343 2 6:=⟨2,ae⟩
instance:Fo Tryz.prog 372 0 0:=⟨4,ae⟩
instance:Fo Tryz.prog 372 1 5:=⟨4,ae⟩
instance:Fo Tryz.prog 372 2 10:=⟨0,ae⟩
instance:Fo Tryz.prog 403 0 0:=⟨0,ae⟩
instance:Fo Tryz.prog 403 1 1:=⟨0,ae⟩
instance:Fo Tryz.prog 434 0 0:=⟨0,ae⟩
instance:Fo Tryz.prog 434 1 1:=⟨0,ae⟩
instance:Fo Tryz.prog 434 2 2:=⟨0,ae⟩
instance:Zc Tryz.prog 30 [(.slice none 0 0)]:=⟨λ_ _=>aX (z:=(.slice none 0 0)) ae rfl rfl⟩
instance:Zc Tryz.prog 32 [(.int .i64 (0:Int)),(.slice none 0 0),(.slice none 0 0),(.slice none 0 0),(.slice none 0 0)]:=⟨λ_ _=>aX (z:=.agg #[(.int .i64 (0:Int)),(.slice none 0 0),(.slice none 0 0),(.slice none 0 0),(.slice none 0 0)]) ae rfl rfl⟩
instance:Zc Tryz.prog 43 [(.slice none 0 0),(.slice none 0 0)]:=⟨λ_ _=>aX (z:=.agg #[(.slice none 0 0),(.slice none 0 0)]) ae rfl rfl⟩
instance:Zc Tryz.prog 58 [(.slice none 0 0),(.slice none 0 0),(.slice none 0 0),(.slice none 0 0),(.slice none 0 0)]:=⟨λ_ _=>aX (z:=.agg #[(.slice none 0 0),(.slice none 0 0),(.slice none 0 0),(.slice none 0 0),(.slice none 0 0)]) ae rfl rfl⟩
instance:Zc Tryz.prog 59 [(.slice none 0 0)]:=⟨λ_ _=>aX (z:=(.slice none 0 0)) ae rfl rfl⟩
instance:Zc Tryz.prog 64 [(.slice none 0 0),(.int .i64 (0:Int))]:=⟨λ_ _=>aX (z:=.agg #[(.slice none 0 0),(.int .i64 (0:Int))]) ae rfl rfl⟩
instance:Zc Tryz.prog 110 [(.int .i64 (0:Int)),(.int .i64 (0:Int)),(.slice none 0 0)]:=⟨λ_ _=>aX (z:=.agg #[(.int .i64 (0:Int)),(.int .i64 (0:Int)),(.slice none 0 0)]) ae rfl rfl⟩
instance:Zc Tryz.prog 113 [(.string ByteArray.empty),(.int .i64 (0:Int)),(.int .i64 (0:Int)),(.int .i64 (0:Int)),(.slice none 0 0),(.int .i64 (0:Int)),(.int .i64 (0:Int)),(.slice none 0 0),(.int .i64 (0:Int)),(.bool false)]:=⟨λ_ _=>aX (z:=.agg #[(.string ByteArray.empty),(.int .i64 (0:Int)),(.int .i64 (0:Int)),(.int .i64 (0:Int)),(.slice none 0 0),(.int .i64 (0:Int)),(.int .i64 (0:Int)),(.slice none 0 0),(.int .i64 (0:Int)),(.bool false)]) ae rfl rfl⟩
instance:Zc Tryz.prog 144 [(.slice none 0 0),(.slice none 0 0)]:=⟨λ_ _=>aX (z:=.agg #[(.slice none 0 0),(.slice none 0 0)]) ae rfl rfl⟩
instance:Zc Tryz.prog 177 [(.int .i64 (0:Int)),(.int .i64 (0:Int))]:=⟨λ_ _=>aX (z:=.agg #[(.int .i64 (0:Int)),(.int .i64 (0:Int))]) ae rfl rfl⟩
instance:Zc Tryz.prog 186 [(.slice none 0 0)]:=⟨λ_ _=>aX (z:=(.slice none 0 0)) ae rfl rfl⟩
instance:Zc Tryz.prog 188 [(.slice none 0 0),(.slice none 0 0),(.slice none 0 0),(.slice none 0 0),(.slice none 0 0),(.slice none 0 0),(.slice none 0 0)]:=⟨λ_ _=>aX (z:=.agg #[(.slice none 0 0),(.slice none 0 0),(.slice none 0 0),(.slice none 0 0),(.slice none 0 0),(.slice none 0 0),(.slice none 0 0)]) ae rfl rfl⟩
instance:Zc Tryz.prog 265 [.nilFunc,.nilFunc,.nilFunc]:=⟨λ_ _=>aX (z:=.agg #[.nilFunc,.nilFunc,.nilFunc]) ae rfl rfl⟩
instance:Zc Tryz.prog 298 [(.map none)]:=⟨λ_ _=>aX (z:=(.map none)) ae rfl rfl⟩
instance:Zc Tryz.prog 431 [.nilFunc,.nilFunc,.nilFunc]:=⟨λ_ _=>aX (z:=.agg #[.nilFunc,.nilFunc,.nilFunc]) ae rfl rfl⟩
instance:Smz Int:=⟨rfl⟩
instance:Smz Bool:=⟨rfl⟩
instance:Smz Ad:=⟨rfl⟩
instance:Smz Ab:=⟨rfl⟩
instance:Smz Af:=⟨rfl⟩
instance:Smz Expr:=⟨rfl⟩
instance {α:Type} [Rep α]:Smz (List α):=⟨rfl⟩
end
section
variable {rr:Option Nat}
section
variable {P:Program} {ops:Array Oper} {Γ:Cx}
def Yf (ops:Array Oper) (m k:Nat):Bool:=
 decide (m<=k) && decide (k<=ops.size) &&
 (List.range ops.size).all (λi=>match ops[i]? with
  | none=>false
  | some o=>
   o.after.all (λe=>!Region.binds .any e || decide (e.on < i)) &&
   (if i < m then
    o.dst.isSome && (match o.guard with | some (j,_)=>decide (j < i) | none=>true) &&
    (List.range m).all (λj=>match (ops[j]?).bind (·.dst) with
     | some d=>(!(Az ops o).contains d || (decide (j < i) && cI o j)) && (i == j || o.dst != some d)
     | none=>false)
   else (List.range (min i k)).all (λj=>Eo ops ops.size i j)) &&
   (if i < k then true else (List.range ops.size).all (λj=>decide (j < k) || match (ops[j]?).bind (·.dst) with
     | some d=>(!(Av o.op).contains d || cI o j) && (i == j || o.dst != some d)
     | none=>false)))
structure mP (ops:Array Oper) (m k:Nat):Prop where
 mk_:m<=k
 ks:k<=ops.size
 w:eR ops m
 lt:∀ {i:Nat} {o:Oper},ops[i]?=some o->∀ e∈o.after,Region.binds .any e=true->e.on < i
 ord:∀ {i:Nat},m<=i->i < ops.size->∀ j,j < i->j < k->Eo ops ops.size i j=true
 fl:∀ {i:Nat} {o:Oper},ops[i]?=some o->k<=i->∀ j,k<=j->j < ops.size->∃ d,(ops[j]?).bind (·.dst)=some d/\(d∈Av o.op->cI o j=true)/\(i≠j->o.dst≠some d)
theorem jU {m k:Nat} (h:Yf ops m k=true):mP ops m k:=by
 unfold Yf at h;simp only [KU,KW,KX,decide_eq_true_eq] at h;let ⟨⟨h1,h2⟩,h3⟩:=h;have one:∀ {i:Nat} {o:Oper},ops[i]?=some o->(∀ e∈o.after,Region.binds .any e=true->e.on < i) /\
   (i < m->o.dst.isSome=true/\(∀ j want,o.guard=some (j,want)->j < i)/\∀ j,j < m->∃ d,(ops[j]?).bind (·.dst)=some d/\(d∈Az ops o->j < i/\cI o j=true)/\(i≠j->o.dst≠some d)) /\
   (m<=i->∀ j,j < i->j < k->Eo ops ops.size i j=true) /\
   (k<=i->∀ j,k<=j->j < ops.size->∃ d,(ops[j]?).bind (·.dst)=some d/\(d∈Av o.op->cI o j=true)/\(i≠j->o.dst≠some d)):=by
  intro i o ho;have hi:i < ops.size:=(KS.1 ho).1;have h4:=h3 i hi;simp only [ho,KU] at h4;let ⟨⟨a1,a3⟩,a4⟩:=h4;refine ⟨λe he hb=>?_,λhm=>?_,λhm j hj hk=>?_,λhk j hj hjs=>?_⟩
  ·have:=(ON.1 a1) e he;simp [hb] at this;exact this
  ·rw [if_pos hm] at a3;simp only [KU,KW,KX] at a3;refine ⟨a3.1.1,λj want hg=>?_,λj hj=>?_⟩
   ·have:=a3.1.2;simp [hg] at this;exact this
   ·have h3:=a3.2 j hj;split at h3
    ·rename_i d hd;simp only [KU,M9,LT,decide_eq_true_eq,bne_iff_ne,beq_iff_eq] at h3;refine ⟨d,hd,λhn=>?_,λhne hd'=>?_⟩
     ·rcases h3.1 with h | h
      ·simp at h;exact absurd hn h
      ·exact h
     ·rcases h3.2 with h | h
      ·exact hne h
      ·exact h hd'
    ·cases h3
  ·rw [if_neg aa] at a3;simp only [KW,KX] at a3;exact a3 j aa
  ·rw [if_neg aa] at a4;simp only [KW,KX] at a4;have h3:=a4 j hjs;simp only [M9,decide_eq_true_eq] at h3;rcases h3 with h3 | h3
   ·omega
   ·split at h3
    ·rename_i d hd;simp only [KU,M9,LT,bne_iff_ne,beq_iff_eq] at h3;refine ⟨d,hd,λhn=>?_,λhne hd'=>?_⟩
     ·rcases h3.1 with h | h
      ·simp at h;exact absurd hn h
      ·exact h
     ·rcases h3.2 with h | h
      ·exact hne h
      ·exact h hd'
    ·cases h3
 exact ⟨h1,h2,⟨by omega,λho=>let ⟨a,b,c,_⟩:=one ho;⟨a,b,λhm j hj=>c hm j aa aa⟩⟩,λho=>(one ho).1,λ{i} hm hi j hj hk=>(one (L4 hi)).2.2.1 hm j hj hk,λho hk j h1 h2=>(one ho).2.2.2 hk j h1 h2⟩
def GN (ops:Array Oper) (k:Nat) (listed:Array Bool):Prop:=listed.size=ops.size/\(∀ i,i < k->listed.getD i false=true)/\(∀ i,k<=i->i < ops.size->listed.getD i true=false)
theorem GN.cl {m x k:Nat} {listed:Array Bool} (hd:mP ops m x) (h:GN ops k listed):∀ i o,ops[i]?=some o->listed.getD i false=true->∀ e∈o.after,Region.binds .any e=true->listed.getD e.on false=true:=by (intro i o ho hl e he hb;have hi:i < ops.size:=(KS.1 ho).1;have hik:i < k:=by (rcases LV i k with h6 | h6);exact h6;have:=h.2.2 i h6 hi;simp [KN,h.1,hi] at this hl;rw [this] at hl;cases hl);exact h.2.1 _ (Nat.lt_trans (hd.lt ho e he hb) hik)
theorem GN.no {k i:Nat} {listed:Array Bool} (h:GN ops k listed) (hk:k<=i) (hi:i < ops.size):listed.getD i false=false:=by have:=h.2.2 i hk hi;simp [KN,h.1,hi] at this ⊢;exact this
theorem GN.nr {k i:Nat} {listed:Array Bool} (h:GN ops k listed) (hi:i < ops.size) (h2:listed.getD i true=false):k<=i:=by refine Nat.le_of_not_lt λhk=>?_;have:=h.2.1 i hk;simp [KN,h.1,hi] at this h2;rw [this] at h2;cases h2
theorem GN.next {k:Nat} {listed:Array Bool} (h:GN ops k listed) (hk:k < ops.size):GN ops (k + 1) (listed.setIfInBounds k true):=by refine ⟨by simp [h.1],λj hj=>?_,λj hj hj'=>?_⟩;by_cases hji:j=k;subst hji;simp [KN,h.1,hk];have:=h.2.1 j aa;simpa [KN,LE (Ne.symm hji)] using this;have:=h.2.2 j aa hj';simpa [KN,LE (show k≠j by omega)] using this
theorem CN {F:Fence} {n:Nat} {o:Oper} {a:Act} {w:World} {K D:Act->World->Prop} {Q:Exit->Act->World->Prop} (h:o.wpIn F n P a w K (Exit.then D Q)):o.wpIn F n P a w K Q:=by
 unfold Oper.wpIn at *;refine ⟨h.1,?_⟩;have h:=h.2;generalize (o.semAt F.round a.eval).run P w=r at *;cases r with
 | ok x w'=>cases x <;> exact h
 | halt x w'=>cases x <;> exact h
theorem F6 {m x:Nat} (hf:mP ops m x) {D:Act->World->Prop} {Q:Exit->Act->World->Prop}
  (hD:∀ (fuel:Nat) (listed:Array Bool) (a:Act) (w:World),ops.size - x<=fuel->GN ops x listed->D a w->wpAnyIn (Fr rr) 0 P .any ops Q fuel listed a w) :
  ∀ (r k fuel:Nat) (listed:Array Bool) (a:Act) (w:World),r=x - k->k<=x->m<=k->ops.size - k<=fuel->GN ops k listed ->
  wpListIn (Fr rr) 0 P ops (Exit.then D Q) ((ops.toList.drop k).take r) a w->wpAnyIn (Fr rr) 0 P .any ops Q fuel listed a w
 | 0,k,fuel,listed,a,w,hr,hk,hmk,hfu,hU,h=>by
  obtain rfl:k=x:=by omega
  rw [OB] at h;exact hD fuel listed a w hfu hU h
 | r + 1,k,fuel,listed,a,w,hr,hk,hmk,hfu,hU,h=>by
  have hxs:=hf.ks;have hlt:k < ops.size:=by omega
  have hready:∀ i,i∈Region.ready .any ops listed->i=k:=by
   intro i hi;let ⟨h1,h2,o,ho,h3⟩:=Ba.1 hi;rcases OA i k with h' | h' | h'
   ·have:=hU.nr h1 h2;omega
   ·exact h'
   ·exfalso;have h4:=hf.ord (i:=i) aa h1 k h' aa;have:=Ca (hU.cl hf) ops.size i k o ho h3 h4;rw [hU.no (K9 _) aa] at this;cases this
  have ho:ops[k]?=some ops[k]:=L4 hlt;have hdrop:(ops.toList.drop k).take (r + 1)=ops[k] :: (ops.toList.drop (k + 1)).take r:=by
   rw [LB (by simpa using hlt)];simp
  have hin:k∈Region.ready .any ops listed:=Ba.2 ⟨hlt,hU.2.2 k (K9 _) hlt,_,ho,λe he hb=>hU.2.1 _ (hf.lt ho e he hb)⟩;cases fuel with
  | zero=>omega
  | succ fuel=>
   refine ⟨λhnil=>by rw [hnil] at hin;simp at hin,λi hi=>?_⟩;obtain rfl:=hready i hi;have ih:=λa' w'=>F6 hf hD r (i + 1) fuel (listed.setIfInBounds i true) a' w' aa aa aa aa (hU.next hlt);rw [hdrop] at h;unfold wpOpIn;simp only [ho];unfold wpListIn at h;split
   ·rename_i hw;rw [if_pos hw] at h;exact CN (Oper.wpIn_mono (λa' w'=>ih a' w') h)
   ·rename_i hw;rw [if_neg hw] at h;exact ⟨λ_ _=>trivial,ih _ _ h.2⟩
inductive F3 (P:Program) (ops:Array Oper) (Γ:Cx) (k:Nat):Nat->Cx->Prop
 | nil:F3 P ops Γ k k []
 | cons {i d:Nat} {Δ:Cx} {op:Op} {ty:TypeId} {pos:String} {ag:Array Edge} {e:Ent} (h:F3 P ops Γ k i Δ)
   (ho:ops[i]?=some ⟨some d,op,ty,pos,ag,none⟩) (hr:OR P op ty (Bx (Av op) Δ ++ Γ) e):F3 P ops Γ k (i + 1) ((d,e) :: Δ)
theorem F3.ge {k i:Nat} {Δ:Cx} (h:F3 P ops Γ k i Δ):k<=i:=by
 induction h with
 | nil=>exact K9 _
 | cons _ _ _ ih=>omega
theorem F3.key {k i:Nat} {Δ:Cx} (h:F3 P ops Γ k i Δ):∀ t e,Ao Δ t=some e->∃ j,k<=j/\j < i/\Be ops j=some t:=by
 induction h with
 | nil=>intro t e h;cases h
 | cons h ho hr ih=>
  rename_i i d Δ op ty pos ag e;intro t e' he;rw [Ak] at he;unfold put at he;split at he
  ·rename_i ht;subst ht;exact ⟨i,h.ge,by omega,by simp [Be,ho]⟩
  ·let ⟨j,a,b,c⟩:=ih t e' he;exact ⟨j,a,by omega,c⟩
theorem F3.at_ {k N:Nat} {Δ:Cx} (h:F3 P ops Γ k N Δ) (hu:∀ i j,k<=i->i < N->k<=j->j < N->i≠j->∀ d,Be ops i=some d->Be ops j≠some d):∀ i,k<=i->i < N->∃ d op ty pos ag e Δi,ops[i]?=some ⟨some d,op,ty,pos,ag,none⟩/\OR P op ty (Bx (Av op) Δi ++ Γ) e/\Ao Δ d=some e/\(∀ t e',Ao Δi t=some e'->Ao Δ t=some e'):=by
 induction h with
 | nil=>intro i h1 h2;omega
 | cons h ho hr ih=>
  rename_i n d Δ op ty pos ag e;intro i h1 h2;have keep:∀ t e',Ao Δ t=some e'->Ao ((d,e) :: Δ) t=some e':=λt e' he=>by
   let ⟨j,b1,b2,b3⟩:=h.key t e' he;have hne:t≠d:=λhh=>by
    subst hh;exact hu j n b1 aa h.ge aa aa t b3 (by simp [Be,ho])
   rw [Ak];unfold put;rw [if_neg hne];exact he
  by_cases hin:i=n
  ·subst hin;exact ⟨d,op,ty,pos,ag,e,Δ,ho,hr,by rw [Ak];unfold put;rw [if_pos rfl],keep⟩
  ·let ⟨d',op',ty',pos',aft',e',Δi,a1,a2,a3,a4⟩:=ih (λi j p1 p2 p3 p4 p5 d hd=>hu i j p1 aa p3 aa p5 d hd) i h1 aa;exact ⟨d',op',ty',pos',aft',e',Δi,a1,a2,keep _ _ a3,λt x hx=>keep _ _ (a4 t x hx)⟩
open Classical in
noncomputable def gC (ops:Array Oper) (Γ Δ:Cx) (k:Nat) (listed:Array Bool):Mp:=λt=>if ∃ j,k<=j/\listed.getD j false=true/\Be ops j=some t then Ao Δ t else Ao Γ t
theorem GK {m k n:Nat} {Δ:Cx} {M0:Fm} {w0:World} (hf:mP ops m k) (h3:F3 P ops Γ k ops.size Δ) (hdj:∀ x∈Δ,Ao Γ x.1=none) (hn:∀ x∈Δ,x.1 < n) {Q:Exit->Act->World->Prop}
  (K:∀ a' w',St M0 w0 n (Δ ++ Γ) a' w'->Q .normal a' w') :
  ∀ (fuel:Nat) (listed:Array Bool) (a:Act) (w:World),listed.toList.count false<=fuel->listed.size=ops.size->(∀ i,i < k->listed.getD i false=true) ->
   (∀ i o,ops[i]?=some o->listed.getD i false=true->∀ e∈o.after,Region.binds .any e=true->listed.getD e.on false=true)->StF M0 w0 n (gC ops Γ Δ k listed) a w->wpAnyIn (Fr rr) 0 P .any ops Q fuel listed a w:=by
 have hu:∀ i j,k<=i->i < ops.size->k<=j->j < ops.size->i≠j->∀ d,Be ops i=some d->Be ops j≠some d:=λi j h1 h2 h4 h5 hne d hd hd'=>by
  let ⟨d2,a1,_,a3⟩:=hf.fl (L4 h2) h1 j h4 h5;rw [show Be ops j=some d2 from a1] at hd';obtain rfl:=Option.some.inj hd';refine a3 hne ?_;simpa [Be,L4 h2] using hd
 have hAt:=h3.at_ hu;have hin:∀ {t e},Ao Δ t=some e->Ao Γ t=none/\t < n:=λ{t e} he=>by
  obtain ⟨x,hx,hxt⟩:∃ x∈Δ,x.1=t:=by
   clear hAt h3 hdj hn K
   induction Δ with
   | nil=>cases he
   | cons p Δ ih=>
    let ⟨s,e'⟩:=p;rw [Ak] at he;unfold put at he;split at he
    ·rename_i ht;exact ⟨(s,e'),by simp,ht.symm⟩
    ·let ⟨x,hx,hxt⟩:=ih he;exact ⟨x,LK _ hx,hxt⟩
  exact ⟨hxt ▸ hdj x hx,hxt ▸ hn x hx⟩
 have fin:∀ (listed:Array Bool) (a:Act) (w:World),(∀ i,i < ops.size->listed.getD i false=true)->StF M0 w0 n (gC ops Γ Δ k listed) a w->Q .normal a w:=λlisted a w hall hs=>by
  refine K a w (hs.less λt e he=>?_)
  classical
  unfold gC;rcases Eh he with h | h
  ·let ⟨j,b1,b2,b3⟩:=h3.key t e h;rw [if_pos ⟨j,b1,hall j b2,b3⟩];exact h
  ·split
   ·rename_i hj;let ⟨j,b1,_,b3⟩:=hj;have hjs:j < ops.size:=by
     unfold Be at b3;cases ho:ops[j]? with
     | none=>rw [ho] at b3;cases b3
     | some o=>exact (KS.1 ho).1
    let ⟨d,op,ty,pos,ag,e',Δi,c1,_,c3,_⟩:=hAt j b1 hjs;have:d=t:=by simpa [Be,c1] using b3
    subst this;rw [(hin c3).1] at h;cases h
   ·exact h
 intro fuel
 induction fuel with
 | zero=>
  intro listed a w h1 h2 _ _ h4;have hall:∀ i,i < ops.size->listed.getD i false=true:=λi hi=>by
   cases hb:listed.getD i false
   ·exfalso;have hi':i < listed.size:=by omega
    have h5:listed[i]=false:=by simpa [KN,hi'] using hb
    have h6:false∈listed.toList:=by rw [← h5];exact Array.getElem_mem_toList hi'
    have:=O1.2 h6;omega
   ·rfl
  refine ⟨?_,fin listed a w hall h4⟩;cases hrd:Region.ready .any ops listed with
  | nil=>rfl
  | cons x xs=>
   have hx:x∈Region.ready .any ops listed:=by rw [hrd];exact LO ..
   let ⟨b1,b2,_⟩:=Ba.1 hx;have:=hall x b1;simp [KN,h2,b1] at this b2;rw [this] at b2;cases b2
 | succ fuel ih=>
  intro listed a w h1 h2 hk hcl h4;refine ⟨λhnil=>?_,λi hi=>?_⟩
  ·refine fin listed a w ?_ h4;intro i
   induction i using Nat.strongRecOn with
   | _ i ihi=>
    intro hio;cases hb:listed.getD i false
    ·exfalso;have ho:ops[i]?=some ops[i]:=L4 hio;have hin:i∈Region.ready .any ops listed:=Ba.2 ⟨hio,by simpa [KN,h2,hio] using hb,_,ho,λe he hb'=>by
      have:=hf.lt ho e he hb';exact ihi _ this aa⟩
     rw [hnil] at hin;simp at hin
    ·rfl
  ·let ⟨hio,hil,o,ho,hdeps⟩:=Ba.1 hi;have hil':listed.getD i false=false:=by simpa [KN,h2,hio] using hil
   have hki:k<=i:=by
    refine Nat.le_of_not_lt λhlt=>?_;rw [hk i hlt] at hil';cases hil'
   let ⟨d,op,ty,pos,ag,e,Δi,c1,c2,c3,c4⟩:=hAt i hki hio;obtain rfl:=Option.some.inj (ho.symm.trans c1);have hdi:Be ops i=some d:=by simp [Be,ho]
   have his:i < listed.size:=by omega
   have hg:∀ j,(listed.setIfInBounds i true).getD j false=if j=i then true else listed.getD j false:=λj=>by
    by_cases hji:j=i
    ·subst hji;simp [KN,his]
    ·rw [if_neg hji];simp [KN,LE (Ne.symm hji)]
   let ⟨M,φ,hst⟩:=h4;have rd:Rd (Ao (Bx (Av op) Δi ++ Γ)) M w a.eval:=by
    refine ⟨λt x hx=>hst.rd.tmp t x ?_,hst.rd.con,hst.rd.fn,hst.rd.bd,hst.rd.glo⟩
    classical
    unfold gC;rcases Eh hx with h5 | h5
    ·let ⟨h6,h7⟩:=Bp h5;have h8:=c4 t x h7;let ⟨j,b1,b2,b3⟩:=h3.key t x h8;let ⟨d2,q1,q2,_⟩:=hf.fl ho hki j b1 b2;rw [show Be ops j=some d2 from q1] at b3;obtain rfl:=Option.some.inj b3;have hdp:=q2 h6;have hlj:listed.getD j false=true:=by
      unfold cI at hdp;simp only [OY,KU,beq_iff_eq] at hdp;obtain ⟨ed,h9,h10,rfl⟩:=hdp;exact hdeps ed h9 h10
     rw [if_pos ⟨j,b1,hlj,q1⟩];exact h8
    ·split
     ·rename_i hj;let ⟨j,b1,_,b3⟩:=hj;have hjs:j < ops.size:=by
       unfold Be at b3;cases ho:ops[j]? with
       | none=>rw [ho] at b3;cases b3
       | some o=>exact (KS.1 ho).1
      let ⟨d',_,_,_,_,_,_,c1',_,c3',_⟩:=hAt j b1 hjs;have:d'=t:=by simpa [Be,c1'] using b3
      subst this;rw [(hin c3').1] at h5;cases h5
     ·exact h5
   unfold wpOpIn;simp only [ho];simp only [Region.wanted,if_true];refine (Bk.upon ((c2 _ _ _ _ a.eval M w rd).mono λv w' hgv=>?_));refine ih _ _ _ ?_ (by simp [h2]) (λj hj=>?_) (λj oj hoj hlj ed he hb=>?_) ?_
   ·have hgi0:listed[i]=false:=by simpa [KN,his] using hil'
    have hlt:i < listed.toList.length:=by simpa using his
    have hgi:listed.toList[i]=false:=by simpa using hgi0
    have hpos:0 < listed.toList.count false:=O1.2 (by rw [← hgi];exact KV _);rw [OZ,List.count_set hlt,hgi];rw [show ((true:Bool) == false)=false from rfl,show ((false:Bool) == false)=true from rfl];rw [if_pos rfl,if_neg (by decide)];omega
   ·rw [hg];split
    ·rfl
    ·exact hk j hj
   ·rw [hg];split
    ·rfl
    ·rw [hg] at hlj;split at hlj
     ·rename_i hji;subst hji;rw [ho] at hoj;cases hoj
      exact hdeps ed he hb
     ·exact hcl j oj hoj hlj ed he hb
   ·have h5:=hst.gives hgv (hin c3).2;refine StF.less h5 λt e' he'=>?_
    classical
    unfold gC at he' ⊢;unfold put;replace he':(if ∃ j,k<=j/\(listed.setIfInBounds i true).getD j false=true/\Be ops j=some t then Ao Δ t else Ao Γ t)=some e':=he'
    by_cases htd:t=d
    ·subst htd;rw [if_pos rfl];rw [if_pos ⟨i,hki,by rw [hg,if_pos rfl],hdi⟩,c3] at he';exact he'
    ·rw [if_neg htd];show (if ∃ j,k<=j/\listed.getD j false=true/\Be ops j=some t then Ao Δ t else Ao Γ t)=some e'
     by_cases hls:∃ j,k<=j/\listed.getD j false=true/\Be ops j=some t
     ·rw [if_pos hls];let ⟨j,r1,r3,r4⟩:=hls;rw [if_pos ⟨j,r1,by rw [hg]; split <;> simp_all,r4⟩] at he'
      exact he'
     ·rw [if_neg hls];rw [if_neg] at he'
      ·exact he'
      ·rintro ⟨j,r1,r3,r4⟩;rw [hg] at r3;split at r3
       ·rename_i hji;subst hji;rw [hdi] at r4;exact htd (Option.some.inj r4).symm
       ·exact hls ⟨j,r1,r3,r4⟩
def qY (P:Program) (ops:Array Oper) (k:Nat) (M0:Fm) (w0:World) (n:Nat) (Q:Exit->Act->World->Prop) (a:Act) (w:World):Prop:=
 ∃ Γ Δ:Cx,St M0 w0 n Γ a w/\F3 P ops Γ k ops.size Δ/\Δ.all (λx=>(Ao Γ x.1).isNone)=true/\Δ.all (λx=>Nat.blt x.1 n)=true/\∀ a w,St M0 w0 n (Δ ++ Γ) a w->Q .normal a w
theorem jO {m n id:Nat} {Δ:Cx} {M0:Fm} {w0:World} [hmx:Mx P] {Q:Exit->Act->World->Prop} {a:Act} {w:World} (k:Nat) (hs:St M0 w0 n Γ a w) (hfl:Fl P ops Γ m Δ) (hf:Yf ops m k=true)
  (hdj:Δ.all (λx=>(Ao Γ x.1).isNone)=true) (hn:Δ.all (λx=>Nat.blt x.1 n)=true)
  (K:∀ a' w',St M0 w0 n (Δ ++ Γ) a' w'->wpListIn (Fr rr) 0 P ops (Exit.then (qY P ops k M0 w0 n Q) Q) ((ops.toList.drop m).take (k - m)) a' w'):(Code.region id ops true).wpIn (Fr rr) 0 P Q a w:=by
 have hd:=jU hf;have hmx':=hd.mk_;have hxs:=hd.ks;refine wpIn_region_any hmx.mixed (BR hd.w hfl (λx hx=>by simpa using KW.1 hdj x hx) (λx hx=>?_) (λfuel listed a w h1 h2 h3 h4 h5=>F6 hd (λfuel listed a w g1 g2 g3=>?_) _ m fuel listed a w rfl aa (K9 _) h1 ⟨h2,h4,h3⟩ (K a w h5)) ops.size _ a _ ?_ ai (λi _ hi=>by simp [KN,hi]) (λi o ho hl=>?_) ?_)
 ·have:=KW.1 hn x hx;exact KY this
 ·let ⟨Γ',Δ',b1,b2,b3,b4,b5⟩:=g3;have hc:listed.toList.count false<=ops.size - k:=by
   have e1:listed.toList=listed.toList.take k ++ listed.toList.drop k:=(N8 _ _).symm;rw [e1,List.count_append];have e2:(listed.toList.take k).count false=0:=by
    refine PX.2 λhm=>?_;let ⟨i,hi,he⟩:=List.mem_take_iff_getElem.1 hm;have hi':i < listed.size:=by simp at hi;omega
    have h6:=g2.2.1 i (by simp at hi;omega);have h7:listed[i]=false:=by simpa using he
    simp [KN,hi',h7] at h6
   have e3:(listed.toList.drop k).count false<=ops.size - k:=by
    refine LW OT ?_;simp [g2.1]
   omega
  refine GK hd b2 (λx hx=>by simpa using KW.1 b3 x hx) (λx hx=>?_) b5 fuel listed a w aa g2.1 g2.2.1 (g2.cl hd) (StF.less b1 λt e he=>?_)
  ·have:=KW.1 b4 x hx;exact KY this
  ·classical
   unfold gC at he;rw [if_neg] at he
   ·exact he
   ·rintro ⟨j,r1,r3,r4⟩;have hjs:j < ops.size:=by
     unfold Be at r4;cases ho:ops[j]? with
     | none=>rw [ho] at r4;cases r4
     | some o=>exact (KS.1 ho).1
    rw [g2.no r1 hjs] at r3;cases r3
 ·have:((Array.replicate ops.size false).toList.take m).count false<=m:=by
   refine LW OT ?_;simp;omega
  have hm:m<=ops.size:=by omega
  omega
 ·have hi:i < ops.size:=(KS.1 ho).1;simp [KN,hi] at hl
 ·have hmle:m<=ops.size:=by omega
  rw [Za hfl.ds λi hi=>by simp [KN,show i < ops.size by omega]];let ⟨M,φ,h⟩:=hs;refine ⟨M,φ,λt e he=>Ent.st _ (h.holds t e he) (Ext.drawn _ _ _ (NV _ _)),h.own,h.apart,h.sub,h.bd,h.fr.trans (Ext.drawn _ _ _ (NV _ _)),h.sz,h.df⟩
theorem d3 {k n:Nat} {Δ:Cx} {M0:Fm} {w0:World} {Q:Exit->Act->World->Prop} {a:Act} {w:World} (hs:St M0 w0 n Γ a w) (h:F3 P ops Γ k ops.size Δ) (h1:Δ.all (λx=>(Ao Γ x.1).isNone)=true) (h2:Δ.all (λx=>Nat.blt x.1 n)=true)
  (K:∀ a w,St M0 w0 n (Δ ++ Γ) a w->Q .normal a w):wpListIn (Fr rr) 0 P ops (Exit.then (qY P ops k M0 w0 n Q) Q) [] a w:=⟨Γ,Δ,hs,h,h1,h2,K⟩
end
end
section
open Go.Proofs
def mM (es:List Ent):Ent where
 p F M w _:=Ho M w es F
 st h x:=h.st x
 sb h s:=h.sb s
theorem Ho.mem {M:Nat->Prop} {w:World} {e:Ent}:∀ {es:List Ent} {F:P1},Ho M w es F->e∈es->∃ F',∀ u,e.p F' M w u
 | e' :: es,F,⟨F1,F2,_,h1,h2⟩,h=>by
  rcases K8.1 h with rfl | h
  ·exact ⟨F1,h1⟩
  ·exact h2.mem h
section
variable {P:Program} {M0:Fm} {w0:World} {n:Nat} {Γ:Cx} {a:Act} {w:World}
theorem St.opP {X:Type} {K:Nat} {G:X->List Ent} (h:St M0 w0 n Γ a w) (hk:Ao Γ K=some (Pk G)):∃ x,St M0 w0 n ((K,mM (G x)) :: Γ) a w:=by (let ⟨M,φ,h⟩:=h;let ⟨x,hx⟩:=h.holds K _ hk;refine ⟨x,?_⟩;unfold St;rw [Ak];have hs:∀ t,(put K (mM (G x)) (Ao Γ) t).isSome=true->(Ao Γ t).isSome=true:=λt ht=>by unfold put at ht;split at ht;rename_i h;rw [h,hk];rfl;exact ht);refine ⟨M,φ,λt e he=>?_,λt ht=>h.own t (hs t ht),λt s hne ht hs'=>h.apart t s hne (hs t ht) (hs s hs'),h.sub,h.bd,h.fr,h.sz,h.df⟩;unfold put at he;split at he;rename_i ht;subst ht;cases he;exact hx;exact h.holds t e he
theorem St.clP {X:Type} {K:Nat} {G:X->List Ent} {x:X} (h:St M0 w0 n Γ a w) (hk:Ao Γ K=some (mM (G x))):St M0 w0 n ((K,Pk G) :: Γ) a w:=
 h.turn1 hk λF M v _ hp=>⟨x,hp⟩
theorem lg {op:Op} {ty:TypeId} {e e0:Ent} {es:List Ent} {K:Nat} (k:Nat) (hk:Ao Γ K=some (mM es)) (hi:e0∈es) (hn:Ao Γ k=none) (h:OR P op ty ((k,e0) :: Γ) e):OR P op ty Γ e:=by intro d pos ag gd ρ M w rd;refine h d pos ag gd ρ M w ⟨λt e' he=>?_,rd.con,rd.fn,rd.bd,rd.glo⟩;rw [Ak] at he;unfold put at he;split at he;rename_i ht;cases he;let ⟨F,hF⟩:=rd.tmp K _ hk;let ⟨F',h'⟩:=Ho.mem hF hi;exact ⟨F',h' _⟩;exact rd.tmp t e' he
end
theorem me {l:List Ent} {i:Nat} {e:Ent} (h:l[i]?=some e):e∈l:=K0 h
def Gz {σ:Type} (gy:Int->σ->Option (Bool×σ)) (nd er:σ->Int):Nat->(Int×σ)->Option (Lo (Int×σ) (σ))
 | 0,_=>none
 | n + 1,z1=>(bif (decide (z1.1 < nd z1.2)) && (er z1.2 == (0:Int)) then (gy z1.1 z1.2).bind λx2=>(bif (!x2.1) then some (.ret x2.2) else Gz gy nd er n ((wr (z1.1 + (1:Int))),x2.2)) else some (.brk (z1.1,z1.2)))
def QD {σ:Type} (gy:Int->σ->Option (Bool×σ)) (nd er:σ->Int) (f:Nat) (v0:σ):Option σ:=(Gz gy nd er f ((0:Int),v0)).bind λo3=>match o3 with | .brk o3s=>some o3s.2 | .ret r=>some r
theorem nT {σ X:Type} (G:σ->X->List Ent) (n9 n0:Nat) (nd er:σ×Nat->Int)
  (hG:∀ (s:σ×Nat) x,∃ (cs:P2) (c:Value) (xs:List Node),Mr n9 [pb n0 0]∈G s.1 x/\Mr n0 cs∈G s.1 x/\cs[7]?=some c/\cs[11]?=some (.int .i64 (er s))/\Ow 277 c xs∈G s.1 x/\(xs.length:Int)=nd s)
  (E:σ×Nat->Ent) [hE:∀ s,Gh (E s)] (hop:∀ s,∃ T:List Ent,E s=Pk λx=>T ++ G s.1 x) (l:Nat) (gy:Int->σ×Nat->Option (Bool×(σ×Nat)))
  (ihy:∀ x s r,gy x s=some r->Cy Tryz.prog l [Va x] [E s] (Rz (λ_:Unit=>Va r.1) λ_=>[E r.2])) (f:Nat) (v0 r:σ×Nat) (hm:QD gy nd er f v0=some r) :
  Cg Tryz.prog 254 [Qv (yv l),Qv (pb n9 0)] [E v0] (Rz (λx:Unit=>Dd) (λx=>[E r])):=by unfold QD at hm;refine aL Tryz.func254 ae rfl Tryz.ntmps254 rfl rfl λM w_0 a hM hD s=>?_;refine se (rg (sq s (sa ci) rfl λa w s=>nl ?_));refine lb hm (λz1 a w=>St M w_0 24 [(0,Qv (yv l)),(1,Qv (pb n9 0)),(3,Va (z1.1)),(300,E z1.2)] a w) (s.pick [0,1,3,300]) (λ_=>rfl) (λo3 hko3 n z1 a w hm s=>?_) λo3s hm a w s=>?_;unfold Gz at hm;let ⟨T,hT⟩:=hop z1.2;rw [hT] at s;let ⟨x,s⟩:=s.opP (K:=300) rfl;let ⟨cs,c,xs,g1,g2,g3,g4,g5,g6⟩:=hG z1.2 x;have g1:=LC T g1;have g2:=LC T g2;have g5:=LC T g5;refine se ?_;refine se (rg ?_);refine sq s (mv (t rfl)) rfl λa w s=>?_;refine sq s (lg (K:=300) 2000 rfl g1 rfl (bJ (K:=2000) (t rfl) rfl rfl ae)) rfl λa w s=>?_;refine sq s (aN (t rfl)) rfl λa w s=>?_;refine sq s (ax (off:=7) (m:=0) (q:=7) (t rfl) ae rfl) rfl λa w s=>?_;refine sq s (lg (K:=300) 2000 rfl g2 rfl (bw (K:=2000) (List Node) (t rfl) rfl g3 rfl rfl)) rfl λa w s=>?_;refine sq s (lg (K:=300) 2000 rfl g5 rfl (ig (k:=2000) (t rfl) rfl)) rfl λa w s=>?_;refine sq s (lt (t rfl) (t rfl)) rfl λa w s=>?_;refine sq s (mv (t rfl)) rfl λa w s=>?_;refine sg s rfl rfl (λhb=>(lg (K:=300) 2000 rfl g1 rfl (bJ (K:=2000) (t rfl) rfl rfl ae))) rfl λa w s=>?_;refine sg s rfl rfl (λhb=>(aN (tg rfl hb))) rfl λa w s=>?_;refine sg s rfl rfl (λhb=>(ax (off:=11) (m:=0) (q:=11) (tg rfl hb) ae rfl)) rfl λa w s=>?_;refine sg s rfl rfl (λhb=>(lg (K:=300) 2000 rfl g2 rfl (bw (K:=2000) Int (tg rfl hb) rfl g4 rfl rfl))) rfl λa w s=>?_;refine sg s rfl rfl (λhb=>(eq (qi (tg rfl hb)) ci)) rfl λa w s=>?_;refine sq s (qH (t rfl) rfl) rfl λa w s=>?_;refine nl ?_;rw [← g6] at hm;refine cm s rfl hm (λhb hm=>?_) (λhb hm=>?_);refine wpIn_skip ?_;refine se ?_;refine wpIn_block ?_;replace s:=s.clP (G:=λx=>T ++ G z1.2.1 x) (K:=300) (x:=x) rfl;rw [← hT] at s;let ⟨x2,hx2,hm⟩:=bs hm;refine se (rg (sq s (av (t rfl)) rfl λa w s=>sq s (mv (t rfl)) rfl λa w s=>iC [300] [300] hM s (t rfl) rfl (oc (t rfl) on) (ihy _ _ _ hx2) (kc rfl kn) rfl (λ_=>rfl) rfl rfl rfl λy3 a w s=>sq s (nt (t rfl)) rfl λa w s=>nl ?_));refine cm s rfl hm (λhb hm=>?_) (λhb hm=>?_);obtain rfl:=si hm;replace hm:=hko3;dsimp only at hm;obtain rfl:=si hm;refine wpIn_ret ?_;exact rz [300] () hM hD s rfl rv0 (kc rfl kn) rfl;refine wpIn_skip ?_;refine rg (sq s (mv (t rfl)) rfl λa w s=>sq s (ad (t rfl) ci) rfl λa w s=>sq s (sa (t rfl)) rfl λa w s=>nl ?_);exact ⟨_,hm,s.pick [0,1,3,300]⟩;refine wpIn_exit ?_;replace s:=s.clP (G:=λx=>T ++ G z1.2.1 x) (K:=300) (x:=x) rfl;rw [← hT] at s;exact ⟨_,(si hm).symm,s.pick [0,1,3,300]⟩;dsimp only at hm;obtain rfl:=si hm;exact qB [300] () hM hD s rfl rv0 (kc rfl kn) rfl
end
section
open Go.Proofs
theorem CT {α:Type} [Rep α] {M:Nat->Prop} {w:World} {ad:Option Addr} {cap l h:Nat} {xs:List α} (hs:xs=[]\/∃ b o,ad=some ⟨b,o,none⟩/\Row M w b o xs) (h1:l<=h) (h2:h<=xs.length) :
  Sl M w (sliced ad l h (cap + xs.length) (Rep.sz α)) ((xs.drop l).take (h - l)):=by (have hl:((xs.drop l).take (h - l)).length=h - l:=by simp;omega);by_cases h0:h - l=0;(have hn:(xs.drop l).take (h - l)=[]:=by rw [h0];simp);refine ⟨if cap + xs.length=l then ad else ad.map (·.add (l * Rep.sz α)),cap + xs.length - l,?_,.inl hn⟩;rw [hn];unfold sliced;rw [h0];rfl;(rcases hs with hs | ⟨b,o,rfl,hr⟩);rw [hs] at h2;simp at h2;omega;refine ⟨some ⟨b,o + l * Rep.sz α,none⟩,cap + (xs.length - h),?_,.inr ⟨b,_,rfl,Row.of_get λi x hx=>?_⟩⟩;unfold sliced;rw [if_neg aa,hl,Option.map_some,Bo];congr 1;omega;(have hi:i < h - l:=by rw [← hl];exact (KG.1 hx).1);rw [LN hi,N5] at hx;have:=hr.get hx;rwa [NC,← PV] at this
section
variable {P:Program} {Γ:Cx} {ty:TypeId}
theorem JQ {α:Type} {xs ys:List α} {l h:Int} (hr:fZ xs l h=some ys):0<=l/\l<=h/\h<=xs.length/\ys=(xs.drop l.toNat).take (h.toNat - l.toNat):=by unfold fZ at hr;split at hr;rename_i hc;exact ⟨hc.1,hc.2.1,hc.2.2,(Option.some.inj hr).symm⟩;cases hr
theorem jT {T:TypeId} {α:Type} [Rep α] (he:Es P T α):P.underlying T=some (.slice (P.elem T))/\∀ w,(sizeOf (P.elem T)).run P w=.ok (Rep.sz α) w:=by
 let ⟨e,h1,h2⟩:=he.el;have hu:=Vm h1;have hE:P.elem T=e:=by simp [Program.elem,hu]
 rw [hE];refine ⟨hu,λw=>?_⟩;cases hi:P.info? e with
 | none=>rw [hi] at h2;cases h2
 | some i=>rw [hi] at h2;simp at h2;simp [sizeOf,typeInfo,hi,h2]
theorem ll0 {α:Type} [Rep α] {T:TypeId} [he:Es P T α] {x y:Operand} {xs ys:List α} {h:Int} (hx:Od Γ x (Va xs)) (hy:Od Γ y (Va h)) (hr:fZ xs 0 h=some ys):OR P (.slice T x none (some y) none) ty Γ (Va ys):=by obtain ⟨h1,h2,h3,rfl⟩:=JQ hr;let ⟨hu,hsz⟩:=jT he;refine OR.val λρ M w rd=>?_;let ⟨_,hv⟩:=hx ρ M w rd;let ⟨_,hy2⟩:=hy ρ M w rd;let ⟨ad,cap,hv,hs⟩:=Va.list hv;have:=run_slice_h w T ad xs.length (cap + xs.length) hu .i64 h h2 aa;refine ⟨sliced ad 0 h.toNat (cap + xs.length) (Rep.sz α),λ_ _ _ _=>?_,Va.mkList (CT hs (L0 _) aa)⟩;simp only [execOp,hv,NG,Option.map_some,Va.int hy2,KJ];rw [run_sliceAt_slice _ _ _ _ _ _ hu,this,hsz];try rfl
end
end
section
variable {rr:Option Nat}
section
variable {α:Type} [Rep α] {M:Nat->Prop} {w:World}
end
section
variable {P:Program} {M0:Fm} {w0:World} {n:Nat} {Γ:Cx} {Q:Exit->Act->World->Prop} {a:Act} {w:World} {ty:TypeId} {α:Type} [Rep α]
theorem oqb {op:Op} {m:Bool} (h:OR P op ty Γ (Qv (.bool m))):OR P op ty Γ (Va m):=by intro d pos ag g ρ M w r;refine (h d pos ag g ρ M w r).mono ?_;rintro v w' ⟨hx,F,h1,h2,h3,hv⟩;have hv:v=.bool m:=hv;subst hv;exact ⟨hx,F,h1,h2,h3,[.bool m],rfl,rfl⟩
end
end
section
open Go.Proofs
theorem Vu {P:Program} {nm:String} {kd:IntKind} {zs:PZ} {g:Nat} {M:Nat->Prop} {w w':World} (hg:P.globalNamed nm=some g) (hs:g < w.heap.size) (hM:¬ M g) (h:Lib.TabIs P w nm kd zs) (x:Ext M w w'):Lib.TabIs P w' nm kd zs:=by unfold Lib.TabIs World.var? at *;rw [hg,NR] at *;rw [x.block g hs hM];exact h
def kA (P:Program) (nm:String) (kd:IntKind) (zs:PZ):Ent where
 p F M w _:=F=[]/\∃ g,P.globalNamed nm=some g/\g < w.heap.size/\¬ M g/\Lib.TabIs P w nm kd zs
 st:=by
  rintro F M w w' v ⟨rfl,g,h1,h2,h3,h4⟩ x;exact ⟨rfl,g,h1,LR h2 x.size,h3,Vu h1 h2 (λh=>h3 h.1) h4 x⟩
 sb:=by
  rintro F M M' w v ⟨rfl,g,h1,h2,h3,h4⟩ s;exact ⟨rfl,g,h1,h2,λh=>h3 (s g h2 h),h4⟩
def Tv (P:Program) (nm:String) (kd:IntKind) (zs:PZ) (e:Ent):Ent where
 p F M w v:=e.p F M w v/\(kA P nm kd zs).p [] M w v
 st:=by
  rintro F M w w' v ⟨h1,h2⟩ x;refine ⟨e.st h1 x,?_⟩;let ⟨_,g,k1,k2,k3,k4⟩:=h2;exact ⟨rfl,g,k1,LR k2 x.size,k3,Vu k1 k2 (λh=>k3 h.1) k4 x⟩
 sb:=by
  rintro F M M' w v ⟨h1,h2⟩ s;exact ⟨e.sb h1 s,(kA P nm kd zs).sb h2 s⟩
instance {P:Program} {nm:String} {kd:IntKind} {zs:PZ} {e:Ent} [hz:Zf e]:Zf (Tv P nm kd zs e):=⟨λh=>hz.z h.1⟩
theorem jg {P:Program} {nm:String} {kd:IntKind} {zs:PZ} {Γ:Cx} {x:Operand} {e:Ent} {k:Nat} (h:Od Γ x e) (hk:Ao Γ k=some (kA P nm kd zs)):Od Γ x (Tv P nm kd zs e):=λρ M w r=>by
 let ⟨F,h1⟩:=h ρ M w r;let ⟨F',h2⟩:=r.tmp _ _ hk;obtain rfl:F'=[]:=h2.1;exact ⟨F,h1,h2⟩
theorem jj {P:Program} {nm:String} {kd:IntKind} {zs:PZ} {M0:Fm} {w0 w:World} {n:Nat} {Γ:Cx} {a:Act} {d:Nat} {e:Ent} [hz:Zf e] {R:Prop} (k:Nat) (h:St M0 w0 n Γ a w) (hd:Ao Γ d=some (Tv P nm kd zs e)) (hne:Nat.beq d k=false) (r:St M0 w0 n ((d,e) :: (k,kA P nm kd zs) :: Γ) a w->R):R:=by let ⟨M,φ,h⟩:=h;refine r ?_;unfold St;rw [Fp];have h1:=h.holds d _ hd;let ⟨h2,h3⟩:=h1;have hF:=hz.z h2;refine h.split (by rw [hd];rfl) (LU hne) ?_ ?_;rw [hF] at h2;exact h2;rw [hF];exact h3
def bitT:PZ:=[1,2,4,8,16,32]
def eJ (j:Nat):Kd .u64:=⟨bitT.getD j 0⟩
def de (x y:Kd .u64):Kd .u64:=⟨IntKind.u64.wrap (BitVec.ofInt IntKind.u64.bits x.v ||| BitVec.ofInt IntKind.u64.bits y.v).toNat⟩
def dL (x y:Kd .u64):Kd .u64:=⟨IntKind.u64.wrap (BitVec.ofInt IntKind.u64.bits x.v &&& BitVec.ofInt IntKind.u64.bits y.v).toNat⟩
section
variable {P:Program} {Γ:Cx} {ty:TypeId}
theorem qI {x y:Operand} {T T':TypeId} {m n:Kd .u64} (hx:Od Γ x (Va m)) (hy:Od Γ y (Va n)):OR P (.binOp .or T x y T') ty Γ (Va (de m n)):=
 gN hx hy λ_=>⟨.int .u64 (de m n).v,by unfold binOp;rfl,λ_=>⟨rfl,[.int .u64 (de m n).v],rfl,rfl⟩⟩
theorem ank {x y:Operand} {T T':TypeId} {m n:Kd .u64} (hx:Od Γ x (Va m)) (hy:Od Γ y (Va n)):OR P (.binOp .and T x y T') ty Γ (Va (dL m n)):=
 gN hx hy λ_=>⟨.int .u64 (dL m n).v,by unfold binOp;rfl,λ_=>⟨rfl,[.int .u64 (dL m n).v],rfl,rfl⟩⟩
theorem itb {nm:String} {T e K g:Nat} {i:Operand} {m:Int} {j:Nat} (hk:Ao Γ K=some (kA P nm .u64 bitT)) (hi:Od Γ i (Va m)) (hA:P.underlying T=some (.array 6 e)) (he:(P.info? e).map (·.size)=some 1) (hy:idx (List.range 6) m=some j) (hg:P.globalNamed nm=some g:=by kernel_rfl):OR P (.indexAddr T (.global g) i) ty Γ (Pt (eJ j)):=by
 refine OR.val λρ M w r=>?_;let ⟨_,_,g',h1,h2,h3,h4⟩:=r.tmp _ _ hk;obtain rfl:g=g':=Option.some.inj (hg.symm.trans h1);let ⟨_,hi2⟩:=hi ρ M w r;let ⟨h0,hlt,hgg⟩:=Au hy;have hlt:m < 6:=by simpa using hlt
 have hj:m.toNat=j:=by
  rw [K6 aa] at hgg;exact Option.some.inj hgg
 have hr:(sizeOf e).run P w=.ok 1 w:=by
  cases hie:P.info? e with
  | none=>simp [hie] at he
  | some i=>simp [hie] at he;simp [sizeOf,typeInfo,hie,he]
 refine ⟨.pointer (some ⟨g,0 + j,none⟩),λ_ _ _ _=>?_,rfl,g,0 + j,rfl,[.int .u64 (eJ j).v],?_,rfl⟩
 ·simp only [execOp,r.glo,Va.int hi2,Instr.indexAt,KJ,asIntOf,KQ,KE,run_underlying hA];simp [h0,hlt,Instr.sureAddr,hr,hj,Bo]
 ·intro q v hq;obtain ⟨rfl,rfl⟩:q=0/\.int .u64 (eJ j).v=v:=by
   cases q with
   | zero=>exact ⟨rfl,by simpa using hq⟩
   | succ q=>simp at hq
  refine ⟨h3,?_⟩;have h4:(P.globalNamed nm).bind (λg=>match w.heap[g]? with | some (.cells cs _ _)=>some cs | _=>none)=some (bitT.map λz=>Value.int .u64 z).toArray:=h4
  rw [hg,NR] at h4;unfold World.cell?;cases hh:w.heap[g]? with
  | none=>rw [hh] at h4;cases h4
  | some o=>
   rw [hh] at h4;cases o with
   | cells cs T q=>
    have h4:some cs=_:=h4;rw [Option.some.inj h4];have hj6:j < 6:=by omega
    rcases (show j=0\/j=1\/j=2\/j=3\/j=4\/j=5 by omega) with rfl | rfl | rfl | rfl | rfl | rfl <;> rfl
   | _=>cases h4
end
abbrev TbT : Ent := kA Tryz.prog "pneumatic/group.bits" .u64 bitT
abbrev TV (e : Ent) : Ent := Tv Tryz.prog "pneumatic/group.bits" .u64 bitT e
end
section
open Go.Proofs
section
variable {P:Program} {Γ:Cx} {ty:TypeId}
def Pw (cs:P2) (j:Nat):Ent where
 p F M w v:=F=[]/\∃ b,v=.pointer (some ⟨b,j,none⟩)/\Cls M w b 0 cs
 st h e:=let ⟨hF,b,hv,hc⟩:=h;⟨hF,b,hv,hc.ext (e.mono λ_ _ h=>h.1)⟩
 sb h s:=let ⟨hF,b,hv,hc⟩:=h;⟨hF,b,hv,hc.sub s⟩
theorem lnw {T e:Nat} {x:Operand} {cs:P2} (hT:P.underlying T=some (.slice e)) (hx:Od Γ x (Rw cs)):OR P (.call { callee:=.builtin .len,args:=#[x],argTypes:=#[T] }) ty Γ (Va (cs.length:Int)):=by refine OR.val λρ M w r=>?_;let ⟨_,_,b,hv,_⟩:=hx ρ M w r;refine ⟨.int .i64 cs.length,λ_ _ _ _=>?_,Va.mkInt⟩;simp [execOp,resolve,hv,invoke,builtin,Builtin.len_,run_underlying hT,goInt]
theorem ixw {T e len:Nat} {x i:Operand} {cs:P2} {m:Int} {j:Nat} (hx:Od Γ x (Rw cs)) (hi:Od Γ i (Va m)) (hT:P.underlying T=some (.slice e)) (he:(P.info? e).map (·.size)=some 1) (hl:cs.length=len) (hy:idx (List.range len) m=some j):OR P (.indexAddr T x i) ty Γ (Pw cs j):=by
 refine OR.val λρ M w r=>?_;let ⟨_,_,b,hv,hc⟩:=hx ρ M w r;let ⟨_,h2⟩:=hi ρ M w r;let ⟨h0,hlt,hg⟩:=Au hy;have hlt:m < (len:Int):=by simpa using hlt
 have hj:m.toNat=j:=by
  rw [K6 aa] at hg;exact Option.some.inj hg
 have hr:(sizeOf e).run P w=.ok 1 w:=by
  cases hie:P.info? e with
  | none=>simp [hie] at he
  | some i=>simp [hie] at he;simp [sizeOf,typeInfo,hie,he]
 refine ⟨.pointer (some ⟨b,j,none⟩),λ_ _ _ _=>?_,rfl,b,rfl,hc⟩;simp only [execOp,hv,Va.int h2,Instr.indexAt,KJ,asIntOf,KQ,KE,run_underlying hT];have hlt':m < (cs.length:Int):=by omega
 simp [h0,hlt',hr,hj,Bo]
theorem ldw {T j len:Nat} {x:Operand} {cs:P2} (h:Od Γ x (Pw cs j)) (hj:j < len) (ha:(P.underlying T).map Br=some false) (hl:cs.length=len:=by rfl):OR P (.load T x) ty Γ (Qv (Kh j cs)):=by (refine OR.val λρ M w r=>?_;let ⟨_,_,b,hv,hc⟩:=h ρ M w r;have hlt:j < cs.length:=by omega);(have h1:cs[j]?=some (Kh j cs):=by unfold Kh;rw [KM,L9 hlt];rfl);(have h2:w.cell? ⟨b,j,none⟩=some (Kh j cs):=by have:=(hc j _ h1).2;simpa using this);refine ⟨Kh j cs,λ_ _ _ _=>?_,rfl,rfl⟩;simp only [execOp,hv,Instr.loadAt,Instr.sureAddr,KJ,KQ,KE,loadVar,Ty.run_agg ha];simp [h2]
end
def kQ (j a b c d:Nat):Nat:=if j=0 then a else if j=1 then b else if j=2 then c else d
theorem kO {ρ:Type} {j:Nat} {x y z u:Option ρ} {r:ρ} (h:(bif j == 0 then x else bif j == 1 then y else bif j == 2 then z else bif j == 3 then u else none)=some r):j < 4:=by
 match j,h with
 | 0,_=>omega
 | 1,_=>omega
 | 2,_=>omega
 | 3,_=>omega
 | (n+4),h=>simp at h
theorem j2 {ρ:Type} {j a b c d:Nat} {x y z u:Option ρ} {r:ρ} {Q:Nat->Prop} (h:(bif j == 0 then x else bif j == 1 then y else bif j == 2 then z else bif j == 3 then u else none)=some r) (h0:x=some r->Q a) (h1:y=some r->Q b) (h2:z=some r->Q c) (h3:u=some r->Q d):Q (kQ j a b c d):=by
 match j,h with
 | 0,h=>exact h0 h
 | 1,h=>exact h1 h
 | 2,h=>exact h2 h
 | 3,h=>exact h3 h
 | (n+4),h=>simp at h
theorem kY {Γ:Cx} {x:Operand} {j a b c d:Nat} {fs cs:P2} (hj:j < 4) (h:Od Γ x (Qv (Kh j [fv a fs cs,fv b fs cs,fv c fs cs,fv d fs cs]))):Od Γ x (Qv (fv (kQ j a b c d) fs cs)):=by
 match j,hj,h with
 | 0,_,h=>exact h
 | 1,_,h=>exact h
 | 2,_,h=>exact h
 | 3,_,h=>exact h
end
section
open Go.Proofs
section
variable {P:Program} {Γ:Cx} {ty:TypeId}
theorem kJ {op:Op} {k b:Nat} {cs:P2} {α:Type} [Rep α] {x:α} {e':Ent} (hf:dO e') (hk:Ao Γ k=some (Mr b cs)) (hr:Rp Γ cs x) (h:OR P op ty ((k,At (pb b 0) (Pt x)) :: Γ) e'):OR P op ty Γ e':=by intro dd pos ag g ρ M w r;let ⟨F,hF⟩:=r.tmp _ _ hk;have hs:∀ q,q < w.heap.size->(M q/\q ∉ F)->M q:=λq _ hq=>hq.1;have hrep:=hr ρ M w r;refine (h dd pos ag g ρ (λq=>M q/\q ∉ F) w ⟨λt e1 he=>?_,r.con,r.fn,λq hq=>r.bd q hq.1,r.glo⟩).mono ?_;rw [Ak] at he;unfold Pn.put at he;split at he;rename_i ht;subst ht;cases he;refine ⟨[],rfl,b,0,rfl,cs,λj v hj=>⟨λhm=>hm.2 (by rw [hF.1];simp),?_⟩,Rep.sub hrep hs⟩;have:=Mr.cell hF j v hj;rw [MJ];exact this;let ⟨F1,h1⟩:=r.tmp _ _ he;exact ⟨F1,Ent.sb _ h1 hs⟩;rintro v w' ⟨hx,F1,h1,h2,h3⟩;exact ⟨hx,F1,h1,h2,hf h3⟩
end
end
section
open Go.Proofs
section
variable {P:Program} {Γ:Cx} {ty:TypeId}
theorem sl6 {T e:Nat} {x y:Operand} {n:Int} {z:Ar6} {ys:P0} (hx:Od Γ x (Pt z)) (hy:Od Γ y (Va n)) (hT:P.underlying T=some (.array 6 e)) (he:(P.info? e).map (·.size)=some 1) (h:fZ z.l 0 n=some ys):OR P (.slice T x none (some y) none) ty Γ (Va ys):=by
 obtain ⟨h1,h2,h3,rfl⟩:=JQ h;refine OR.val λρ M w r=>?_;obtain ⟨_,_,b,o,hv,cs,hc,rfl,hl⟩:=hx ρ M w r;let ⟨_,hy2⟩:=hy ρ M w r;have hrow:Row M w b o z.l:=Row.of_get λi u hi=>by
  refine ⟨[.bool u],λj v hj=>?_,rfl⟩;obtain ⟨rfl,rfl⟩:j=0/\.bool u=v:=by
   cases j with
   | zero=>exact ⟨rfl,by simpa using hj⟩
   | succ j=>simp at hj
  have:=hc i (.bool u) (by rw [KZ,hi];rfl);show Cl M w b (o + i * 1 + 0) _;rw [M5,NS];exact this
 have hsz:(sizeOf e).run P w=.ok 1 w:=by
  cases hie:P.info? e with
  | none=>simp [hie] at he
  | some i=>simp [hie] at he;simp [sizeOf,typeInfo,hie,he]
 rw [hl] at h3;have hn6:n<=((6:Nat):Int):=by omega
 refine ⟨sliced (some ⟨b,o,none⟩) 0 n.toNat (0 + z.l.length) 1,λ_ _ _ _=>?_,Va.mkList (CT (.inr ⟨b,o,rfl,hrow⟩) (L0 _) (by rw [hl];omega))⟩;simp only [execOp,hv,NG,Option.map_some,Va.int hy2,KJ,Instr.sliceAt,run_underlying hT,KE,Instr.sureAddr,KQ,Instr.sliceBounds,Instr.sliceBound,asIntOf,hsz];rw [if_pos ⟨h2,hn6⟩];simp [sliced,hl,hsz]
end
end
section
def d7:Array Value->Nat->P2->Array Value
 | cur,_,[]=>cur
 | cur,o,v :: r=>d7 (cur.setIfInBounds o v) (o + 1) r
theorem Nw:∀ {vs:P2} {cur:Array Value} {o:Nat},(d7 cur o vs).size=cur.size
 | [],_,_=>rfl
 | v :: r,cur,o=>by unfold d7;rw [Nw];simp
theorem DB:∀ {vs:P2} {cur:Array Value} {o k:Nat},o + vs.length<=cur.size->(d7 cur o vs)[k]?=if o<=k/\k < o + vs.length then vs[k - o]? else cur[k]?
 | [],cur,o,k,_=>by
  unfold d7;rw [if_neg];simp
 | v :: r,cur,o,k,h=>by
  unfold d7;simp only [LM] at h;rw [DB (by simp;omega)];simp only [LM];by_cases h1:o + 1<=k/\k < o + 1 + r.length
  ·rw [if_pos h1,if_pos aa,show k - o=(k - (o + 1)) + 1 by omega];simp
  ·rw [if_neg h1];by_cases h2:k=o
   ·subst h2;rw [if_pos aa,Array.getElem?_setIfInBounds_self_of_lt aa];simp
   ·rw [if_neg aa,LE (λe=>h2 e.symm)]
theorem JJ:∀ {vs:P2} {cur:Array Value} {o k:Nat},k < o->(d7 cur o vs)[k]?=cur[k]?
 | [],_,_,_,_=>rfl
 | v :: r,cur,o,k,h=>by
  unfold d7;rw [JJ aa,LE aa]
theorem Cw {g:Nat} {e:TypeId}:∀ {vs:P2} {o:Nat} {w:World} {cur:Array Value},w.heap[g]?=some (.cells cur e (0,0))->(w.setCells g o vs).heap[g]?=some (.cells (d7 cur o vs) e (0,0))
 | [],_,_,_,h=>h
 | v :: r,o,w,cur,h=>by
  unfold World.setCells d7;exact Cw (by simp [World.setCell,NX,h])
theorem Ext.setCells {g:Nat}:∀ (vs:P2) (o:Nat) (w:World),Ext (λk=>k=g) w (w.setCells g o vs)
 | [],_,w=>Ext.refl _ _
 | v :: r,o,w=>by
  unfold World.setCells;exact (Ext.setCell (M:=λk=>k=g) w ⟨g,o,none⟩ v rfl).trans (Ext.setCells r (o + 1) _)
variable {P:Program}
theorem clr (w:World) (t e ty:TypeId) (z:Value) (ht:P.underlying t=some (.slice e)) (hv:∀ w,(zeroValue e).run P w=.ok z w) (h1:∀ v∈z.cells.toList,v.oneCell'=true) (hz0:0 < z.cells.size) (b o n c:Nat) (hn:0 < n)
  (hc:∀ j,j < n * z.cells.size->(w.cell? ⟨b,o + j,none⟩).isSome=true) (hf:∀ j,j < n * z.cells.size->w.frozen? ⟨b,o + j,none⟩=false) :
  (Builtin.clear_ #[t] ty #[.slice (some ⟨b,o,none⟩) n c]).run P w=.ok (.tuple #[]) (w.setCells b o (Builtin.zeroCells z.cells n).toList):=by (have hlen:(Builtin.zeroCells z.cells n).toList.length=n * z.cells.size:=by simp [Builtin.zeroCells]);have hst:=run_storeCells_cells (P:=P) b o (Builtin.zeroCells z.cells n).toList 0 w (by rw [hlen];simpa using hc) (by rw [hlen];simpa using hf) (by intro v hv';simp only [Builtin.zeroCells,NA,K7] at hv';obtain ⟨i,_,rfl⟩:=hv';refine h1 _ ?_;rw [getElem!_pos z.cells _ (Nat.mod_lt _ hz0)];simp);simp only [NS] at hst;obtain ⟨m,rfl⟩:∃ m,n=m + 1:=⟨n - 1,by omega⟩;simp [Builtin.clear_,run_underlying ht,hv,hst]
section
variable {α:Type} [Rep α] {M:Nat->Prop} {w:World}
theorem Chk.takeN:∀ {xs:List α} {cs:P2} (n:Nat),Chk M w cs xs->Chk M w (cs.take (n * Rep.sz α)) (xs.take n)
 | _,_,0,_=>by simp;rfl
 | [],_,n + 1,h=>by
  have h:_=[]:=h;subst h;simp;rfl
 | x :: xs,_,n + 1,⟨c,d,h1,h2,h3⟩=>⟨c,d.take (n * Rep.sz α),by
   have hl:=Rep.len h2;rw [h1,show (n + 1) * Rep.sz α=c.length + n * Rep.sz α by rw [hl,PC];omega,List.take_length_add_append],h2,Chk.takeN n h3⟩
theorem Chk.dropN:∀ {xs:List α} {cs:P2} (n:Nat),Chk M w cs xs->Chk M w (cs.drop (n * Rep.sz α)) (xs.drop n)
 | _,_,0,h=>by simpa using h
 | [],_,n + 1,h=>by
  have h:_=[]:=h;subst h;simp;rfl
 | x :: xs,_,n + 1,⟨c,d,h1,h2,h3⟩=>by
  have hl:=Rep.len h2;rw [h1,show (n + 1) * Rep.sz α=c.length + n * Rep.sz α by rw [hl,PC];omega,List.drop_length_add_append];exact Chk.dropN n h3
end
end
end Go.Pn
namespace Go.Proofs
open Go Go.RowKit
section
open Go.Lib Go.Sort Go.Pn
theorem jW (a:Option Addr) (n cap i:Nat) (w:World) (hi:i<=n) (hn:n<=cap) (hm:cap<=9223372036854775807) :
  Calls Tryz.prog 195 #[.slice a n cap,.int .i64 i,.int .i64 i] w λe w'=>e=.returned (.slice a n cap)/\w'=w:=by
 go_enter Tryz.func195,Tryz.ntmps195
 go_wp2
 all_goals (go_ret;exact ⟨rfl,rfl⟩)
theorem jV (g cap n i j:Nat) (cur:Array Value) (e:TypeId) (w:World) (hg:w.heap[g]?=some (.cells cur e (0,0))) (hsz:cur.size=cap * 2) (hn:n<=cap) (hm:cap<=maxLen) (hij:i < j) (hj:j<=n)
  (news:P2) (hnews:news=(cur.toList.drop (j * 2)).take ((n - j) * 2)) (h1:∀ u∈news,u.oneCell'=true) :
  Calls Tryz.prog 195 #[.slice (some ⟨g,0,none⟩) n cap,.int .i64 i,.int .i64 j] w λen w'=>en=.returned (.slice (some ⟨g,0,none⟩) (n - (j - i)) cap)/\∃ Z,w'=((w.drew).setCells g (i * 2) news).setCells g ((i + (n - j)) * 2) Z:=by
 have hm':cap<=9223372036854775807:=by unfold maxLen at hm;omega
 have hic:i<=cap:=by omega
 have hjc:j<=cap:=by omega
 obtain ⟨i0,hi0,hz1⟩:∃ i0,Tryz.prog.info? 69=some i0/\i0.size=2:=by
  have h:(Tryz.prog.info? 69).map (·.size)=some 2:=by kernel_rfl
  cases hq:Tryz.prog.info? 69 with
  | none=>rw [hq] at h;cases h
  | some x=>rw [hq] at h;exact ⟨x,rfl,by simpa using h⟩
 have hlen:news.length=(n - j) * 2:=by rw [hnews];simp;omega
 have hget:∀ t,t < (n - j) * 2->news[t]?=cur[j * 2 + t]?:=by
  intro t ht;rw [hnews,LN ht,N5,MV]
 have hdr:w.drew.heap=w.heap:=rfl;have hcell:∀ k,w.drew.cell? ⟨g,k,none⟩=cur[k]?:=by intro k;show w.cell? _=_;simp [World.cell?,hg]
 have hfroz:∀ k,w.drew.frozen? ⟨g,k,none⟩=false:=by intro k;show w.frozen? _=_;simp [World.frozen?,hg]
 obtain ⟨A,hA,hsrc⟩:∃ A:Addr,(if cap=j then some (⟨g,0,none⟩:Addr) else some ⟨g,j * 2,none⟩)=some A/\Hid (∀ t u,news[t]?=some u->w.drew.cell? (A.add t)=some u):=by
  by_cases h:cap=j
  ·refine ⟨⟨g,0,none⟩,by simp [h],λt u hu=>?_⟩;have h0:news.length=0:=by rw [hlen];omega
   rw [NP.1 h0] at hu;simp at hu
  ·refine ⟨⟨g,j * 2,none⟩,by simp [h],λt u hu=>?_⟩;have ht:t < (n - j) * 2:=by
    have:=(KG.1 hu).1
    rwa [hlen] at this
   rw [Addr.add_lit,hcell,← hget t ht];exact hu
 have s1:Hid (news.length=(n - j) * 2):=hlen;have s2:Hid (∀ u∈news,u.oneCell'=true):=h1;have s3:Hid (∀ t,t < news.length->(w.drew.cell? ⟨g,0 + i * 2 + t,none⟩).isSome=true/\w.drew.frozen? ⟨g,0 + i * 2 + t,none⟩=false):=by
  intro t ht;rw [hlen] at ht;refine ⟨?_,hfroz _⟩;rw [hcell,L4 Go.Pn.aa];rfl
 obtain ⟨W1,hW1⟩:∃ W1,W1=w.drew.setCells g (0 + i * 2) news:=⟨_,rfl⟩;have hW:Hid (W1=w.drew.setCells g (0 + i * 2) news):=hW1;have hown:=Cw (vs:=news) (o:=0 + i * 2) (w:=w.drew) hg;rw [← hW1] at hown;have hcell1:∀ k,W1.cell? ⟨g,k,none⟩=(d7 cur (0 + i * 2) news)[k]?:=by intro k;simp [World.cell?,hown]
 have hfroz1:∀ k,W1.frozen? ⟨g,k,none⟩=false:=by intro k;simp [World.frozen?,hown]
 obtain ⟨z,hz,hzc⟩:∃ z,(∀ w,(zeroValue 69).run Tryz.prog w=.ok z w)/\z.cells=#[.int .i64 0,.bool false]:=⟨_,Tryz.zeroValue69,rfl⟩;obtain ⟨Z,hZ⟩:∃ Z,Z=(Builtin.zeroCells z.cells (n - (i + (n - j)))).toList:=⟨_,rfl⟩;have hcl:∀ ty,(Builtin.clear_ #[59] ty #[.slice (some ⟨g,(i + (n - j)) * 2,none⟩) (n - (i + (n - j))) (cap - (i + (n - j)))]).run Tryz.prog W1=.ok (.tuple #[]) (W1.setCells g ((i + (n - j)) * 2) Z):=λty=>by
  rw [hZ];refine clr W1 59 69 ty z Tryz.underlying59 hz (by rw [hzc];simp [Value.oneCell']) (by rw [hzc];decide) g _ _ _ Go.Pn.aa (λt ht=>?_) (λt ht=>hfroz1 _);rw [hzc] at ht;have ht:t < (n - (i + (n - j))) * 2:=ht;rw [hcell1,L4 (by rw [Nw];omega)];rfl
 have mixed:Tryz.prog.follows Departure.mixedOrders=true:=by kernel_rfl
 clear hm hW1 hown hcell1 hfroz1 hcell hfroz hget hnews hlen hdr hg hsz h1 hzc hz hZ
 go_enter Tryz.func195,Tryz.ntmps195
 go_wp2_with fail
 go_region_law_o (refine step_append_room rfl (.tmp 22) (.tmp 25) 59 rfl 69 i0 2 Tryz.underlying59 hi0 hz1 g 0 i cap (by simp [Act.eval,Act.put]) A (n - j) (cap - j) news (by simp [Act.eval,Act.put]) s1.out hsrc.out s2.out Go.Pn.aa s3.out ?_;rw [← hW.out])
 go_wp2
 go_ret
 refine ⟨by rw [show n - (j - i)=i + (n - j) by omega];rfl,Z,?_⟩;rw [hW.out,MJ]
end
end Go.Proofs
namespace Go.Pn
open Go Go.RowKit
section
open Go.Proofs
def QE (_:Nat) (x y:Int) (v0:List Ab):Option (List Ab):=if 0<=x/\x<=y/\y<=v0.length/\v0.length<=1000000000 then some (v0.take x.toNat ++ v0.drop y.toNat) else none
theorem ou (f:Nat) (n0:Value) (v1 v2:Int) (v0 r:List Ab) (hm:QE f v1 v2 v0=some r):Cg Tryz.prog 195 [Qv n0,Va v1,Va v2] [Ow 69 n0 v0] (Rz (λx:Value=>Qv x) (λx=>[Ow 69 x r])):=by
 unfold QE at hm;split at hm
 case isFalse=>cases hm
 rename_i hb;let ⟨b1,b2,b3,b4⟩:=hb;obtain rfl:=Option.some.inj hm;obtain ⟨i,rfl⟩:∃ i:Nat,v1=i:=⟨v1.toNat,by omega⟩;obtain ⟨j,rfl⟩:∃ j:Nat,v2=j:=⟨v2.toNat,by omega⟩;have hij:i<=j:=by omega
 have hj:j<=v0.length:=by omega
 show Cg _ _ _ _ (Rz _ λx=>[Ow 69 x (v0.take i ++ v0.drop j)]);have hsz2:Rep.sz Ab=2:=rfl;refine ⟨ae,?_⟩;intro vs M w Ft hM hf ho hnd hFM
 match vs,hf with
 | [v,vi,vj],⟨⟨_,hv⟩,⟨_,hi⟩,⟨_,hjv⟩,_⟩=>
  have hv:v=n0:=hv;subst hv;obtain rfl:vi=.int .i64 i:=Va.int (F:=[]) (M:=M) (w:=w) ⟨rfl,hi⟩;obtain rfl:vj=.int .i64 j:=Va.int (F:=[]) (M:=M) (w:=w) ⟨rfl,hjv⟩;obtain ⟨F1,_,rfl,hown,rfl⟩:=ho
  -- nothing is deleted
  have same:∀ (a:Option Addr) (n cap:Nat),v=.slice a n cap->i=j->i<=n->n<=cap->cap<=9223372036854775807->Calls Tryz.prog 195 #[v,.int .i64 i,.int .i64 j] w (cC ⟨λk=>M k/\k ∉ F1 ++ [],λk=>k∈F1 ++ [],[]⟩ w (Rz (λx:Value=>Qv x) λx=>[Ow 69 x (v0.take i ++ v0.drop j)])):=by
   intro a n cap hv h1 h2 h3 h4;subst h1;rw [hv];refine (jW a n cap i w h2 h3 h4).mono ?_;rintro en w' ⟨rfl,rfl⟩;refine ⟨_,F1,rfl,Ext.refl _ _,by simpa using hnd,λk hk=>.inl (by simpa using hk),v,⟨rfl,hv.symm⟩,F1,[],by simp,λu=>?_,rfl⟩;rw [N8];exact (Ow 69 v v0).sb (hown u) (λk _ hk=>by rcases hk with h | h;exact h.1;exact hFM k (by simpa using h))
  rcases hown undef with ⟨hF,cs,hr,hc⟩ | ⟨hF,hx,g,hv⟩
  ·rcases hr.2 with ⟨hn,hx⟩ | ⟨g,cap,cur,hn,_,hg,hle,hcap,hsz,htk⟩
   ·exact same none 0 0 hn aa aa (K9 _) aa
   ·have hcap':cap<=9223372036854775807:=by unfold maxLen at hcap;omega
    by_cases hEq:i=j
    ·exact same _ _ _ hn hEq aa hle hcap'
    ·have hlt:i < j:=by omega
     rw [hsz2] at hsz htk;have hgl:g < w.heap.size:=(KS.1 hg).1;obtain ⟨news,hnews⟩:∃ news,news=(cur.toList.drop (j * 2)).take ((v0.length - j) * 2):=⟨_,rfl⟩;have hnc:news=cs.drop (j * 2):=by
      rw [hnews,← htk,List.drop_take];congr 1;omega
     have h1:∀ u∈news,u.oneCell'=true:=λu hu=>hc.one u (OS (hnc ▸ hu));have hnl:news.length=(v0.length - j) * 2:=by rw [hnc,NT,hc.len,hsz2];omega
     rw [hn];refine (jV g cap v0.length i j cur 69 w hg hsz hle hcap hlt hj news hnews h1).mono ?_;rintro en w' ⟨rfl,Z,rfl⟩;have hF1:F1=[g]:=by rw [hF,hn];rfl
     subst hF1;have hg1:=Cw (vs:=news) (o:=i * 2) (w:=w.drew) hg;have hg2:=Cw (vs:=Z) (o:=(i + (v0.length - j)) * 2) hg1;have hx:Ext (λk=>k=g) w (((w.drew).setCells g (i * 2) news).setCells g ((i + (v0.length - j)) * 2) Z):=(Ext.drew _ w).trans ((Ext.setCells _ _ _).trans (Ext.setCells _ _ _));refine ⟨_,[g],rfl,hx.mono λk _ hk=>by subst hk;simp,by simp,λk hk=>.inl (by simpa using hk),_,⟨rfl,rfl⟩,[g],[],by simp,λu=>.inl ⟨rfl,cs.take (i * 2) ++ cs.drop (j * 2),⟨?_,.inr ⟨g,cap,_,?_,L0 _,hg2,?_,hcap,?_,?_⟩⟩,?_⟩,rfl⟩
     ·rw [KH,LJ,NT,hc.len,KH,LJ,NT,hsz2];omega
     ·rw [show v0.length - (j - i)=(v0.take i ++ v0.drop j).length by rw [KH,LJ,NT];omega]
     ·rw [KH,LJ,NT];omega
     ·rw [Nw,Nw,hsz,hsz2]
     ·have hm:(v0.take i ++ v0.drop j).length * Rep.sz Ab=(i + (v0.length - j)) * 2:=by rw [KH,LJ,NT,hsz2,PF aa]
      have hcl:cs.length=v0.length * 2:=by rw [hc.len,hsz2]
      rw [hm];refine M7 λk=>?_;rw [OJ];split
      ·rename_i hk;rw [MV,JJ hk,DB (by rw [hnl,hsz];omega)];by_cases hk2:k < i * 2
       ·rw [if_neg aa,KR (by rw [LJ];omega),LN hk2,← htk,LN aa,MV]
       ·rw [if_pos (by rw [hnl];omega),KO (by rw [LJ];omega),LJ,hnc,PF aa]
      ·rw [LG];rw [KH,LJ,NT];omega
     ·have h2:=(hc.takeN i).append (hc.dropN j);rw [hsz2] at h2;exact (h2.ext (hx.mono λk _ hk=>hFM k (by subst hk;simp))).sub λk _ hk=>by
       rcases hk with h | h
       ·exact h.1
       ·exact hFM k (by simpa using h)
  ·subst hx;exact same _ 0 0 hv (by simp at hj;omega) (by simp at hj;omega) (K9 _) aa
end
section
def Tr:Ent where
 p F _ _ _:=F=[]
 st h _:=h
 sb h _:=h
instance:Gh Tr:=⟨λh _=>h⟩
def Ob {α:Type} [Rep α] (b:Bool) (e:TypeId) (c:Value) (xs:List α):Ent:=match b with | true=>Ow e c xs | false=>Tr
instance {α:Type} [Rep α] {b:Bool} {e:TypeId} {c:Value} {xs:List α}:Gh (Ob b e c xs):=by cases b <;> (unfold Ob; infer_instance)
section
variable {M0:Fm} {w0:World} {n:Nat} {Γ:Cx} {a:Act} {w:World} {α:Type} [Rep α]
theorem qL {R:Prop} (k:Nat) {e:TypeId} {c:Value} {xs:List α} (h:St M0 w0 n Γ a w) (hk:Ao Γ k=some (Ow e c xs)) (r:St M0 w0 n ((k,Ob true e c xs) :: Γ) a w->R):R:=r (h.turn1 hk λ_ _ _ _ hp=>hp)
theorem qN {R:Prop} (k:Nat) {b:Bool} {e:TypeId} {c:Value} {xs:List α} (h:St M0 w0 n Γ a w) (hk:Ao Γ k=some (Ob b e c xs)) (hb:b=true) (r:St M0 w0 n ((k,Ow e c xs) :: Γ) a w->R):R:=r (h.turn1 hk λ_ _ _ _ hp=>by subst hb;exact hp)
theorem obd {R:Prop} (k:Nat) (e:TypeId) (c:Value) (xs:List α) (h:St M0 w0 n Γ a w) (r:St M0 w0 n ((k,Ob false e c xs) :: Γ) a w->R):R:=by let ⟨M,φ,h⟩:=h;exact r ⟨M,_,StM.more1 h k (e:=Ob false e c xs) λ_=>rfl⟩
end
theorem qM {b:Bool} {ρ:Type} {x:Option ρ} {r:ρ} (h:(bif b then x else none)=some r):b=true/\x=some r:=by cases b;cases h;exact ⟨rfl,h⟩
end
theorem I.{u} {α : Sort u} {a : α} : a = a := rfl
end Go.Pn
set_option linter.defProp false

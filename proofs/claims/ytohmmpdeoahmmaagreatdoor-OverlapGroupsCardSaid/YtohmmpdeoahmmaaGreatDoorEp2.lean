import Derived.Test.YtohmmpdeoahmmaaGreatDoorEp1
set_option synthInstance.checkSynthOrder false
set_option synthInstance.maxSize 10000
set_option synthInstance.maxHeartbeats 400000
set_option maxRecDepth 100000
set_option maxHeartbeats 4000000
set_option linter.unusedVariables false
set_option linter.unusedSimpArgs false
set_option linter.defProp false
namespace Go.Pn
open Go Go.RowKit
section
variable {rr:Option Nat}
class FV (α:Type) [Rep α] where
 val:α->Value
 of:∀ {M w cs x},Rep.rep (α:=α) M w cs x->mk (Rep.agg α) cs=val x
 to:∀ (x:α),∃ cs,val x=mk (Rep.agg α) cs/\∀ M w,Rep.rep M w cs x
instance:FV Int where
 val x:=.int .i64 x
 of h:=by have h:_=_:=h;rw [h];rfl
 to x:=⟨[.int .i64 x],rfl,λ_ _=>rfl⟩
instance:FV Bool where
 val x:=.bool x
 of h:=by have h:_=_:=h;rw [h];rfl
 to x:=⟨[.bool x],rfl,λ_ _=>rfl⟩
instance:FV QT where
 val x:=.string x
 of h:=by have h:_=_:=h;rw [h];rfl
 to x:=⟨[.string x],rfl,λ_ _=>rfl⟩
theorem Va.fv {α:Type} [Rep α] [FV α] {F:QR} {M:Nat->Prop} {w:World} {v:Value} {x:α} (h:(Va x).p F M w v):v=FV.val x:=by let ⟨_,cs,hv,hr⟩:=h;rw [hv];exact FV.of hr
theorem FV.va {α:Type} [Rep α] [FV α] (x:α) (M:Nat->Prop) (w:World):(Va x).p [] M w (FV.val x):=by let ⟨cs,h1,h2⟩:=FV.to x;exact ⟨rfl,cs,h1,h2 M w⟩
def Dg {κ β:Type} (eqb:κ->κ->Bool) (k:κ):List (κ×β)->Nat->Option (Nat×β)
 | [],_=>none
 | (k',y) :: m,i=>if eqb k k' then some (i,y) else Dg eqb k m (i + 1)
class MK (P:Program) (K:TypeId) (κ:Type) [Rep κ] [FV κ] (eqb:outParam (κ->κ->Bool)):Prop where
 find:∀ (k:κ) (m:List (κ×Value)) (es:List MapEntry) (w:World),es.map (λe=>(e.key,e.val))=m.map (λp=>(FV.val p.1,p.2))->(Instr.findKey K (FV.val k) es).run P w=.ok (Dg eqb k m 0) w
 check:∀ (k:κ) (b:Bool) (w:World),(Instr.checkKey b 10000 K (FV.val k)).run P w=.ok () w
 stays:∀ (k k':κ),eqb k k'=true->k'=k
 same:∀ (k:κ),Instr.sameBits 10000 (FV.val k) (FV.val k)=true
theorem FV.of_agg {α:Type} [Rep α] [FV α] {P:Program} {T:Nat} {f:α->α->Bool} [he:lL P T f] (x:α):∃ cs,FV.val x=.agg cs.toArray/\∀ M w,Rep.rep M w cs x:=by let ⟨cs,h1,h2⟩:=FV.to x;exact ⟨cs,by rw [h1,he.agg];rfl,h2⟩
theorem MK.ofEqs {P:Program} {K:Nat} {κ:Type} [Rep κ] [FV κ] {f:κ->κ->Bool} [he:lL P K f] (hu:(P.underlying K).map (λd=>match d with | .struct _=>true | _=>false)=some true)
  (hc:∀ (k:κ) (b:Bool) (w:World),(Instr.checkKey b 10000 K (FV.val k)).run P w=.ok () w) (hs:∀ k k':κ,f k k'=true->k'=k) (hb:∀ k:κ,Instr.sameBits 10000 (FV.val k) (FV.val k)=true):MK P K κ f where
 check:=hc
 stays:=hs
 same:=hb
 find k m es w h:=by
  have hnow:(Instr.findKey K (FV.val k) es).run P w=(Instr.findAsking K (FV.val k) es).run P w:=by
   refine run_findKey_eq w ?_ _ _;cases hu':P.underlying K with
   | none=>simp [hu'] at hu
   | some d=>cases d <;> simp [hu'] at hu ⊢
  rw [hnow];have gen:∀ (m:List (κ×Value)) (es:List MapEntry) (i:Nat),es.map (λe=>(e.key,e.val))=m.map (λp=>(FV.val p.1,p.2))->(Instr.findAsking K (FV.val k) es i).run P w=.ok (Dg f k m i) w:=by
   intro m
   induction m with
   | nil=>intro es i h;cases es with
    | nil=>rfl
    | cons _ _=>cases h
   | cons p m ih=>
    intro es i h;cases es with
    | nil=>cases h
    | cons e es=>
     simp only [MF,List.cons.injEq] at h;let ⟨h1,h2⟩:=h;have hk1:e.key=FV.val p.1:=congrArg Prod.fst h1;have hk2:e.val=p.2:=congrArg Prod.snd h1;let ⟨cs,c1,c2⟩:=FV.of_agg (P:=P) (T:=K) (f:=f) k;let ⟨ds,d1,d2⟩:=FV.of_agg (P:=P) (T:=K) (f:=f) p.1;have hr:(Op.equal K (FV.val k) e.key).run P w=.ok (f k p.1) w:=by
      rw [hk1,c1,d1];exact he.run (c2 (λ_=>False) w) (d2 (λ_=>False) w) w
     let ⟨pk,pv⟩:=p;simp only [Instr.findAsking,LZ,hr,LT,Dg,hk2];cases f k pk
     ·simpa using ih es (i + 1) h2
     ·rfl
  exact gen m es 0 h
theorem MK.plain {P:Program} {K:Nat} {κ:Type} [Rep κ] [FV κ] {f:κ->κ->Bool} {d:TypeDesc} (hu:P.underlying K=some d) (hk:∀ k:κ,MapKept.IsKey d (FV.val k)) (hf:∀ k k':κ,Instr.sameNow d (FV.val k) (FV.val k')=some (f k k'))
  (hs:∀ k k':κ,f k k'=true->k'=k) (hb:∀ k:κ,Instr.sameBits 10000 (FV.val k) (FV.val k)=true):MK P K κ f where
 check k b w:=MapKept.run_checkKey hu (hk k) b 9999
 stays:=hs
 same:=hb
 find k m es w h:=by
  refine MapKept.run_findKey hu ?_;have gen:∀ (m:List (κ×Value)) (es:List MapEntry) (i:Nat),es.map (λe=>(e.key,e.val))=m.map (λp=>(FV.val p.1,p.2))->Instr.findNow d (FV.val k) es i=some (Dg f k m i):=by
   intro m
   induction m with
   | nil=>intro es i h;cases es with
    | nil=>rfl
    | cons _ _=>cases h
   | cons p m ih=>
    intro es i h;cases es with
    | nil=>cases h
    | cons e es=>
     simp only [MF,List.cons.injEq] at h;let ⟨h1,h2⟩:=h;have hk1:e.key=FV.val p.1:=congrArg Prod.fst h1;have hk2:e.val=p.2:=congrArg Prod.snd h1;let ⟨pk,pv⟩:=p;simp only [Instr.findNow,hk1,hf,Dg,hk2];cases f k pk
     ·simpa using ih es (i + 1) h2
     ·rfl
  exact gen m es 0 h
def Ys (a b:Int):Bool:=a == b
def DJ (a b:QT):Bool:=a.data.toList == b.data.toList
theorem MK.int {P:Program} {K:Nat} (hu:P.underlying K=some (.int .i64)):MK P K Int (λa b=>a == b):=
 MK.plain hu (λ_=>rfl) (λ_ _=>rfl) (λk k' h=>(by simpa using h:k=k').symm) λk=>by simp [FV.val,Instr.sameBits]
theorem Wa {a b:QT}:(a.data.toList == b.data.toList)=(a == b):=by rw [NB];constructor;(intro h;have h:a.data.toList=b.data.toList:=by simpa using h);(have:a=b:=by cases a;cases b;rw [ByteArray.mk.injEq];exact Array.ext' h);rw [this];exact (MapKept.bytes_beq b b).2 rfl;intro h;rw [(MapKept.bytes_beq a b).1 h];simp
theorem eG {P : Program} {d : Nat} {xs ys : Array Value} {f : Field} {fs : List Field} {w : World} {a b : QT} {r : Bool} (hn : (f.name == "_") = false) (hu : P.underlying f.type = some .string) (h1 : xs[f.offset]? = some (.string a)) (h2 : ys[f.offset]? = some (.string b))
  (h:(Op.eqFields (d + 1) xs ys fs).run P w=.ok r w):(Op.eqFields (d + 1) xs ys (f :: fs)).run P w=.ok ((a.data.toList == b.data.toList) && r) w:=by
 have hn' : f.name ≠ "_" := by intro h; rw [h] at hn; simp at hn
 have ha:(P.underlying f.type).map Ce=some false:=by rw [hu];rfl
 rw [Wa];simp only [Op.eqFields,if_pos hn',LZ,Bp ha h1,Bp ha h2,LT,run_equalIn_string w d f.type a b hu,← beq_toListBytes];cases hab:(a == b) <;> simp [h]
theorem Wk {n:Nat} {k:IntKind} {a b:Int}:Instr.sameBits n (.int k a) (.int k b)=(a == b):=by simp [Instr.sameBits]
theorem Uu {n:Nat} {a b:Bool}:Instr.sameBits n (.bool a) (.bool b)=(a == b):=by simp [Instr.sameBits]
theorem Wj {n:Nat} {a:QT}:Instr.sameBits n (.string a) (.string a)=true:=by simp only [Instr.sameBits];exact (MapKept.bytes_beq a a).2 rfl
theorem MK.str {P:Program} {K:Nat} (hu:P.underlying K=some .string):MK P K QT (λa b=>a.data.toList == b.data.toList):=
 MK.plain hu (λ_=>trivial) (λk k'=>by
  show some (k == k')=_;rw [Wa]) (λk k' h=>by
   rw [Wa] at h;exact ((MapKept.bytes_beq k k').1 h).symm) λk=>(MapKept.bytes_beq k k).2 rfl
theorem Ht {P:Program} {K n:Nat} {b:Bool} {fs:Array Field} {xs:Array Value} {w:World} (hu:P.underlying K=some (.struct fs)) (h:∀ f∈fs.toList,∃ v,(part f.type xs f.offset).run P w=.ok v w/\(Instr.checkKey b n f.type v).run P w=.ok () w):(Instr.checkKey b (n + 1) K (.agg xs)).run P w=.ok () w:=by
 simp only [Instr.checkKey,LZ,run_underlying hu,LT];rw [← Array.forIn_toList];generalize fs.toList=l at h
 induction l with
 | nil=>simp
 | cons f l ih=>
  let ⟨v,h1,h2⟩:=h f ah;simp only [List.forIn_cons,LZ];split
  ·simp only [LZ,h1,h2,LT,L0];exact ih λg hg=>h g (by simp [hg])
  ·simp only [L0,LT];exact ih λg hg=>h g (by simp [hg])
theorem ly {P:Program} {f:Field} {n:Nat} {b:Bool} {xs:Array Value} {w:World} {d:TypeDesc} {v:Value} (hu:P.underlying f.type=some d) (hv:xs[f.offset]?=some v) (hk:MapKept.IsKey d v):∃ v,(part f.type xs f.offset).run P w=.ok v w/\(Instr.checkKey b (n + 1) f.type v).run P w=.ok () w:=by refine ⟨v,Bp ?_ hv,MapKept.run_checkKey hu hk b n⟩;rw [hu]; cases d <;> first | rfl | (cases v <;> cases hk)
def Om {κ ν:Type} [Rep κ] [Rep ν] [FV κ] [FV ν] (r:Nat) (m:List (κ×ν)):Ent where
 p F M w _:=F=[r]/\∃ es clock,w.heap[r]?=some (.map es clock)/\es.toList.map (λe=>(e.key,e.val))=m.map (λp=>(FV.val p.1,FV.val p.2))
 st h e:=by
  obtain ⟨rfl,es,cl,hc,hm⟩:=h;exact ⟨rfl,es,cl,by rw [e.block r (L3.1 hc).1 ah];exact hc,hm⟩
 sb h _:=h
instance {κ ν:Type} [Rep κ] [Rep ν] [FV κ] [FV ν] {r:Nat} {m:List (κ×ν)}:Gh (Om r m):=⟨λh _=>h⟩
def OM {κ ν:Type} [Rep κ] [Rep ν] [FV κ] [FV ν] (m:List (κ×ν)):Ent where
 p F M w v:=∃ r,v=.map (some r)/\(Om r m).p F M w v
 st h e:=let ⟨r,hv,h⟩:=h;⟨r,hv,(Om r m).st h e⟩
 sb h s:=let ⟨r,hv,h⟩:=h;⟨r,hv,(Om r m).sb h s⟩
def bw {κ ν:Type} (eqb:κ->κ->Bool) (m:List (κ×ν)) (k:κ):Option ν:=(Dg eqb k m 0).map (·.2)
def Pg {κ ν:Type} (eqb:κ->κ->Bool) (m:List (κ×ν)) (k:κ) (y:ν):List (κ×ν):=
 match Dg eqb k m 0 with
 | some (i,_)=>m.modify i λp=>(p.1,y)
 | none=>m ++ [(k,y)]
theorem Jv {κ β γ:Type} {eqb:κ->κ->Bool} {k:κ} (f:β->γ):∀ {m:List (κ×β)} {i:Nat},Dg eqb k (m.map λp=>(p.1,f p.2)) i=(Dg eqb k m i).map λq=>(q.1,f q.2)
 | [],_=>rfl
 | (k',y) :: m,i=>by
  simp only [MF,Dg];split
  ·rfl
  ·exact Jv f
theorem Lw {κ β:Type} {eqb:κ->κ->Bool} {k:κ}:∀ {m:List (κ×β)} {i j:Nat} {y:β},Dg eqb k m i=some (j,y)->∃ k',i<=j/\m[j - i]?=some (k',y)/\eqb k k'=true
 | [],_,_,_,h=>by cases h
 | (k',y') :: m,i,j,y,h=>by
  unfold Dg at h;split at h
  ·rename_i hb;cases h
   exact ⟨k',MG _,by simp,hb⟩
  ·let ⟨k2,h1,h2,h3⟩:=Lw h;refine ⟨k2,by omega,?_,h3⟩;rw [show j - i=(j - (i + 1)) + 1 by omega];simpa using h2
section
variable {P:Program} {M0:Fm} {w0:World} {n:Nat} {Γ:Cx} {Q:Exit->Act->World->Prop} {a:Act} {w:World} {ty:TypeId}
theorem pJ {κ ν:Type} [Rep κ] [Rep ν] [FV κ] [FV ν] {T:TypeId}:OR P (.makeMap T none) ty Γ (OM ([]:List (κ×ν))):=by refine OR.run λρ M w r=>?_;refine ⟨.map (some w.heap.size),w.alloc (.map #[] 0),λ_ _ _ _=>?_,Ext.alloc _ _ _,[w.heap.size],by simp,λk hk=>?_,w.heap.size,rfl,rfl,#[],0,Cj _ _,rfl⟩;simp only [execOp,PA,Instr.makeMap,LZ,run_newObj,LT,L0];rfl;simp at hk;subst hk;exact ⟨Nat.le_refl _,by simp⟩
theorem opm {κ ν:Type} [Rep κ] [Rep ν] [FV κ] [FV ν] {d:Nat} {m:List (κ×ν)} {R:Prop} (k:Nat) (h:St M0 w0 n Γ a w) (hd:Ao Γ d=some (OM m)) (hne:Nat.beq d k=false) (r:∀ b,St M0 w0 n ((d,Qv (.map (some b))) :: (k,Om b m) :: Γ) a w->R):R:=by let ⟨M,φ,h⟩:=h;let ⟨b,hv,hb⟩:=h.holds d _ hd;refine r b ?_;unfold St;rw [Hl];exact h.split (by rw [hd];rfl) (NF hne) ⟨rfl,hv⟩ hb
theorem mO {ops:Array Oper} {rest:List Oper} {d:Nat} {op:Op} {pos:String} {ai:Array Edge} {κ ν:Type} [Rep κ] [Rep ν] [FV κ] [FV ν] {m:List (κ×ν)} (K:Nat)
  (hs:St M0 w0 n Γ a w) (ho:OR P op ty Γ (OM m)) (hn:Nat.blt d n=true) (hdk:Nat.beq d K=false)
  (k:∀ b a' w',St M0 w0 n ((d,Qv (.map (some b))) :: (K,Om b m) :: (d,OM m) :: Γ) a' w'->wpListIn (Fr rr) 0 P ops Q rest a' w'):wpListIn (Fr rr) 0 P ops Q (⟨some d,op,ty,pos,ai,none⟩ :: rest) a w:=
 sq hs ho hn λa' w' s=>opm K s (by simp [Ao]) hdk λb s=>k b a' w' s
def Wx (P:Program) (T:Nat):Option (Nat×Nat):=match P.underlying T with | some (.map k e)=>some (k,e) | _=>none
theorem Jw {P:Program} {T k e:Nat} (h:Wx P T=some (k,e)):P.underlying T=some (.map k e):=by unfold Wx at h;split at h;rename_i hu;rw [hu];simpa using h;cases h
theorem A7 {κ ν:Type} [Rep κ] [Rep ν] [FV κ] [FV ν] {T K E:Nat} {eqb:κ->κ->Bool} [mk:MK P K κ eqb] {zv:Value} {r:Nat} {m:List (κ×ν)} {F:QR} {M:Nat->Prop} {w:World} {u:Value} (h:(Om r m).p F M w u) (hT:Wx P T=some (K,E)) (k:κ) (hz:(P.info? E).map (·.zero)=some (some zv)) (c:Bool) :
  (Instr.lookup T (.map (some r)) (FV.val k) c).run P w=.ok (let q:=match bw eqb m k with | some y=>(FV.val y,true) | none=>(zv,false);if c then .tuple #[q.1,.bool q.2] else q.1) w:=by
 let ⟨_,es,cl,hc,hm⟩:=h;have hf:=mk.find k (m.map λp=>(p.1,FV.val p.2)) es.toList w (by rw [hm];simp);rw [Jv] at hf;have hchk:=mk.check k es.isEmpty w;have hzr:(zeroValue E).run P w=.ok zv w:=by
  cases hi:P.info? E with
  | none=>simp [hi] at hz
  | some i=>
   simp only [hi,Option.map_some,Option.some.injEq] at hz;simp only [zeroValue,typeInfo,LZ,run_program,LT,hi,L0,hz]
 have hg:(getObj r).run P w=.ok (.map es cl) w:=MapKept.run_getObj_map hc;simp only [Instr.lookup,LZ,run_underlying (Jw hT),LT,hg,L0,hchk,hf];unfold bw
 cases hq:Dg eqb k m 0 with
 | none=>simp only [PA,LZ,hzr,LT,L0]
 | some q=>rfl
theorem lkm {κ ν:Type} [Rep κ] [Rep ν] [FV κ] [FV ν] {T K E KK:Nat} {eqb:κ->κ->Bool} [MK P K κ eqb] {z:ν} {x y:Operand} {r:Nat} {m:List (κ×ν)} {k:κ} (hx:Od Γ x (Qv (.map (some r)))) (hk:Ao Γ KK=some (Om r m)) (hy:Od Γ y (Va k)) (hT:Wx P T=some (K,E)) (hz:(P.info? E).map (·.zero)=some (some (FV.val z))) :
  OR P (.lookup T x y false) ty Γ (Va ((bw eqb m k).getD z)):=by refine OR.val λρ M w rd=>?_;let ⟨_,_,hv⟩:=hx ρ M w rd;let ⟨_,hb⟩:=hy ρ M w rd;let ⟨_,ho⟩:=rd.tmp _ _ hk;have hr:=A7 (P:=P) ho hT k hz false;refine ⟨FV.val ((bw eqb m k).getD z),λ_ _ _ _=>?_,FV.va _ _ _⟩;simp only [execOp,hv,Va.fv hb,LZ,hr,LT,L0];cases bw eqb m k <;> rfl
theorem qF {κ ν:Type} [Rep κ] [Rep ν] [FV κ] [FV ν] {T K E KK:Nat} {eqb:κ->κ->Bool} [MK P K κ eqb] {z:ν} {x y:Operand} {r:Nat} {m:List (κ×ν)} {k:κ} (hx:Od Γ x (Qv (.map (some r)))) (hk:Ao Γ KK=some (Om r m)) (hy:Od Γ y (Va k)) (hT:Wx P T=some (K,E)) (hz:(P.info? E).map (·.zero)=some (some (FV.val z))) :
  OR P (.lookup T x y true) ty Γ (T2 (Va ((bw eqb m k).getD z)) (Va (bw eqb m k).isSome)):=by refine OR.val λρ M w rd=>?_;let ⟨_,_,hv⟩:=hx ρ M w rd;let ⟨_,hb⟩:=hy ρ M w rd;let ⟨_,ho⟩:=rd.tmp _ _ hk;have hr:=A7 (P:=P) ho hT k hz true;refine ⟨.tuple #[FV.val ((bw eqb m k).getD z),.bool (bw eqb m k).isSome],λ_ _ _ _=>?_,_,_,[],[],rfl,rfl,FV.va _ _ _,Va.mkBool⟩;simp only [execOp,hv,Va.fv hb,LZ,hr,LT,L0];cases bw eqb m k <;> rfl
theorem lP {κ ν:Type} [Rep κ] [Rep ν] [FV κ] [FV ν] {ops:Array Oper} {rest:List Oper} {T K E KK:Nat} {eqb:κ->κ->Bool} [hmk:MK P K κ eqb] {x y u:Operand} {pos:String} {ai:Array Edge} {r:Nat} {m:List (κ×ν)} {k:κ} {v:ν}
  (hs:St M0 w0 n Γ a w) (hx:Od Γ x (Qv (.map (some r)))) (hk:Ao Γ KK=some (Om r m)) (hy:Od Γ y (Va k)) (hu:Od Γ u (Va v)) (hT:Wx P T=some (K,E))
  (cont:∀ w',St M0 w0 n ((KK,Om r (Pg eqb m k v)) :: Γ) a w'->wpListIn (Fr rr) 0 P ops Q rest a w'):wpListIn (Fr rr) 0 P ops Q (⟨none,.mapUpdate T x y u,ty,pos,ai,none⟩ :: rest) a w:=by
 refine wpListIn_plain rfl λKc hK=>?_;let ⟨M,φ,h⟩:=hs;let ⟨_,_,hv⟩:=hx _ _ _ h.rd;let ⟨_,hb⟩:=hy _ _ _ h.rd;let ⟨_,hd⟩:=hu _ _ _ h.rd;let ⟨hF,es,cl,hc,hm⟩:=h.holds KK _ hk;have hf:=hmk.find k (m.map λp=>(p.1,FV.val p.2)) es.toList w (by rw [hm];simp);rw [Jv] at hf;have hchk:=hmk.check k false w;have hg:(getObj r).run P w=.ok (.map es cl) w:=MapKept.run_getObj_map hc;have hlt:=(L3.1 hc).1;have hset:=λo=>MapKept.run_setObj_map (P:=P) (w:=w) o hc;have hput:∃ es' cl',(Instr.mapUpdate T (.map (some r)) (FV.val k) (FV.val v)).run P w=.ok () { w with heap:=w.heap.setIfInBounds r (.map es' cl') }/\es'.toList.map (λe=>(e.key,e.val))=(Pg eqb m k v).map (λp=>(FV.val p.1,FV.val p.2)):=by
  simp only [Instr.mapUpdate,LZ,run_underlying (Jw hT),LT,hg,hchk,hf];unfold Pg;cases hq:Dg eqb k m 0 with
  | none=>
   refine ⟨es.push { key:=FV.val k,val:=FV.val v,born:=cl },cl + 1,?_,?_⟩
   ·simp only [PA];exact hset _
   ·simp [hm]
  | some q=>
   let ⟨i,y⟩:=q;let ⟨k',_,h2,h3⟩:=Lw hq;have hkk:=hmk.stays k k' h3;subst hkk;rw [Nat.sub_zero] at h2;have hi:(es.toList.map (λe=>(e.key,e.val)))[i]?=some (FV.val k',FV.val y):=by rw [hm,L7,h2];rfl
   rw [L7] at hi;let ⟨e,he,hee⟩:=O9.1 hi;have hek:e.key=FV.val k':=congrArg Prod.fst hee;have hei:es[i]?=some e:=by rw [← OQ];exact he
   refine ⟨es.modify i λe=>{ e with key:=FV.val k',val:=FV.val v },cl,?_,?_⟩
   ·simp only [Option.map_some,hei,N7,hek,Instr.keyThatStays,hmk.same,if_true,L0,LZ,LT];exact hset _
   ·rw [Array.toList_modify];refine OA λq=>?_;have hmq:(es.toList[q]?).map (λe=>(e.key,e.val))=(m[q]?).map λp=>(FV.val p.1,FV.val p.2):=by rw [← L7,hm,L7]
    simp only [L7,List.getElem?_modify];by_cases hiq:i=q
    ·subst hiq;rw [he,h2];simp
    ·simp only [hiq,if_false];rw [show (λa:MapEntry=>a) <$> es.toList[q]?=es.toList[q]? by simp,show (λa:κ×ν=>a) <$> m[q]?=m[q]? by simp];exact hmq
 let ⟨es',cl',hrun,hm'⟩:=hput;refine Bk.upon (Bk.skip (w':={ w with heap:=w.heap.setIfInBounds r (.map es' cl') }) ?_ ?_)
 ·simp only [execOp,hv,Va.fv hb,Va.fv hd,LZ,hrun,LT,L0]
 ·refine hK _ _ (cont _ ?_);unfold St;rw [Aj];refine h.write (b:=r) (by rw [hk];rfl) (by rw [hF];simp) ⟨rfl,rfl,rfl,by simp,λq _ hq=>?_,MG _⟩ ⟨hF,es',cl',(?_:({ w with heap:=w.heap.setIfInBounds r (.map es' cl') }:World).heap[r]?=_),hm'⟩
  ·simp only [OH];rw [if_neg (λe=>hq e.symm)]
  ·simp only [OH,if_true];rw [if_pos hlt]
theorem mJ {κ ν:Type} [Rep κ] [Rep ν] [FV κ] [FV ν] {ops:Array Oper} {rest:List Oper} {T K E KK:Nat} {eqb:κ->κ->Bool} [hmk:MK P K κ eqb] {x y u:Operand} {pos:String} {ai:Array Edge} {r:Nat} {m:List (κ×ν)} {k:κ} {v:ν}
  (hs:St M0 w0 n Γ a w) (hx:Od Γ x (Qv (.map (some r)))) (hk:Ao Γ KK=some (Om r m)) (hy:Od Γ y (Va k)) (hu:Od Γ u (Va v)) (hT:Wx P T=some (K,E))
  (cont:∀ w',St M0 w0 n ((KK,Om r (Pg eqb m k v)) :: Γ) a w'->wpListIn (Fr rr) 0 P ops Q rest a w'):wpListIn (Fr rr) 0 P ops Q (⟨none,.insert T x y u,ty,pos,ai,none⟩ :: rest) a w:=by
 refine wpListIn_plain rfl λKc hK=>?_;let ⟨M,φ,h⟩:=hs;let ⟨_,_,hv⟩:=hx _ _ _ h.rd;let ⟨_,hb⟩:=hy _ _ _ h.rd;let ⟨_,hd⟩:=hu _ _ _ h.rd;let ⟨hF,es,cl,hc,hm⟩:=h.holds KK _ hk;have hf:=hmk.find k (m.map λp=>(p.1,FV.val p.2)) es.toList w (by rw [hm];simp);rw [Jv] at hf;have hchk:=hmk.check k false w;have hg:(getObj r).run P w=.ok (.map es cl) w:=MapKept.run_getObj_map hc;have hlt:=(L3.1 hc).1;have hset:=λo=>MapKept.run_setObj_map (P:=P) (w:=w) o hc;have hput:∃ es' cl',(Instr.mapUpdate T (.map (some r)) (FV.val k) (FV.val v)).run P w=.ok () { w with heap:=w.heap.setIfInBounds r (.map es' cl') }/\es'.toList.map (λe=>(e.key,e.val))=(Pg eqb m k v).map (λp=>(FV.val p.1,FV.val p.2)):=by
  simp only [Instr.mapUpdate,LZ,run_underlying (Jw hT),LT,hg,hchk,hf];unfold Pg;cases hq:Dg eqb k m 0 with
  | none=>
   refine ⟨es.push { key:=FV.val k,val:=FV.val v,born:=cl },cl + 1,?_,?_⟩
   ·simp only [PA];exact hset _
   ·simp [hm]
  | some q=>
   let ⟨i,y⟩:=q;let ⟨k',_,h2,h3⟩:=Lw hq;have hkk:=hmk.stays k k' h3;subst hkk;rw [Nat.sub_zero] at h2;have hi:(es.toList.map (λe=>(e.key,e.val)))[i]?=some (FV.val k',FV.val y):=by rw [hm,L7,h2];rfl
   rw [L7] at hi;let ⟨e,he,hee⟩:=O9.1 hi;have hek:e.key=FV.val k':=congrArg Prod.fst hee;have hei:es[i]?=some e:=by rw [← OQ];exact he
   refine ⟨es.modify i λe=>{ e with key:=FV.val k',val:=FV.val v },cl,?_,?_⟩
   ·simp only [Option.map_some,hei,N7,hek,Instr.keyThatStays,hmk.same,if_true,L0,LZ,LT];exact hset _
   ·rw [Array.toList_modify];refine OA λq=>?_;have hmq:(es.toList[q]?).map (λe=>(e.key,e.val))=(m[q]?).map λp=>(FV.val p.1,FV.val p.2):=by rw [← L7,hm,L7]
    simp only [L7,List.getElem?_modify];by_cases hiq:i=q
    ·subst hiq;rw [he,h2];simp
    ·simp only [hiq,if_false];rw [show (λa:MapEntry=>a) <$> es.toList[q]?=es.toList[q]? by simp,show (λa:κ×ν=>a) <$> m[q]?=m[q]? by simp];exact hmq
 let ⟨es',cl',hrun,hm'⟩:=hput;refine Bk.upon (Bk.skip (w':={ w with heap:=w.heap.setIfInBounds r (.map es' cl') }) ?_ ?_)
 ·simp only [execOp,hv,Va.fv hb,Va.fv hd,LZ,hrun,LT,L0]
 ·refine hK _ _ (cont _ ?_);unfold St;rw [Aj];refine h.write (b:=r) (by rw [hk];rfl) (by rw [hF];simp) ⟨rfl,rfl,rfl,by simp,λq _ hq=>?_,MG _⟩ ⟨hF,es',cl',(?_:({ w with heap:=w.heap.setIfInBounds r (.map es' cl') }:World).heap[r]?=_),hm'⟩
  ·simp only [OH];rw [if_neg (λe=>hq e.symm)]
  ·simp only [OH,if_true];rw [if_pos hlt]
end
end
section
def DB:Value->Bool
 | .slice none _ _=>true
 | _=>false
section
variable {P:Program} {Γ:Cx} {ty:TypeId}
theorem sae {x:Operand} {e:Ent} [z:Zf e] (h:Od Γ x e):OR P (.assign x) ty Γ e:=
 OR.val λρ M w r=>let ⟨F,hF⟩:=h ρ M w r;⟨ρ x,λ_ _ _ _=>rfl,by have h1:=z.z hF;subst h1;exact hF⟩
instance {c:Value} {o:Nat}:Zf (Pe c o):=⟨λh=>h.1⟩
theorem pI {x:Operand} {c:Value} {o:Nat} (h:Od Γ x (Pe c o)):OR P (.nilCheck x) ty Γ (Pe c o):=
 OR.val λρ M w r=>by
  let ⟨_,_,g,hg,hv⟩:=h ρ M w r;exact ⟨ρ x,λ_ _ _ _=>by simp [execOp,hv,Sem.run,pure],rfl,g,hg,hv⟩
end
section
variable {P:Program} {M0:Fm} {w0:World} {n:Nat} {Γ:Cx} {a:Act} {w:World} {ty:TypeId}
theorem qH {α:Type} [Rep α] {T e T':TypeId} {x y:Operand} {c:Value} {K:Nat} {xs:List α} (hx:Od Γ x (Qv c)) (hy:Od Γ y (Qv (.slice none 0 0))) (hk:Ao Γ K=some (At c (Va xs))) (hT:P.underlying T=some (.slice e)):OR P (.binOp .eql T x y T') ty Γ (Va (DB c)):=by (refine OR.val λρ M w r=>?_;let ⟨_,_,h1⟩:=hx ρ M w r;let ⟨_,_,h2⟩:=hy ρ M w r;let ⟨F,h3⟩:=r.tmp _ _ hk;obtain ⟨_,cs,hc,v,rfl,p,cap,hv,_⟩:=h3;have hc:c=.slice p xs.length (cap + xs.length):=(show c=v from hc).trans hv;subst hc;refine ⟨.bool (DB (.slice p xs.length (cap + xs.length))),λ_ _ _ _=>?_,Va.mkBool⟩;have h3:(binOp .eql T (.slice p xs.length (cap + xs.length)) (.slice none 0 0)).run P w=.ok (.bool (DB (.slice p xs.length (cap + xs.length)))) w:=by (show ((do pure (.bool (← Op.equal T (.slice p xs.length (cap + xs.length)) (.slice none 0 0))):Sem Value)).run P w=_;have:(Op.equal T (.slice p xs.length (cap + xs.length)) (.slice none 0 0)).run P w=.ok (DB (.slice p xs.length (cap + xs.length))) w:=by unfold Op.equal Op.maxDepth Op.equalIn;simp only [LZ,run_underlying hT,LT];cases p <;> simp [DB]);simp only [LZ,this,LT,L0]);have h4:(eqGuard .eql T x y (.slice p xs.length (cap + xs.length)) (.slice none 0 0)).run P w=.ok () w:=rfl;simp only [execOp,h1,h2,LZ,h3,h4,LT,L0]
theorem kN {α:Type} [Rep α] {c:Value} {K:Nat} {xs:List α} (hs:St M0 w0 n Γ a w) (hk:Ao Γ K=some (At c (Va xs))) (hb:DB c=true):xs=[]:=by (let ⟨M,φ,h⟩:=hs;let ⟨F,h3⟩:=h.rd.tmp _ _ hk;obtain ⟨_,cs,hc,v,rfl,p,cap,hv,hr⟩:=h3;have hc:c=v:=hc;rcases hr with h | ⟨b,o,hp,_⟩);exact h;rw [hc,hv,hp] at hb;cases hb
end
end
def kA (j a b c:Nat):Nat:=if j=0 then a else if j=1 then b else c
theorem kz {ρ:Type} {j:Nat} {x y z:Option ρ} {r:ρ} (h:(bif j == 0 then x else bif j == 1 then y else bif j == 2 then z else none)=some r):j < 3:=by
 match j,h with
 | 0,_=>omega
 | 1,_=>omega
 | 2,_=>omega
 | (n+3),h=>simp at h
theorem LG {ρ:Type} {j a b c:Nat} {x y z:Option ρ} {r:ρ} {Q:Nat->Prop} (h:(bif j == 0 then x else bif j == 1 then y else bif j == 2 then z else none)=some r) (h0:x=some r->Q a) (h1:y=some r->Q b) (h2:z=some r->Q c):Q (kA j a b c):=by
 match j,h with
 | 0,h=>exact h0 h
 | 1,h=>exact h1 h
 | 2,h=>exact h2 h
 | (n+3),h=>simp at h
theorem g9 {Γ:Cx} {x:Operand} {j a b c:Nat} {fs cs:QS} (hj:j < 3) (h:Od Γ x (Qv (Sy j [fv a fs cs,fv b fs cs,fv c fs cs]))):Od Γ x (Qv (fv (kA j a b c) fs cs)):=by
 match j,hj,h with
 | 0,_,h=>exact h
 | 1,_,h=>exact h
 | 2,_,h=>exact h
section
def kq {α:Type} [Rep α] (f:Nat) (y:α):Ent where
 p F M w v:=F=[]/\∃ c,v=fv f [] [c]/\(Pt y).p [] M w c
 st h e:=⟨h.1,let ⟨c,h1,h2⟩:=h.2;⟨c,h1,(Pt y).st h2 (e.mono λk _ hk=>by let ⟨h3,h4⟩:=hk;exact ⟨h3,by simp⟩)⟩⟩
 sb h s:=⟨h.1,let ⟨c,h1,h2⟩:=h.2;⟨c,h1,(Pt y).sb h2 s⟩⟩
instance {α:Type} [Rep α] {f:Nat} {y:α}:Zf (kq f y):=⟨λh=>h.1⟩
section
variable {P:Program} {Γ:Cx} {ty:TypeId}
theorem fvi {α:Type} [Rep α] {x:Operand} {f k:Nat} {c:Value} {y:α} (h:Od Γ x (Qv (fv f [] [c]))) (hk:Ao Γ k=some (At c (Pt y))):Od Γ x (kq f y):=λρ M w r=>by
 let ⟨_,_,hv⟩:=h ρ M w r;let ⟨F,hp⟩:=r.tmp _ _ hk;exact ⟨[],rfl,c,hv,hp.1 ▸ hp⟩
theorem ccf {α:Type} [Rep α] {y:α} {x:Operand} {f:FuncId} {A:Array TypeId} {args:Array Operand} {xs:List Operand} {ps:List Ent} {e:Ent} (hx:Od Γ x (kq f y)) (ha:args.toList=xs) (h:Odl Γ xs ps)
  (c:Sp P f (ps ++ [Pt y]) e):OR P (.call { callee:=.value x,args:=args,argTypes:=A }) ty Γ e:=by intro d pos ai gd ρ M w rd;subst ha;let ⟨_,_,cc,hv,hp⟩:=hx ρ M w rd;have hc:=c _ M w rd.bd ((h.fits rd).app (show Up M w [Pt y] [cc] from ⟨hp,trivial⟩));unfold Bk;rw [Sr hv hc.1];exact hc.2
end
end
section
def T4 (e1 e2 e3 e4:Ent):Ent where
 p F M w v:=∃ v1 v2 v3 v4 F1 F2 F3 F4,v=.tuple #[v1,v2,v3,v4]/\F=F1 ++ (F2 ++ (F3 ++ F4))/\e1.p F1 M w v1/\e2.p F2 M w v2/\e3.p F3 M w v3/\e4.p F4 M w v4
 st h x:=by
  obtain ⟨v1,v2,v3,v4,F1,F2,F3,F4,hv,rfl,h1,h2,h3,h4⟩:=h;exact ⟨v1,v2,v3,v4,F1,F2,F3,F4,hv,rfl,e1.st h1 (x.mono λk _ hk=>⟨hk.1,λhm=>hk.2 (MQ _ hm)⟩),
   e2.st h2 (x.mono λk _ hk=>⟨hk.1,λhm=>hk.2 (MO _ (MQ _ hm))⟩),
   e3.st h3 (x.mono λk _ hk=>⟨hk.1,λhm=>hk.2 (MO _ (MO _ (MQ _ hm)))⟩),
   e4.st h4 (x.mono λk _ hk=>⟨hk.1,λhm=>hk.2 (MO _ (MO _ (MO _ hm)))⟩)⟩
 sb h s:=let ⟨v1,v2,v3,v4,F1,F2,F3,F4,hv,hF,h1,h2,h3,h4⟩:=h;⟨v1,v2,v3,v4,F1,F2,F3,F4,hv,hF,e1.sb h1 s,e2.sb h2 s,e3.sb h3 s,e4.sb h4 s⟩
instance {e1 e2 e3 e4:Ent} [z1:Zf e1] [z2:Zf e2] [z3:Zf e3] [z4:Zf e4]:Zf (T4 e1 e2 e3 e4):=⟨λ⟨_,_,_,_,_,_,_,_,_,hF,h1,h2,h3,h4⟩=>by rw [hF,z1.z h1,z2.z h2,z3.z h3,z4.z h4];rfl⟩
section
variable {P:Program} {Γ:Cx} {ty:TypeId} {e1 e2 e3 e4:Ent} {x:Operand}
theorem x40 [z:Zf e1] (h:Od Γ x (T4 e1 e2 e3 e4)):OR P (.extract x 0) ty Γ e1:=
 OR.val λρ M w r=>by
  let ⟨_,v1,v2,v3,v4,F1,F2,F3,F4,hv,_,h1,h2,h3,h4⟩:=h ρ M w r;exact ⟨v1,λ_ _ _ _=>by simp only [execOp,hv];rfl,by have:=z.z h1;subst this;exact h1⟩
theorem x41 [z:Zf e2] (h:Od Γ x (T4 e1 e2 e3 e4)):OR P (.extract x 1) ty Γ e2:=
 OR.val λρ M w r=>by
  let ⟨_,v1,v2,v3,v4,F1,F2,F3,F4,hv,_,h1,h2,h3,h4⟩:=h ρ M w r;exact ⟨v2,λ_ _ _ _=>by simp only [execOp,hv];rfl,by have:=z.z h2;subst this;exact h2⟩
theorem x42 [z:Zf e3] (h:Od Γ x (T4 e1 e2 e3 e4)):OR P (.extract x 2) ty Γ e3:=
 OR.val λρ M w r=>by
  let ⟨_,v1,v2,v3,v4,F1,F2,F3,F4,hv,_,h1,h2,h3,h4⟩:=h ρ M w r;exact ⟨v3,λ_ _ _ _=>by simp only [execOp,hv];rfl,by have:=z.z h3;subst this;exact h3⟩
theorem x43 [z:Zf e4] (h:Od Γ x (T4 e1 e2 e3 e4)):OR P (.extract x 3) ty Γ e4:=
 OR.val λρ M w r=>by
  let ⟨_,v1,v2,v3,v4,F1,F2,F3,F4,hv,_,h1,h2,h3,h4⟩:=h ρ M w r;exact ⟨v4,λ_ _ _ _=>by simp only [execOp,hv];rfl,by have:=z.z h4;subst this;exact h4⟩
theorem rv4 {r1 r2 r3 r4:ResultVar} (h1:RS P Γ r1 e1) (h2:RS P Γ r2 e2) (h3:RS P Γ r3 e3) (h4:RS P Γ r4 e4):RV P Γ #[r1,r2,r3,r4] (T4 e1 e2 e3 e4):=λ_ _ _ a w M φ fn hr hs=>by
 let ⟨v1,hv1,hp1⟩:=h1 _ _ _ a w M φ hs;let ⟨v2,hv2,hp2⟩:=h2 _ _ _ a w M φ hs;let ⟨v3,hv3,hp3⟩:=h3 _ _ _ a w M φ hs;let ⟨v4,hv4,hp4⟩:=h4 _ _ _ a w M φ hs;exact ⟨.tuple #[v1,v2,v3,v4],by rw [Du,hr];simp [hv1,hv2,hv3,hv4],v1,v2,v3,v4,[],[],[],[],rfl,rfl,hp1,hp2,hp3,hp4⟩
end
end
section
open Go.Proofs
instance:Ea Tryz.prog 28 9 QT:=⟨ag,ag,ag⟩
instance:Ea Tryz.prog 29 113 (Ae):=⟨ag,ag,ag⟩
instance:Ea Tryz.prog 30 3 (Int):=⟨ag,ag,ag⟩
instance:Ea Tryz.prog 36 35 (CaseL):=⟨ag,ag,ag⟩
instance:Ea Tryz.prog 37 4 (Bool):=⟨ag,ag,ag⟩
instance:Ea Tryz.prog 87 86 (Af):=⟨ag,ag,ag⟩
instance:Ea Tryz.prog 108 110 (Expr):=⟨ag,ag,ag⟩
instance:Ea Tryz.prog 117 58 (Ad):=⟨ag,ag,ag⟩
instance:Ea Tryz.prog 118 30 QP:=⟨ag,ag,ag⟩
instance:Ea Tryz.prog 331 37 QQ:=⟨ag,ag,ag⟩
def KG (x y:Ab):Bool:=(x.Actuator == y.Actuator) && ((x.Out == y.Out) && (true))
instance:lL Tryz.prog 69 KG:=⟨by
 rintro M M' w w' cs ds x y ⟨c0,d0,rfl,h0,h1⟩ ⟨p0,q0,rfl,g0,g1⟩ w1;have e0:c0=[.int .i64 x.Actuator]:=h0;have k0:p0=[.int .i64 y.Actuator]:=g0;have e1:d0=[.bool x.Out]:=h1;have k1:q0=[.bool y.Out]:=g1;subst e0 k0 e1 k1;rw [run_equalIn_agg w1 9999 69 _ _ ag ag];have hf:(Tryz.prog.fieldsOf 69).toList.map AP=[(false,3,0),(false,4,1)]:=by kernel_rfl
 let ⟨f0,l,hl,n0,t0,o0,hf⟩:=dV hf;rw [hl];obtain ⟨f1,l,rfl,n1,t1,o1,hf⟩:=dV hf;obtain rfl:=jG hf;exact (pT n0 (by rw [t0];kernel_rfl) (by rw [o0];rfl) (by rw [o0];rfl) (pU n1 (by rw [t1];kernel_rfl) (by rw [o1];rfl) (by rw [o1];rfl) lu)),rfl,ag⟩
instance:FV Key where
 val x:=.agg #[.string x.ends,.string x.valves,.string x.inputs,.string x.values,.string x.timers]
 of {M w cs x} h:=by
  obtain ⟨c0,d0,rfl,h0,c1,d1,rfl,h1,c2,d2,rfl,h2,c3,d3,rfl,h3,h4⟩:=h;have e0:c0=[.string x.ends]:=h0;have e1:c1=[.string x.valves]:=h1;have e2:c2=[.string x.inputs]:=h2;have e3:c3=[.string x.values]:=h3;have e4:d3=[.string x.timers]:=h4;subst e0 e1 e2 e3 e4;rfl
 to x:=⟨[.string x.ends,.string x.valves,.string x.inputs,.string x.values,.string x.timers],rfl,λ_ _=>⟨[.string x.ends],_,rfl,rfl,[.string x.valves],_,rfl,rfl,[.string x.inputs],_,rfl,rfl,[.string x.values],_,rfl,rfl,rfl⟩⟩
def Bv (x y:Key):Bool:=(x.ends.data.toList == y.ends.data.toList) && ((x.valves.data.toList == y.valves.data.toList) && ((x.inputs.data.toList == y.inputs.data.toList) && ((x.values.data.toList == y.values.data.toList) && ((x.timers.data.toList == y.timers.data.toList) && (true)))))
instance:lL Tryz.prog 296 Bv:=⟨by
 rintro M M' w w' cs ds x y ⟨c0,d0,rfl,h0,c1,d1,rfl,h1,c2,d2,rfl,h2,c3,d3,rfl,h3,h4⟩ ⟨p0,q0,rfl,g0,p1,q1,rfl,g1,p2,q2,rfl,g2,p3,q3,rfl,g3,g4⟩ w1;have e0:c0=[.string x.ends]:=h0;have k0:p0=[.string y.ends]:=g0;have e1:c1=[.string x.valves]:=h1;have k1:p1=[.string y.valves]:=g1;have e2:c2=[.string x.inputs]:=h2;have k2:p2=[.string y.inputs]:=g2;have e3:c3=[.string x.values]:=h3;have k3:p3=[.string y.values]:=g3;have e4:d3=[.string x.timers]:=h4;have k4:q3=[.string y.timers]:=g4;subst e0 k0 e1 k1 e2 k2 e3 k3 e4 k4;rw [run_equalIn_agg w1 9999 296 _ _ ag ag];have hf:(Tryz.prog.fieldsOf 296).toList.map AP=[(false,9,0),(false,9,1),(false,9,2),(false,9,3),(false,9,4)]:=by kernel_rfl
 let ⟨f0,l,hl,n0,t0,o0,hf⟩:=dV hf;rw [hl];obtain ⟨f1,l,rfl,n1,t1,o1,hf⟩:=dV hf;obtain ⟨f2,l,rfl,n2,t2,o2,hf⟩:=dV hf;obtain ⟨f3,l,rfl,n3,t3,o3,hf⟩:=dV hf;obtain ⟨f4,l,rfl,n4,t4,o4,hf⟩:=dV hf;obtain rfl:=jG hf;exact (eG n0 (by rw [t0];kernel_rfl) (by rw [o0];rfl) (by rw [o0];rfl) (eG n1 (by rw [t1];kernel_rfl) (by rw [o1];rfl) (by rw [o1];rfl) (eG n2 (by rw [t2];kernel_rfl) (by rw [o2];rfl) (by rw [o2];rfl) (eG n3 (by rw [t3];kernel_rfl) (by rw [o3];rfl) (by rw [o3];rfl) (eG n4 (by rw [t4];kernel_rfl) (by rw [o4];rfl) (by rw [o4];rfl) lu))))),rfl,ag⟩
instance:MK Tryz.prog 296 Key Bv:=MK.ofEqs ag (λk b w=>by
 refine Ht (fs:=Tryz.prog.fieldsOf 296) (n:=9999) ag ?_;have hf:(Tryz.prog.fieldsOf 296).toList.map AP=[(false,9,0),(false,9,1),(false,9,2),(false,9,3),(false,9,4)]:=by kernel_rfl
 let ⟨f0,l,hl,n0,t0,o0,hf⟩:=dV hf;rw [hl];obtain ⟨f1,l,rfl,n1,t1,o1,hf⟩:=dV hf;obtain ⟨f2,l,rfl,n2,t2,o2,hf⟩:=dV hf;obtain ⟨f3,l,rfl,n3,t3,o3,hf⟩:=dV hf;obtain ⟨f4,l,rfl,n4,t4,o4,hf⟩:=dV hf;obtain rfl:=jG hf;intro f hm;simp only [MH,List.not_mem_nil,or_false] at hm;rcases hm with rfl | rfl | rfl | rfl | rfl
 ·exact ly (d:=.string) (v:=.string k.ends) (by rw [t0];kernel_rfl) (by rw [o0];rfl) True.intro
 ·exact ly (d:=.string) (v:=.string k.valves) (by rw [t1];kernel_rfl) (by rw [o1];rfl) True.intro
 ·exact ly (d:=.string) (v:=.string k.inputs) (by rw [t2];kernel_rfl) (by rw [o2];rfl) True.intro
 ·exact ly (d:=.string) (v:=.string k.values) (by rw [t3];kernel_rfl) (by rw [o3];rfl) True.intro
 ·exact ly (d:=.string) (v:=.string k.timers) (by rw [t4];kernel_rfl) (by rw [o4];rfl) True.intro
 ) (λk k' h=>by
 simp only [Bv,L1,beq_iff_eq,Wa,MapKept.bytes_beq,and_true] at h;let ⟨e0,e1,e2,e3,e4⟩:=h;cases k;cases k';simp_all) (λk=>by simp only [FV.val];unfold Instr.sameBits;simp [Wk,Uu,Wj])
instance:MK Tryz.prog 3 Int Ys:=MK.int ag
instance:MK Tryz.prog 9 QT DJ:=MK.str ag
end
section
open Go.Proofs
theorem kE {Γ:Cx} {y0:Int} {y1:List Step} (l:QS×QS) (h0:Rp Γ (l.1) y0) (h1:Rp Γ (l.2) y1):Rp Γ (l.1 ++ l.2) (⟨y0,y1⟩:Ai):=(dO h0 h1)
theorem D5 {Γ:Cx} {y0:Int} {y1:List QT} {y2:List Ae} {y3 y4:QP} (l:QS×QS×QS×QS×QS) (h0:Rp Γ (l.1) y0) (h1:Rp Γ (l.2.1) y1) (h2:Rp Γ (l.2.2.1) y2) (h3:Rp Γ (l.2.2.2.1) y3) (h4:Rp Γ (l.2.2.2.2) y4):Rp Γ (l.1 ++ (l.2.1 ++ (l.2.2.1 ++ (l.2.2.2.1 ++ l.2.2.2.2)))) (⟨y0,y1,y2,y3,y4⟩:Aa):=(dO h0 (dO h1 (dO h2 (dO h3 h4))))
theorem g8 {Γ:Cx} {y0 y1:QP} (l:QS×QS) (h0:Rp Γ (l.1) y0) (h1:Rp Γ (l.2) y1):Rp Γ (l.1 ++ l.2) (⟨y0,y1⟩:Accident):=(dO h0 h1)
theorem Bj {Γ:Cx} {y0:QP} {y1 y2 y3:QQ} {y4:QP} (l:QS×QS×QS×QS×QS) (h0:Rp Γ (l.1) y0) (h1:Rp Γ (l.2.1) y1) (h2:Rp Γ (l.2.2.1) y2) (h3:Rp Γ (l.2.2.2.1) y3) (h4:Rp Γ (l.2.2.2.2) y4):Rp Γ (l.1 ++ (l.2.1 ++ (l.2.2.1 ++ (l.2.2.2.1 ++ l.2.2.2.2)))) (⟨y0,y1,y2,y3,y4⟩:Ad):=(dO h0 (dO h1 (dO h2 (dO h3 h4))))
theorem iZ {Γ:Cx} {y0:Ai} {y1:QP} (l:QS×QS) (h0:Rp Γ (l.1) y0) (h1:Rp Γ (l.2) y1):Rp Γ (l.1 ++ l.2) (⟨y0,y1⟩:Plan):=(dO h0 h1)
theorem KZ {Γ:Cx} {y0:List Ad} {y1:List QP} (l:QS×QS) (h0:Rp Γ (l.1) y0) (h1:Rp Γ (l.2) y1):Rp Γ (l.1 ++ l.2) (⟨y0,y1⟩:Ah):=(dO h0 h1)
theorem kK {M0:Fm} {w0:World} {n d:Nat} {Γ:Cx} {a:Act} {w:World} {x:Ai} {R:Prop} (k0:Nat) (h:St M0 w0 n Γ a w) (hd:Ao Γ d=some (Va x)) (hdis:be [d,k0]=true) (r:∀ c0,St M0 w0 n ((d,Qa [.int .i64 x.Actuators,c0]) :: (k0,At c0 (Va (x.Steps))) :: Γ) a w->R):R:=by let ⟨M,φ,h⟩:=h;let ⟨hF,cs,hv,hr⟩:=h.holds d _ hd;have h1:=Rep.one hr;obtain ⟨_,_,rfl,rfl,⟨c0,rfl,s0⟩⟩:=hr;refine r c0 ?_;have g0:=StM.more1 h k0 (e:=At c0 (Va (x.Steps))) (λ_=>Va.mkList s0);exact St.turnT g0 (by let ⟨e0,hdis⟩:=Gc hdis;simp only [Aj,put];simp only [if_neg e0,if_false];exact hd) ⟨rfl,hv,h1⟩
theorem hH {M0:Fm} {w0:World} {n d:Nat} {Γ:Cx} {a:Act} {w:World} {x:Aa} {R:Prop} (k0 k1 k2 k3:Nat) (h:St M0 w0 n Γ a w) (hd:Ao Γ d=some (Va x)) (hdis:be [d,k0,k1,k2,k3]=true) (r:∀ c0 c1 c2 c3,St M0 w0 n ((d,Qa [.int .i64 x.Actuators,c0,c1,c2,c3]) :: (k0,At c0 (Va (x.Inputs))) :: (k1,At c1 (Va (x.Signals))) :: (k2,At c2 (Va (x.Plus))) :: (k3,At c3 (Va (x.Minus))) :: Γ) a w->R):R:=by let ⟨M,φ,h⟩:=h;let ⟨hF,cs,hv,hr⟩:=h.holds d _ hd;have h1:=Rep.one hr;obtain ⟨_,_,rfl,rfl,⟨_,_,rfl,⟨c0,rfl,s0⟩,⟨_,_,rfl,⟨c1,rfl,s1⟩,⟨_,_,rfl,⟨c2,rfl,s2⟩,⟨c3,rfl,s3⟩⟩⟩⟩⟩:=hr;refine r c0 c1 c2 c3 ?_;have g3:=StM.more1 h k3 (e:=At c3 (Va (x.Minus))) (λ_=>Va.mkList s3);have g2:=StM.more1 g3 k2 (e:=At c2 (Va (x.Plus))) (λ_=>Va.mkList s2);have g1:=StM.more1 g2 k1 (e:=At c1 (Va (x.Signals))) (λ_=>Va.mkList s1);have g0:=StM.more1 g1 k0 (e:=At c0 (Va (x.Inputs))) (λ_=>Va.mkList s0);exact St.turnT g0 (by let ⟨e0,hdis⟩:=Gc hdis;let ⟨e1,hdis⟩:=Gc hdis;let ⟨e2,hdis⟩:=Gc hdis;let ⟨e3,hdis⟩:=Gc hdis;simp only [Aj,put];simp only [if_neg e0,if_neg e1,if_neg e2,if_neg e3,if_false];exact hd) ⟨rfl,hv,h1⟩
theorem Tb {Γ:Cx} {ty:TypeId} {x0:Operand} {y0:Int} {x1:Operand} {y1:List QT} {x2:Operand} {y2:List Ae} {x3:Operand} {y3:QP} {x4:Operand} {y4:QP} (h0:Od Γ x0 (Va y0)) (h1:Od Γ x1 (Va y1)) (h2:Od Γ x2 (Va y2)) (h3:Od Γ x3 (Va y3)) (h4:Od Γ x4 (Va y4)):OR Tryz.prog (.build 32 #[(0,x0),(1,x1),(2,x2),(3,x3),(4,x4)]) ty Γ (Va (⟨y0,y1,y2,y3,y4⟩:Aa)):=by refine OR.val λρ M w r=>?_;let ⟨_,_,c0,e0,q0⟩:=h0 ρ M w r;obtain ⟨a0_0,rfl⟩:=Fh (Rep.len q0);let ⟨_,_,c1,e1,q1⟩:=h1 ρ M w r;obtain ⟨a1_0,rfl⟩:=Fh (Rep.len q1);let ⟨_,_,c2,e2,q2⟩:=h2 ρ M w r;obtain ⟨a2_0,rfl⟩:=Fh (Rep.len q2);let ⟨_,_,c3,e3,q3⟩:=h3 ρ M w r;obtain ⟨a3_0,rfl⟩:=Fh (Rep.len q3);let ⟨_,_,c4,e4,q4⟩:=h4 ρ M w r;obtain ⟨a4_0,rfl⟩:=Fh (Rep.len q4);have h:=As (P:=Tryz.prog) (T:=32) (w:=w) (L:=[(0,1),(1,1),(2,1),(3,1),(4,1)]) (z:=[.int .i64 0,nz,nz,nz,nz]) (res:=[a0_0,a1_0,a2_0,a3_0,a4_0]) (l:=[(0,ρ x0),(1,ρ x1),(2,ρ x2),(3,ρ x3),(4,ρ x4)]) (m:=[(0,[a0_0]),(1,[a1_0]),(2,[a2_0]),(3,[a3_0]),(4,[a4_0])]) ag ag ⟨rfl,Ap e0 q0,⟨rfl,Ap e1 q1,⟨rfl,Ap e2 q2,⟨rfl,Ap e3 q3,⟨rfl,Ap e4 q4,trivial⟩⟩⟩⟩⟩ rfl;refine ⟨.agg #[a0_0,a1_0,a2_0,a3_0,a4_0],λ_ _ _ _=>?_,rfl,[a0_0,a1_0,a2_0,a3_0,a4_0],rfl,⟨[a0_0],[a1_0,a2_0,a3_0,a4_0],rfl,q0,⟨[a1_0],[a2_0,a3_0,a4_0],rfl,q1,⟨[a2_0],[a3_0,a4_0],rfl,q2,⟨[a3_0],[a4_0],rfl,q3,q4⟩⟩⟩⟩⟩;simp only [execOp,MU,MF,M6,LZ,h,LT,L0]
theorem CQ {Γ:Cx} {ty:TypeId} {x0:Operand} {y0:Aa} {x1:Operand} {y1:QP} (h0:Od Γ x0 (Va y0)) (h1:Od Γ x1 (Va y1)):OR Tryz.prog (.build 35 #[(0,x0),(1,x1)]) ty Γ (Va (⟨y0,y1⟩:CaseL)):=by refine OR.val λρ M w r=>?_;let ⟨_,_,c0,e0,q0⟩:=h0 ρ M w r;obtain ⟨a0_0,a0_1,a0_2,a0_3,a0_4,rfl⟩:=kY (Rep.len q0);let ⟨_,_,c1,e1,q1⟩:=h1 ρ M w r;obtain ⟨a1_0,rfl⟩:=Fh (Rep.len q1);have h:=As (P:=Tryz.prog) (T:=35) (w:=w) (L:=[(0,5),(5,1)]) (z:=[.int .i64 0,nz,nz,nz,nz,nz]) (res:=[a0_0,a0_1,a0_2,a0_3,a0_4,a1_0]) (l:=[(0,ρ x0),(1,ρ x1)]) (m:=[(0,[a0_0,a0_1,a0_2,a0_3,a0_4]),(1,[a1_0])]) ag ag ⟨rfl,Ap e0 q0,⟨rfl,Ap e1 q1,trivial⟩⟩ rfl;refine ⟨.agg #[a0_0,a0_1,a0_2,a0_3,a0_4,a1_0],λ_ _ _ _=>?_,rfl,[a0_0,a0_1,a0_2,a0_3,a0_4,a1_0],rfl,⟨[a0_0,a0_1,a0_2,a0_3,a0_4],[a1_0],rfl,q0,q1⟩⟩;simp only [execOp,MU,MF,M6,LZ,h,LT,L0]
theorem KR {Γ:Cx} {ty:TypeId} :OR Tryz.prog (.build 43 #[]) ty Γ (Va (⟨([]:QP),([]:QP)⟩:Accident)):=by refine OR.val λρ M w r=>?_;have h:=As (P:=Tryz.prog) (T:=43) (w:=w) (L:=[(0,1),(1,1)]) (z:=[nz,nz]) (res:=[nz,nz]) (l:=[]) (m:=[]) ag ag trivial rfl;refine ⟨.agg #[nz,nz],λ_ _ _ _=>?_,rfl,[nz,nz],rfl,⟨[nz],[nz],rfl,⟨_,rfl,none,0,rfl,.inl rfl⟩,⟨_,rfl,none,0,rfl,.inl rfl⟩⟩⟩;simp only [execOp,MU,MF,M6,LZ,h,LT,L0]
theorem jO {Γ:Cx} {ty:TypeId} {x1:Operand} {y1:QP} (h1:Od Γ x1 (Va y1)):OR Tryz.prog (.build 43 #[(1,x1)]) ty Γ (Va (⟨([]:QP),y1⟩:Accident)):=by refine OR.val λρ M w r=>?_;let ⟨_,_,c1,e1,q1⟩:=h1 ρ M w r;obtain ⟨a1_0,rfl⟩:=Fh (Rep.len q1);have h:=As (P:=Tryz.prog) (T:=43) (w:=w) (L:=[(0,1),(1,1)]) (z:=[nz,nz]) (res:=[nz,a1_0]) (l:=[(1,ρ x1)]) (m:=[(1,[a1_0])]) ag ag ⟨rfl,Ap e1 q1,trivial⟩ rfl;refine ⟨.agg #[nz,a1_0],λ_ _ _ _=>?_,rfl,[nz,a1_0],rfl,⟨[nz],[a1_0],rfl,⟨_,rfl,none,0,rfl,.inl rfl⟩,q1⟩⟩;simp only [execOp,MU,MF,M6,LZ,h,LT,L0]
theorem Jl {Γ:Cx} {ty:TypeId} :OR Tryz.prog (.build 58 #[]) ty Γ (Va (⟨([]:QP),([]:QQ),([]:QQ),([]:QQ),([]:QP)⟩:Ad)):=by refine OR.val λρ M w r=>?_;have h:=As (P:=Tryz.prog) (T:=58) (w:=w) (L:=[(0,1),(1,1),(2,1),(3,1),(4,1)]) (z:=[nz,nz,nz,nz,nz]) (res:=[nz,nz,nz,nz,nz]) (l:=[]) (m:=[]) ag ag trivial rfl;refine ⟨.agg #[nz,nz,nz,nz,nz],λ_ _ _ _=>?_,rfl,[nz,nz,nz,nz,nz],rfl,⟨[nz],[nz,nz,nz,nz],rfl,⟨_,rfl,none,0,rfl,.inl rfl⟩,⟨[nz],[nz,nz,nz],rfl,⟨_,rfl,none,0,rfl,.inl rfl⟩,⟨[nz],[nz,nz],rfl,⟨_,rfl,none,0,rfl,.inl rfl⟩,⟨[nz],[nz],rfl,⟨_,rfl,none,0,rfl,.inl rfl⟩,⟨_,rfl,none,0,rfl,.inl rfl⟩⟩⟩⟩⟩⟩;simp only [execOp,MU,MF,M6,LZ,h,LT,L0]
theorem KQ {Γ:Cx} {ty:TypeId} {x0:Operand} {y0:Int} {x1:Operand} {y1:Bool} (h0:Od Γ x0 (Va y0)) (h1:Od Γ x1 (Va y1)):OR Tryz.prog (.build 69 #[(0,x0),(1,x1)]) ty Γ (Va (⟨y0,y1⟩:Ab)):=by refine OR.val λρ M w r=>?_;let ⟨_,_,c0,e0,q0⟩:=h0 ρ M w r;obtain ⟨a0_0,rfl⟩:=Fh (Rep.len q0);let ⟨_,_,c1,e1,q1⟩:=h1 ρ M w r;obtain ⟨a1_0,rfl⟩:=Fh (Rep.len q1);have h:=As (P:=Tryz.prog) (T:=69) (w:=w) (L:=[(0,1),(1,1)]) (z:=[.int .i64 0,.bool false]) (res:=[a0_0,a1_0]) (l:=[(0,ρ x0),(1,ρ x1)]) (m:=[(0,[a0_0]),(1,[a1_0])]) ag ag ⟨rfl,Ap e0 q0,⟨rfl,Ap e1 q1,trivial⟩⟩ rfl;refine ⟨.agg #[a0_0,a1_0],λ_ _ _ _=>?_,rfl,[a0_0,a1_0],rfl,⟨[a0_0],[a1_0],rfl,q0,q1⟩⟩;simp only [execOp,MU,MF,M6,LZ,h,LT,L0]
theorem Ps {Γ:Cx} {ty:TypeId} {x0:Operand} {y0:Int} {x1:Operand} {y1:Int} (h0:Od Γ x0 (Va y0)) (h1:Od Γ x1 (Va y1)):OR Tryz.prog (.build 86 #[(0,x0),(1,x1)]) ty Γ (Va (⟨y0,y1,false⟩:Af)):=by refine OR.val λρ M w r=>?_;let ⟨_,_,c0,e0,q0⟩:=h0 ρ M w r;obtain ⟨a0_0,rfl⟩:=Fh (Rep.len q0);let ⟨_,_,c1,e1,q1⟩:=h1 ρ M w r;obtain ⟨a1_0,rfl⟩:=Fh (Rep.len q1);have h:=As (P:=Tryz.prog) (T:=86) (w:=w) (L:=[(0,1),(1,1),(2,1)]) (z:=[.int .i64 0,.int .i64 0,.bool false]) (res:=[a0_0,a1_0,.bool false]) (l:=[(0,ρ x0),(1,ρ x1)]) (m:=[(0,[a0_0]),(1,[a1_0])]) ag ag ⟨rfl,Ap e0 q0,⟨rfl,Ap e1 q1,trivial⟩⟩ rfl;refine ⟨.agg #[a0_0,a1_0,.bool false],λ_ _ _ _=>?_,rfl,[a0_0,a1_0,.bool false],rfl,⟨[a0_0],[a1_0,.bool false],rfl,q0,⟨[a1_0],[.bool false],rfl,q1,rfl⟩⟩⟩;simp only [execOp,MU,MF,M6,LZ,h,LT,L0]
theorem Nf {Γ:Cx} {ty:TypeId} {x0:Operand} {y0:Int} {x1:Operand} {y1:Int} {x2:Operand} {y2:Bool} (h0:Od Γ x0 (Va y0)) (h1:Od Γ x1 (Va y1)) (h2:Od Γ x2 (Va y2)):OR Tryz.prog (.build 86 #[(0,x0),(1,x1),(2,x2)]) ty Γ (Va (⟨y0,y1,y2⟩:Af)):=by refine OR.val λρ M w r=>?_;let ⟨_,_,c0,e0,q0⟩:=h0 ρ M w r;obtain ⟨a0_0,rfl⟩:=Fh (Rep.len q0);let ⟨_,_,c1,e1,q1⟩:=h1 ρ M w r;obtain ⟨a1_0,rfl⟩:=Fh (Rep.len q1);let ⟨_,_,c2,e2,q2⟩:=h2 ρ M w r;obtain ⟨a2_0,rfl⟩:=Fh (Rep.len q2);have h:=As (P:=Tryz.prog) (T:=86) (w:=w) (L:=[(0,1),(1,1),(2,1)]) (z:=[.int .i64 0,.int .i64 0,.bool false]) (res:=[a0_0,a1_0,a2_0]) (l:=[(0,ρ x0),(1,ρ x1),(2,ρ x2)]) (m:=[(0,[a0_0]),(1,[a1_0]),(2,[a2_0])]) ag ag ⟨rfl,Ap e0 q0,⟨rfl,Ap e1 q1,⟨rfl,Ap e2 q2,trivial⟩⟩⟩ rfl;refine ⟨.agg #[a0_0,a1_0,a2_0],λ_ _ _ _=>?_,rfl,[a0_0,a1_0,a2_0],rfl,⟨[a0_0],[a1_0,a2_0],rfl,q0,⟨[a1_0],[a2_0],rfl,q1,q2⟩⟩⟩;simp only [execOp,MU,MF,M6,LZ,h,LT,L0]
theorem Yv {Γ:Cx} {ty:TypeId} {x0:Operand} {y0:Int} {x1:Operand} {y1:Int} (h0:Od Γ x0 (Va y0)) (h1:Od Γ x1 (Va y1)):OR Tryz.prog (.build 110 #[(0,x0),(1,x1)]) ty Γ (Va (⟨y0,y1,([]:List Expr)⟩:Expr)):=by refine OR.val λρ M w r=>?_;let ⟨_,_,c0,e0,q0⟩:=h0 ρ M w r;obtain ⟨a0_0,rfl⟩:=Fh (Rep.len q0);let ⟨_,_,c1,e1,q1⟩:=h1 ρ M w r;obtain ⟨a1_0,rfl⟩:=Fh (Rep.len q1);have h:=As (P:=Tryz.prog) (T:=110) (w:=w) (L:=[(0,1),(1,1),(2,1)]) (z:=[.int .i64 0,.int .i64 0,nz]) (res:=[a0_0,a1_0,nz]) (l:=[(0,ρ x0),(1,ρ x1)]) (m:=[(0,[a0_0]),(1,[a1_0])]) ag ag ⟨rfl,Ap e0 q0,⟨rfl,Ap e1 q1,trivial⟩⟩ rfl;refine ⟨.agg #[a0_0,a1_0,nz],λ_ _ _ _=>?_,rfl,[a0_0,a1_0,nz],rfl,Jq.2 (show Rep.rep M w _ (y0,y1,([]:List Expr)) from ⟨[a0_0],[a1_0,nz],rfl,q0,⟨[a1_0],[nz],rfl,q1,⟨_,rfl,none,0,rfl,.inl rfl⟩⟩⟩)⟩;simp only [execOp,MU,MF,M6,LZ,h,LT,L0]
theorem He {Γ:Cx} {ty:TypeId} {x0:Operand} {y0:Int} {x2:Operand} {y2:List Expr} (h0:Od Γ x0 (Va y0)) (h2:Od Γ x2 (Va y2)):OR Tryz.prog (.build 110 #[(0,x0),(2,x2)]) ty Γ (Va (⟨y0,(0:Int),y2⟩:Expr)):=by refine OR.val λρ M w r=>?_;let ⟨_,_,c0,e0,q0⟩:=h0 ρ M w r;obtain ⟨a0_0,rfl⟩:=Fh (Rep.len q0);let ⟨_,_,c2,e2,q2⟩:=h2 ρ M w r;obtain ⟨a2_0,rfl⟩:=Fh (Rep.len q2);have h:=As (P:=Tryz.prog) (T:=110) (w:=w) (L:=[(0,1),(1,1),(2,1)]) (z:=[.int .i64 0,.int .i64 0,nz]) (res:=[a0_0,.int .i64 0,a2_0]) (l:=[(0,ρ x0),(2,ρ x2)]) (m:=[(0,[a0_0]),(2,[a2_0])]) ag ag ⟨rfl,Ap e0 q0,⟨rfl,Ap e2 q2,trivial⟩⟩ rfl;refine ⟨.agg #[a0_0,.int .i64 0,a2_0],λ_ _ _ _=>?_,rfl,[a0_0,.int .i64 0,a2_0],rfl,Jq.2 (show Rep.rep M w _ (y0,(0:Int),y2) from ⟨[a0_0],[.int .i64 0,a2_0],rfl,q0,⟨[.int .i64 0],[a2_0],rfl,rfl,q2⟩⟩)⟩;simp only [execOp,MU,MF,M6,LZ,h,LT,L0]
theorem De {Γ:Cx} {ty:TypeId} {x0:Operand} {y0:QT} {x1:Operand} {y1:Int} {x2:Operand} {y2:Expr} (h0:Od Γ x0 (Va y0)) (h1:Od Γ x1 (Va y1)) (h2:Od Γ x2 (Va y2)):OR Tryz.prog (.build 113 #[(0,x0),(1,x1),(2,x2)]) ty Γ (Va (⟨y0,y1,y2,(⟨(0:Int),(0:Int),([]:List Expr)⟩:Expr),(0:Int),false⟩:Ae)):=by refine OR.val λρ M w r=>?_;let ⟨_,_,c0,e0,q0⟩:=h0 ρ M w r;obtain ⟨a0_0,rfl⟩:=Fh (Rep.len q0);let ⟨_,_,c1,e1,q1⟩:=h1 ρ M w r;obtain ⟨a1_0,rfl⟩:=Fh (Rep.len q1);let ⟨_,_,c2,e2,q2⟩:=h2 ρ M w r;obtain ⟨a2_0,a2_1,a2_2,rfl⟩:=dB (Rep.len q2);have h:=As (P:=Tryz.prog) (T:=113) (w:=w) (L:=[(0,1),(1,1),(2,3),(5,3),(8,1),(9,1)]) (z:=[.string ByteArray.empty,.int .i64 0,.int .i64 0,.int .i64 0,nz,.int .i64 0,.int .i64 0,nz,.int .i64 0,.bool false]) (res:=[a0_0,a1_0,a2_0,a2_1,a2_2,.int .i64 0,.int .i64 0,nz,.int .i64 0,.bool false]) (l:=[(0,ρ x0),(1,ρ x1),(2,ρ x2)]) (m:=[(0,[a0_0]),(1,[a1_0]),(2,[a2_0,a2_1,a2_2])]) ag ag ⟨rfl,Ap e0 q0,⟨rfl,Ap e1 q1,⟨rfl,Ap e2 q2,trivial⟩⟩⟩ rfl;refine ⟨.agg #[a0_0,a1_0,a2_0,a2_1,a2_2,.int .i64 0,.int .i64 0,nz,.int .i64 0,.bool false],λ_ _ _ _=>?_,rfl,[a0_0,a1_0,a2_0,a2_1,a2_2,.int .i64 0,.int .i64 0,nz,.int .i64 0,.bool false],rfl,⟨[a0_0],[a1_0,a2_0,a2_1,a2_2,.int .i64 0,.int .i64 0,nz,.int .i64 0,.bool false],rfl,q0,⟨[a1_0],[a2_0,a2_1,a2_2,.int .i64 0,.int .i64 0,nz,.int .i64 0,.bool false],rfl,q1,⟨[a2_0,a2_1,a2_2],[.int .i64 0,.int .i64 0,nz,.int .i64 0,.bool false],rfl,q2,⟨[.int .i64 0,.int .i64 0,nz],[.int .i64 0,.bool false],rfl,(by show Za _ _ _ _;unfold Za;exact ⟨none,0,rfl,.inl rfl⟩),⟨[.int .i64 0],[.bool false],rfl,rfl,rfl⟩⟩⟩⟩⟩⟩;simp only [execOp,MU,MF,M6,LZ,h,LT,L0]
theorem Lg {Γ:Cx} {ty:TypeId} {x0:Operand} {y0:QT} {x1:Operand} {y1:Int} {x2:Operand} {y2:Expr} {x3:Operand} {y3:Expr} (h0:Od Γ x0 (Va y0)) (h1:Od Γ x1 (Va y1)) (h2:Od Γ x2 (Va y2)) (h3:Od Γ x3 (Va y3)):OR Tryz.prog (.build 113 #[(0,x0),(1,x1),(2,x2),(3,x3)]) ty Γ (Va (⟨y0,y1,y2,y3,(0:Int),false⟩:Ae)):=by refine OR.val λρ M w r=>?_;let ⟨_,_,c0,e0,q0⟩:=h0 ρ M w r;obtain ⟨a0_0,rfl⟩:=Fh (Rep.len q0);let ⟨_,_,c1,e1,q1⟩:=h1 ρ M w r;obtain ⟨a1_0,rfl⟩:=Fh (Rep.len q1);let ⟨_,_,c2,e2,q2⟩:=h2 ρ M w r;obtain ⟨a2_0,a2_1,a2_2,rfl⟩:=dB (Rep.len q2);let ⟨_,_,c3,e3,q3⟩:=h3 ρ M w r;obtain ⟨a3_0,a3_1,a3_2,rfl⟩:=dB (Rep.len q3);have h:=As (P:=Tryz.prog) (T:=113) (w:=w) (L:=[(0,1),(1,1),(2,3),(5,3),(8,1),(9,1)]) (z:=[.string ByteArray.empty,.int .i64 0,.int .i64 0,.int .i64 0,nz,.int .i64 0,.int .i64 0,nz,.int .i64 0,.bool false]) (res:=[a0_0,a1_0,a2_0,a2_1,a2_2,a3_0,a3_1,a3_2,.int .i64 0,.bool false]) (l:=[(0,ρ x0),(1,ρ x1),(2,ρ x2),(3,ρ x3)]) (m:=[(0,[a0_0]),(1,[a1_0]),(2,[a2_0,a2_1,a2_2]),(3,[a3_0,a3_1,a3_2])]) ag ag ⟨rfl,Ap e0 q0,⟨rfl,Ap e1 q1,⟨rfl,Ap e2 q2,⟨rfl,Ap e3 q3,trivial⟩⟩⟩⟩ rfl;refine ⟨.agg #[a0_0,a1_0,a2_0,a2_1,a2_2,a3_0,a3_1,a3_2,.int .i64 0,.bool false],λ_ _ _ _=>?_,rfl,[a0_0,a1_0,a2_0,a2_1,a2_2,a3_0,a3_1,a3_2,.int .i64 0,.bool false],rfl,⟨[a0_0],[a1_0,a2_0,a2_1,a2_2,a3_0,a3_1,a3_2,.int .i64 0,.bool false],rfl,q0,⟨[a1_0],[a2_0,a2_1,a2_2,a3_0,a3_1,a3_2,.int .i64 0,.bool false],rfl,q1,⟨[a2_0,a2_1,a2_2],[a3_0,a3_1,a3_2,.int .i64 0,.bool false],rfl,q2,⟨[a3_0,a3_1,a3_2],[.int .i64 0,.bool false],rfl,q3,⟨[.int .i64 0],[.bool false],rfl,rfl,rfl⟩⟩⟩⟩⟩⟩;simp only [execOp,MU,MF,M6,LZ,h,LT,L0]
theorem Dc {Γ:Cx} {ty:TypeId} {x0:Operand} {y0:QT} {x1:Operand} {y1:Int} {x2:Operand} {y2:Expr} {x3:Operand} {y3:Expr} {x5:Operand} {y5:Bool} (h0:Od Γ x0 (Va y0)) (h1:Od Γ x1 (Va y1)) (h2:Od Γ x2 (Va y2)) (h3:Od Γ x3 (Va y3)) (h5:Od Γ x5 (Va y5)):OR Tryz.prog (.build 113 #[(0,x0),(1,x1),(2,x2),(3,x3),(5,x5)]) ty Γ (Va (⟨y0,y1,y2,y3,(0:Int),y5⟩:Ae)):=by refine OR.val λρ M w r=>?_;let ⟨_,_,c0,e0,q0⟩:=h0 ρ M w r;obtain ⟨a0_0,rfl⟩:=Fh (Rep.len q0);let ⟨_,_,c1,e1,q1⟩:=h1 ρ M w r;obtain ⟨a1_0,rfl⟩:=Fh (Rep.len q1);let ⟨_,_,c2,e2,q2⟩:=h2 ρ M w r;obtain ⟨a2_0,a2_1,a2_2,rfl⟩:=dB (Rep.len q2);let ⟨_,_,c3,e3,q3⟩:=h3 ρ M w r;obtain ⟨a3_0,a3_1,a3_2,rfl⟩:=dB (Rep.len q3);let ⟨_,_,c5,e5,q5⟩:=h5 ρ M w r;obtain ⟨a5_0,rfl⟩:=Fh (Rep.len q5);have h:=As (P:=Tryz.prog) (T:=113) (w:=w) (L:=[(0,1),(1,1),(2,3),(5,3),(8,1),(9,1)]) (z:=[.string ByteArray.empty,.int .i64 0,.int .i64 0,.int .i64 0,nz,.int .i64 0,.int .i64 0,nz,.int .i64 0,.bool false]) (res:=[a0_0,a1_0,a2_0,a2_1,a2_2,a3_0,a3_1,a3_2,.int .i64 0,a5_0]) (l:=[(0,ρ x0),(1,ρ x1),(2,ρ x2),(3,ρ x3),(5,ρ x5)]) (m:=[(0,[a0_0]),(1,[a1_0]),(2,[a2_0,a2_1,a2_2]),(3,[a3_0,a3_1,a3_2]),(5,[a5_0])]) ag ag ⟨rfl,Ap e0 q0,⟨rfl,Ap e1 q1,⟨rfl,Ap e2 q2,⟨rfl,Ap e3 q3,⟨rfl,Ap e5 q5,trivial⟩⟩⟩⟩⟩ rfl;refine ⟨.agg #[a0_0,a1_0,a2_0,a2_1,a2_2,a3_0,a3_1,a3_2,.int .i64 0,a5_0],λ_ _ _ _=>?_,rfl,[a0_0,a1_0,a2_0,a2_1,a2_2,a3_0,a3_1,a3_2,.int .i64 0,a5_0],rfl,⟨[a0_0],[a1_0,a2_0,a2_1,a2_2,a3_0,a3_1,a3_2,.int .i64 0,a5_0],rfl,q0,⟨[a1_0],[a2_0,a2_1,a2_2,a3_0,a3_1,a3_2,.int .i64 0,a5_0],rfl,q1,⟨[a2_0,a2_1,a2_2],[a3_0,a3_1,a3_2,.int .i64 0,a5_0],rfl,q2,⟨[a3_0,a3_1,a3_2],[.int .i64 0,a5_0],rfl,q3,⟨[.int .i64 0],[a5_0],rfl,rfl,q5⟩⟩⟩⟩⟩⟩;simp only [execOp,MU,MF,M6,LZ,h,LT,L0]
theorem Wc {Γ:Cx} {ty:TypeId} {x0:Operand} {y0:QT} {x1:Operand} {y1:Int} {x2:Operand} {y2:Expr} {x4:Operand} {y4:Int} (h0:Od Γ x0 (Va y0)) (h1:Od Γ x1 (Va y1)) (h2:Od Γ x2 (Va y2)) (h4:Od Γ x4 (Va y4)):OR Tryz.prog (.build 113 #[(0,x0),(1,x1),(2,x2),(4,x4)]) ty Γ (Va (⟨y0,y1,y2,(⟨(0:Int),(0:Int),([]:List Expr)⟩:Expr),y4,false⟩:Ae)):=by refine OR.val λρ M w r=>?_;let ⟨_,_,c0,e0,q0⟩:=h0 ρ M w r;obtain ⟨a0_0,rfl⟩:=Fh (Rep.len q0);let ⟨_,_,c1,e1,q1⟩:=h1 ρ M w r;obtain ⟨a1_0,rfl⟩:=Fh (Rep.len q1);let ⟨_,_,c2,e2,q2⟩:=h2 ρ M w r;obtain ⟨a2_0,a2_1,a2_2,rfl⟩:=dB (Rep.len q2);let ⟨_,_,c4,e4,q4⟩:=h4 ρ M w r;obtain ⟨a4_0,rfl⟩:=Fh (Rep.len q4);have h:=As (P:=Tryz.prog) (T:=113) (w:=w) (L:=[(0,1),(1,1),(2,3),(5,3),(8,1),(9,1)]) (z:=[.string ByteArray.empty,.int .i64 0,.int .i64 0,.int .i64 0,nz,.int .i64 0,.int .i64 0,nz,.int .i64 0,.bool false]) (res:=[a0_0,a1_0,a2_0,a2_1,a2_2,.int .i64 0,.int .i64 0,nz,a4_0,.bool false]) (l:=[(0,ρ x0),(1,ρ x1),(2,ρ x2),(4,ρ x4)]) (m:=[(0,[a0_0]),(1,[a1_0]),(2,[a2_0,a2_1,a2_2]),(4,[a4_0])]) ag ag ⟨rfl,Ap e0 q0,⟨rfl,Ap e1 q1,⟨rfl,Ap e2 q2,⟨rfl,Ap e4 q4,trivial⟩⟩⟩⟩ rfl;refine ⟨.agg #[a0_0,a1_0,a2_0,a2_1,a2_2,.int .i64 0,.int .i64 0,nz,a4_0,.bool false],λ_ _ _ _=>?_,rfl,[a0_0,a1_0,a2_0,a2_1,a2_2,.int .i64 0,.int .i64 0,nz,a4_0,.bool false],rfl,⟨[a0_0],[a1_0,a2_0,a2_1,a2_2,.int .i64 0,.int .i64 0,nz,a4_0,.bool false],rfl,q0,⟨[a1_0],[a2_0,a2_1,a2_2,.int .i64 0,.int .i64 0,nz,a4_0,.bool false],rfl,q1,⟨[a2_0,a2_1,a2_2],[.int .i64 0,.int .i64 0,nz,a4_0,.bool false],rfl,q2,⟨[.int .i64 0,.int .i64 0,nz],[a4_0,.bool false],rfl,(by show Za _ _ _ _;unfold Za;exact ⟨none,0,rfl,.inl rfl⟩),⟨[a4_0],[.bool false],rfl,q4,rfl⟩⟩⟩⟩⟩⟩;simp only [execOp,MU,MF,M6,LZ,h,LT,L0]
theorem HK {Γ:Cx} {ty:TypeId} :OR Tryz.prog (.build 120 #[]) ty Γ (Va (⟨([]:List Ad),([]:List QP)⟩:Ah)):=by refine OR.val λρ M w r=>?_;have h:=As (P:=Tryz.prog) (T:=120) (w:=w) (L:=[(0,1),(1,1)]) (z:=[nz,nz]) (res:=[nz,nz]) (l:=[]) (m:=[]) ag ag trivial rfl;refine ⟨.agg #[nz,nz],λ_ _ _ _=>?_,rfl,[nz,nz],rfl,⟨[nz],[nz],rfl,⟨_,rfl,none,0,rfl,.inl rfl⟩,⟨_,rfl,none,0,rfl,.inl rfl⟩⟩⟩;simp only [execOp,MU,MF,M6,LZ,h,LT,L0]
theorem AW {Γ:Cx} {ty:TypeId} {x0:Operand} {y0:Int} {x1:Operand} {y1:Int} {x2:Operand} {y2:QP} (h0:Od Γ x0 (Va y0)) (h1:Od Γ x1 (Va y1)) (h2:Od Γ x2 (Va y2)):OR Tryz.prog (.build 142 #[(0,x0),(1,x1),(2,x2)]) ty Γ (Va (⟨y0,y1,y2⟩:Step_overlap)):=by refine OR.val λρ M w r=>?_;let ⟨_,_,c0,e0,q0⟩:=h0 ρ M w r;obtain ⟨a0_0,rfl⟩:=Fh (Rep.len q0);let ⟨_,_,c1,e1,q1⟩:=h1 ρ M w r;obtain ⟨a1_0,rfl⟩:=Fh (Rep.len q1);let ⟨_,_,c2,e2,q2⟩:=h2 ρ M w r;obtain ⟨a2_0,rfl⟩:=Fh (Rep.len q2);have h:=As (P:=Tryz.prog) (T:=142) (w:=w) (L:=[(0,1),(1,1),(2,1)]) (z:=[.int .i64 0,.int .i64 0,nz]) (res:=[a0_0,a1_0,a2_0]) (l:=[(0,ρ x0),(1,ρ x1),(2,ρ x2)]) (m:=[(0,[a0_0]),(1,[a1_0]),(2,[a2_0])]) ag ag ⟨rfl,Ap e0 q0,⟨rfl,Ap e1 q1,⟨rfl,Ap e2 q2,trivial⟩⟩⟩ rfl;refine ⟨.agg #[a0_0,a1_0,a2_0],λ_ _ _ _=>?_,rfl,[a0_0,a1_0,a2_0],rfl,⟨[a0_0],[a1_0,a2_0],rfl,q0,⟨[a1_0],[a2_0],rfl,q1,q2⟩⟩⟩;simp only [execOp,MU,MF,M6,LZ,h,LT,L0]
theorem LL {Γ:Cx} {ty:TypeId} :OR Tryz.prog (.build 144 #[]) ty Γ (Va (⟨([]:List Ad),([]:List QP)⟩:Ah)):=by refine OR.val λρ M w r=>?_;have h:=As (P:=Tryz.prog) (T:=144) (w:=w) (L:=[(0,1),(1,1)]) (z:=[nz,nz]) (res:=[nz,nz]) (l:=[]) (m:=[]) ag ag trivial rfl;refine ⟨.agg #[nz,nz],λ_ _ _ _=>?_,rfl,[nz,nz],rfl,⟨[nz],[nz],rfl,⟨_,rfl,none,0,rfl,.inl rfl⟩,⟨_,rfl,none,0,rfl,.inl rfl⟩⟩⟩;simp only [execOp,MU,MF,M6,LZ,h,LT,L0]
theorem HJ {Γ:Cx} {ty:TypeId} {x0:Operand} {y0:Aa} {x1:Operand} {y1:Ah} (h0:Od Γ x0 (Va y0)) (h1:Od Γ x1 (Va y1)):OR Tryz.prog (.build 146 #[(0,x0),(1,x1)]) ty Γ (Va (⟨y0,y1⟩:World_overlap)):=by refine OR.val λρ M w r=>?_;let ⟨_,_,c0,e0,q0⟩:=h0 ρ M w r;obtain ⟨a0_0,a0_1,a0_2,a0_3,a0_4,rfl⟩:=kY (Rep.len q0);let ⟨_,_,c1,e1,q1⟩:=h1 ρ M w r;obtain ⟨a1_0,a1_1,rfl⟩:=pM (Rep.len q1);have h:=As (P:=Tryz.prog) (T:=146) (w:=w) (L:=[(0,5),(5,2)]) (z:=[.int .i64 0,nz,nz,nz,nz,nz,nz]) (res:=[a0_0,a0_1,a0_2,a0_3,a0_4,a1_0,a1_1]) (l:=[(0,ρ x0),(1,ρ x1)]) (m:=[(0,[a0_0,a0_1,a0_2,a0_3,a0_4]),(1,[a1_0,a1_1])]) ag ag ⟨rfl,Ap e0 q0,⟨rfl,Ap e1 q1,trivial⟩⟩ rfl;refine ⟨.agg #[a0_0,a0_1,a0_2,a0_3,a0_4,a1_0,a1_1],λ_ _ _ _=>?_,rfl,[a0_0,a0_1,a0_2,a0_3,a0_4,a1_0,a1_1],rfl,⟨[a0_0,a0_1,a0_2,a0_3,a0_4],[a1_0,a1_1],rfl,q0,q1⟩⟩;simp only [execOp,MU,MF,M6,LZ,h,LT,L0]
theorem Sv {Γ:Cx} {ty:TypeId} {x0:Operand} {y0:QT} {x1:Operand} {y1:QT} {x2:Operand} {y2:QT} {x3:Operand} {y3:QT} {x4:Operand} {y4:QT} (h0:Od Γ x0 (Va y0)) (h1:Od Γ x1 (Va y1)) (h2:Od Γ x2 (Va y2)) (h3:Od Γ x3 (Va y3)) (h4:Od Γ x4 (Va y4)):OR Tryz.prog (.build 296 #[(0,x0),(1,x1),(2,x2),(3,x3),(4,x4)]) ty Γ (Va (⟨y0,y1,y2,y3,y4⟩:Key)):=by refine OR.val λρ M w r=>?_;let ⟨_,_,c0,e0,q0⟩:=h0 ρ M w r;obtain ⟨a0_0,rfl⟩:=Fh (Rep.len q0);let ⟨_,_,c1,e1,q1⟩:=h1 ρ M w r;obtain ⟨a1_0,rfl⟩:=Fh (Rep.len q1);let ⟨_,_,c2,e2,q2⟩:=h2 ρ M w r;obtain ⟨a2_0,rfl⟩:=Fh (Rep.len q2);let ⟨_,_,c3,e3,q3⟩:=h3 ρ M w r;obtain ⟨a3_0,rfl⟩:=Fh (Rep.len q3);let ⟨_,_,c4,e4,q4⟩:=h4 ρ M w r;obtain ⟨a4_0,rfl⟩:=Fh (Rep.len q4);have h:=As (P:=Tryz.prog) (T:=296) (w:=w) (L:=[(0,1),(1,1),(2,1),(3,1),(4,1)]) (z:=[.string ByteArray.empty,.string ByteArray.empty,.string ByteArray.empty,.string ByteArray.empty,.string ByteArray.empty]) (res:=[a0_0,a1_0,a2_0,a3_0,a4_0]) (l:=[(0,ρ x0),(1,ρ x1),(2,ρ x2),(3,ρ x3),(4,ρ x4)]) (m:=[(0,[a0_0]),(1,[a1_0]),(2,[a2_0]),(3,[a3_0]),(4,[a4_0])]) ag ag ⟨rfl,Ap e0 q0,⟨rfl,Ap e1 q1,⟨rfl,Ap e2 q2,⟨rfl,Ap e3 q3,⟨rfl,Ap e4 q4,trivial⟩⟩⟩⟩⟩ rfl;refine ⟨.agg #[a0_0,a1_0,a2_0,a3_0,a4_0],λ_ _ _ _=>?_,rfl,[a0_0,a1_0,a2_0,a3_0,a4_0],rfl,⟨[a0_0],[a1_0,a2_0,a3_0,a4_0],rfl,q0,⟨[a1_0],[a2_0,a3_0,a4_0],rfl,q1,⟨[a2_0],[a3_0,a4_0],rfl,q2,⟨[a3_0],[a4_0],rfl,q3,q4⟩⟩⟩⟩⟩;simp only [execOp,MU,MF,M6,LZ,h,LT,L0]
theorem jP {Γ:Cx} {ty:TypeId} :OR Tryz.prog (.build 434 #[]) ty Γ (Va (⟨false,(0:Int),false⟩:Ag)):=by refine OR.val λρ M w r=>?_;have h:=As (P:=Tryz.prog) (T:=434) (w:=w) (L:=[(0,1),(1,1),(2,1)]) (z:=[.bool false,.int .i64 0,.bool false]) (res:=[.bool false,.int .i64 0,.bool false]) (l:=[]) (m:=[]) ag ag trivial rfl;refine ⟨.agg #[.bool false,.int .i64 0,.bool false],λ_ _ _ _=>?_,rfl,[.bool false,.int .i64 0,.bool false],rfl,⟨[.bool false],[.int .i64 0,.bool false],rfl,rfl,⟨[.int .i64 0],[.bool false],rfl,rfl,rfl⟩⟩⟩;simp only [execOp,MU,MF,M6,LZ,h,LT,L0]
theorem AV {Γ:Cx} {ty:TypeId} {x0:Operand} {y0:Bool} {x1:Operand} {y1:Int} {x2:Operand} {y2:Bool} (h0:Od Γ x0 (Va y0)) (h1:Od Γ x1 (Va y1)) (h2:Od Γ x2 (Va y2)):OR Tryz.prog (.build 434 #[(0,x0),(1,x1),(2,x2)]) ty Γ (Va (⟨y0,y1,y2⟩:Ag)):=by refine OR.val λρ M w r=>?_;let ⟨_,_,c0,e0,q0⟩:=h0 ρ M w r;obtain ⟨a0_0,rfl⟩:=Fh (Rep.len q0);let ⟨_,_,c1,e1,q1⟩:=h1 ρ M w r;obtain ⟨a1_0,rfl⟩:=Fh (Rep.len q1);let ⟨_,_,c2,e2,q2⟩:=h2 ρ M w r;obtain ⟨a2_0,rfl⟩:=Fh (Rep.len q2);have h:=As (P:=Tryz.prog) (T:=434) (w:=w) (L:=[(0,1),(1,1),(2,1)]) (z:=[.bool false,.int .i64 0,.bool false]) (res:=[a0_0,a1_0,a2_0]) (l:=[(0,ρ x0),(1,ρ x1),(2,ρ x2)]) (m:=[(0,[a0_0]),(1,[a1_0]),(2,[a2_0])]) ag ag ⟨rfl,Ap e0 q0,⟨rfl,Ap e1 q1,⟨rfl,Ap e2 q2,trivial⟩⟩⟩ rfl;refine ⟨.agg #[a0_0,a1_0,a2_0],λ_ _ _ _=>?_,rfl,[a0_0,a1_0,a2_0],rfl,⟨[a0_0],[a1_0,a2_0],rfl,q0,⟨[a1_0],[a2_0],rfl,q1,q2⟩⟩⟩;simp only [execOp,MU,MF,M6,LZ,h,LT,L0]
end
theorem bZ {z:Array Value} {n:Nat}:(Builtin.zeroCells z n).size=n * z.size:=by simp [Builtin.zeroCells]
theorem ir {P:Program} {N e:Nat} {α:Type} [Rep α] (hc:dh P N=true) (h0:∀ w:World,Calls P N #[.slice none 0 0,.int .i64 0] w λe w'=>e=.returned (.slice none 0 0)/\w'=w)
  (h1:∀ (n:Nat),0 < n->n<=1000000000->∀ w:World,Calls P N #[.slice none 0 0,.int .i64 n] w λen w'=>∃ k q cs,en=.returned (.slice (some ⟨w.heap.size,0,none⟩) 0 k)/\w'=(w.alloc (.cells cs e)).drewN q/\k<=maxLen/\cs.size=k * Rep.sz α) {v0:Int} (hv:0<=v0) (hv2:v0<=1000000000) :
  Sp P N [Qv (.slice none 0 0),Va v0] (Rz (λx:Value=>Qv x) (λx=>[Ow e x ([]:List α)])):=by
 intro vs M w hM hf
 match vs,hf with
 | [a,b],⟨⟨_,ha⟩,hb,_⟩=>
  subst ha;have hb:=Va.int hb;subst hb;obtain ⟨n,rfl⟩:=OX hv;refine ⟨hc,?_⟩;rcases PJ n with rfl | hn
  ·refine (h0 w).mono ?_;rintro en w' ⟨rfl,rfl⟩;exact ⟨_,rfl,Ext.refl _ _,[],by simp,by simp,_,⟨rfl,rfl⟩,[],[],rfl,λu=>.inl ⟨rfl,[],⟨by simp,.inl ⟨rfl,rfl⟩⟩,rfl⟩,rfl⟩
  ·refine (h1 n hn aa w).mono ?_;rintro en w' ⟨k,q,cs,rfl,rfl,hk,hcs⟩;have hh:((w.alloc (.cells cs e)).drewN q).heap[w.heap.size]?=some (.cells cs e (0,0)):=Cj w _;refine ⟨_,rfl,(Ext.alloc No w _).trans (Ext.drawn _ _ _ (OZ _ _)),[w.heap.size],by simp,λj hj=>?_,_,⟨rfl,rfl⟩,[w.heap.size],[],by simp,λu=>.inl ⟨rfl,[],⟨by simp,.inr ⟨w.heap.size,k,cs,rfl,NN _,hh,NN _,hk,hcs,by simp⟩⟩,rfl⟩,rfl⟩;simp at hj;subst hj;exact ⟨Nat.le_refl _,(L3.1 hh).1⟩
end Go.Pn
namespace Go.Proofs
open Go Go.RowKit
theorem G0 (w:World):Calls Tryz.prog 247 #[.slice none 0 0,.int .i64 0] w λe w'=>e=.returned (.slice none 0 0)/\w'=w:=by go_enter Tryz.func247,Tryz.ntmps247;go_wp2;go_ret;exact ⟨rfl,rfl⟩
theorem GY (n:Nat) (h:0 < n) (hn:n<=1000000000) (w:World):Calls Tryz.prog 247 #[.slice none 0 0,.int .i64 n] w λe w'=>∃ k q cs,e=.returned (.slice (some ⟨w.heap.size,0,none⟩) 0 k)/\w'=(w.alloc (.cells cs 3)).drewN q/\k<=maxLen/\cs.size=k * 1:=by have happ:=λw=>Lib.run_append_nil_zeros (P:=Tryz.prog) w 30 3 30 3 Tryz.t3 (.int .i64 0) .i64 .i64 Tryz.underlying30 Tryz.underlying3 Go.Pn.ag Go.Pn.ag n h (by decide) Go.Pn.aa (by show n * 8<=_;omega);go_enter Tryz.func247,Tryz.ntmps247;go_wp2_with (at_builtin;refine PO _ rfl _ _ _ _ rfl _ _ rfl rfl _ _ (happ _) ?_);go_ret;have h1:=grownCap_ge w n 0 3;refine ⟨grownCap w n 0 3,1,_,rfl,rfl,grownCap_le_maxLen w n 0 3 (by unfold maxLen;omega),?_⟩;rw [PY,Pn.bZ,Pn.bZ];show n * 1 + (grownCap w n 0 3 - n) * 1=grownCap w n 0 3 * 1;omega
end Go.Proofs
namespace Go.Pn
open Go Go.RowKit
section
open Go.Proofs
def f6 (f:Nat) (v0:Int):Option Unit:=if 0<=v0/\v0<=1000000000 then some () else none
end
section
open Go.Proofs
theorem oa (f:Nat) (v0:Int) (r:Unit) (hm:Pn.f6 f v0=some r):Pn.Sp Tryz.prog 247 [Pn.Qv (.slice none 0 0),Pn.Va v0] (Pn.Rz (λx:Value=>Pn.Qv x) (λx=>[Pn.Ow 3 x ([]:QP)])):=by
 unfold Pn.f6 at hm;split at hm
 case isFalse=>cases hm
 rename_i hv;refine Pn.ir ag (λw=>G0 w) (λn h1 h2 w=>GY n h1 h2 w) hv.1 hv.2
end
end Go.Pn
namespace Go.Proofs
open Go Go.RowKit
theorem GZ (w:World):Calls Tryz.prog 371 #[.slice none 0 0,.int .i64 0] w λe w'=>e=.returned (.slice none 0 0)/\w'=w:=by go_enter Tryz.func371,Tryz.ntmps371;go_wp2;go_ret;exact ⟨rfl,rfl⟩
theorem GX (n:Nat) (h:0 < n) (hn:n<=1000000000) (w:World):Calls Tryz.prog 371 #[.slice none 0 0,.int .i64 n] w λe w'=>∃ k q cs,e=.returned (.slice (some ⟨w.heap.size,0,none⟩) 0 k)/\w'=(w.alloc (.cells cs 4)).drewN q/\k<=maxLen/\cs.size=k * 1:=by have happ:=λw=>Lib.run_append_nil_zeros (P:=Tryz.prog) w 37 3 37 4 Tryz.t4 (.bool false) .i64 .i64 Tryz.underlying37 Tryz.underlying3 Go.Pn.ag Go.Pn.ag n h (by decide) Go.Pn.aa (by show n * 1<=_;omega);go_enter Tryz.func371,Tryz.ntmps371;go_wp2_with (at_builtin;refine PO _ rfl _ _ _ _ rfl _ _ rfl rfl _ _ (happ _) ?_);go_ret;have h1:=grownCap_ge w n 0 4;refine ⟨grownCap w n 0 4,1,_,rfl,rfl,grownCap_le_maxLen w n 0 4 (by unfold maxLen;omega),?_⟩;rw [PY,Pn.bZ,Pn.bZ];show n * 1 + (grownCap w n 0 4 - n) * 1=grownCap w n 0 4 * 1;omega
end Go.Proofs
namespace Go.Pn
open Go Go.RowKit
section
open Go.Proofs
def f5 (f:Nat) (v0:Int):Option Unit:=if 0<=v0/\v0<=1000000000 then some () else none
end
section
open Go.Proofs
theorem mW (f:Nat) (v0:Int) (r:Unit) (hm:Pn.f5 f v0=some r):Pn.Sp Tryz.prog 371 [Pn.Qv (.slice none 0 0),Pn.Va v0] (Pn.Rz (λx:Value=>Pn.Qv x) (λx=>[Pn.Ow 4 x ([]:QQ)])):=by
 unfold Pn.f5 at hm;split at hm
 case isFalse=>cases hm
 rename_i hv;refine Pn.ir ag (λw=>GZ w) (λn h1 h2 w=>GX n h1 h2 w) hv.1 hv.2
end
section
open Go.Sort
theorem Chk.ints {M:Nat->Prop} {w:World}:∀ {xs:QP} {cs:QS},Chk M w cs xs->cs=xs.map (Value.int .i64)
 | [],_,h=>h
 | x :: xs,_,⟨c,d,rfl,h1,h2⟩=>by
  have h1:c=[.int .i64 x]:=h1;rw [h1,Chk.ints h2];rfl
theorem Chk.ofInts {M:Nat->Prop} {w:World}:∀ {xs:QP},Chk M w (xs.map (Value.int .i64)) xs
 | []=>rfl
 | x :: xs=>⟨[.int .i64 x],xs.map (Value.int .i64),rfl,rfl,Chk.ofInts⟩
theorem AE {enc:Int->Value} {w:World} {b:Nat} {d:Array Int} {cur:Array Value} {e:TypeId} {fz:Nat×Nat} (h:w.heap[b]?=some (.cells cur e fz)):(putRow enc w b 0 d).heap[b]?=some (.cells (putCells enc 0 d cur) e fz):=by unfold putRow mapBlock;simp only [PE,if_true,h,Option.map_some,onCells]
theorem Yl {enc:Int->Value} {w:World} {b k:Nat} {d:Array Int} (h:k≠b):(putRow enc w b 0 d).heap[k]?=w.heap[k]?:=by unfold putRow mapBlock;simp only [PE];rw [if_neg (λe=>h e.symm)]
theorem D6 {w w':World} {b n:Nat} {d:Array Int} {os:Array Obj} {cur:Array Value} {e:TypeId} (h:w.heap[b]?=some (.cells cur e (0,0))) (hw:w'=grow (putRow (Value.int .i64) (Sort.ahead w n) b 0 d) os) :
  Ext (λk=>k=b) w w'/\w'.heap[b]?=some (.cells (putCells (Value.int .i64) 0 d cur) e (0,0)):=by (subst hw;have hsz:(putRow (Value.int .i64) (Sort.ahead w n) b 0 d).heap.size=w.heap.size:=by simp [putRow,mapBlock,Sort.ahead]);have hb:b < w.heap.size:=(L3.1 h).1;refine ⟨⟨rfl,rfl,rfl,?_,λk hk hne=>?_,OZ _ _⟩,?_⟩;simp [grow,hsz];simp only [grow];rw [PV (by rw [hsz];exact hk),Yl hne];rfl;simp only [grow];rw [PV (by rw [hsz];exact hb)];exact AE h
theorem Jr {d:Array Int} {cur:Array Value} (h:d.size<=cur.size):(putCells (Value.int .i64) 0 d cur).toList.take d.size=d.toList.map (Value.int .i64):=by refine OA λj=>?_;rw [List.getElem?_take];split;rename_i hj;rw [OQ];simp only [putCells,Array.getElem?_mapIdx,L7,OQ];rw [NO aa,NO hj];simp [hj];rename_i hj;rw [M5 (by simp;omega)]
theorem Js {enc:Int->Value} {d:Array Int} {cur:Array Value}:(putCells enc 0 d cur).size=cur.size:=by simp [putCells]
theorem Yk {w:World} {g:Nat} {cur:Array Value} {e:TypeId} {zs:QP} (h:w.heap[g]?=some (.cells cur e (0,0))) (ht:cur.toList.take zs.length=zs.map (Value.int .i64)):Holds (Value.int .i64) w g 0 zs.toArray:=by (intro j hj;have hj:j < zs.length:=by simpa using hj);(have h1:(cur.toList.take zs.length)[j]?=some (.int .i64 zs[j]):=by rw [ht];simp [hj]);rw [NM hj,OQ] at h1;refine ⟨?_,?_⟩;simp [World.cell?,h,h1,hj];simp [World.frozen?,h]
theorem pN {P:Program} {N e:Nat} {c:Value} {xs:QP} (hcal:dh P N=true) (F:QP->QP) (hlen:∀ zs,(F zs).length=zs.length) (hsm:xs.length < 4611686018427387904)
  (h0:∀ (p:Option Addr) (cap:Nat) (w:World),Calls P N #[.slice p 0 cap] w λen w'=>en=.returned (.tuple #[])/\w'=w)
  (h1:∀ (b cap:Nat) (zs:QP) (w:World),Holds (Value.int .i64) w b 0 zs.toArray->b < w.heap.size->zs.length < 4611686018427387904->Calls P N #[.slice (some ⟨b,0,none⟩) zs.length cap] w λen w'=>en=.returned (.tuple #[])/\∃ n os,w'=grow (putRow (Value.int .i64) (Sort.ahead w n) b 0 (F zs).toArray) os) :
  Cg P N [Qv c] [Ow e c xs] (Rz (λ_:Unit=>Dd) (λ_=>[Ow e c (F xs)])):=by
 refine ⟨hcal,?_⟩;intro vs M w Ft hM hf ho hnd hFM
 match vs,hf with
 | [v],⟨⟨_,hv⟩,_⟩=>
  have hv:v=c:=hv;subst hv;obtain ⟨F1,_,rfl,hown,rfl⟩:=ho;have hF0:xs=[]->F xs=[]:=λh=>PK.1 (by rw [hlen,h];rfl);rcases hown undef with ⟨hF,cs,hr,hc⟩ | ⟨hF,hx,g,hv⟩
  ·rcases hr.2 with ⟨hn,hx⟩ | ⟨g,cap,cur,hn,_,hg,hle,hcap,hsz,htk⟩
   ·have hx:xs=[]:=PK.1 hx;subst hx;rw [hn];refine (h0 none 0 w).mono ?_;rintro en w' ⟨rfl,rfl⟩;refine ⟨_,F1,rfl,Ext.refl _ _,by simpa using hnd,λk hk=>.inl (by simpa using hk),(),rfl,F1,[],by simp,λu=>?_,rfl⟩;rw [hF0 rfl,← hn];exact (Ow e v []).sb (hown u) (λk _ hk=>by rcases hk with h | h;exact h.1;exact hFM k (by simpa using h))
   ·have hcs:=Chk.ints hc;have hsz1:cur.size=cap:=by rw [hsz];show cap * 1=cap;omega
    have htk1:cur.toList.take xs.length=xs.map (Value.int .i64):=by rw [← hcs,← htk];show _=cur.toList.take (xs.length * 1);rw [OF]
    have hgl:g < w.heap.size:=(L3.1 hg).1;rw [hn];refine (h1 g cap xs w (Yk hg htk1) hgl hsm).mono ?_;rintro en w' ⟨rfl,n,os,hw⟩;let ⟨hx,hb⟩:=D6 hg hw;have hF1:F1=[g]:=by rw [hF,hn];rfl
    subst hF1;refine ⟨_,[g],rfl,hx.mono λk _ hk=>by subst hk;simp,by simp,λk hk=>.inl (by simpa using hk),(),rfl,[g],[],by simp,λu=>.inl ⟨by rw [← hn,hn];rfl,(F xs).map (Value.int .i64),⟨?_,.inr ⟨g,cap,_,?_,NN _,hb,?_,hcap,?_,?_⟩⟩,Chk.ofInts⟩,rfl⟩
    ·rw [L9];exact (OF _).symm
    ·rw [hlen]
    ·rw [hlen];exact hle
    ·rw [Js];exact hsz
    ·have:=Jr (d:=(F xs).toArray) (cur:=cur) (by simp [hlen];omega);show _=_;have hm:(F xs).length * Rep.sz Int=(F xs).toArray.size:=by simp;show _ * 1=_;omega
     rw [hm,this]
  ·subst hx;rw [hv];refine (h0 _ 0 w).mono ?_;rintro en w' ⟨rfl,rfl⟩;refine ⟨_,F1,rfl,Ext.refl _ _,by simpa using hnd,λk hk=>.inl (by simpa using hk),(),rfl,F1,[],by simp,λu=>?_,rfl⟩;rw [hF0 rfl,← hv];exact (Ow e v []).sb (hown u) (λk _ hk=>by rcases hk with h | h;exact h.1;exact hFM k (by simpa using h))
end
end Go.Pn
namespace Go.Proofs
open Go Go.RowKit
section
open Go.Shelf Go.Sort
def Tryz.laysSort_ren:Go.Shelf.Ren:=⟨λ| 189=>148 | 125=>219 | 257=>218 | 128=>284 | 129=>285 | 294=>275 | 295=>276 | 296=>277 | 297=>278 | 298=>279 | 299=>280 | 216=>281 | 300=>282 | 301=>283 | 328=>313 | 329=>314 | 330=>315 | 331=>316 | 332=>317 | 215=>318 | 343=>340 | n=>n,λ| 28=>30 | 3=>3 | 46=>174 | 0=>0 | 51=>356 | 53=>358 | 4=>4 | 183=>349 | 182=>348 | 131=>300 | 5=>5 | 9=>9 | 218=>383 | 222=>320 | 228=>417 | 229=>418 | n=>n,λ| n=>n⟩
theorem Tryz.laysSort:Go.Proofs.Lays.n189 Tryz.prog Tryz.laysSort_ren:={
 mixed:=by kernel_rfl
 f125:=Tryz.func219.trans (congrArg some Go.Pn.ag)
 f128:=Tryz.func284.trans (congrArg some Go.Pn.ag)
 f129:=Tryz.func285.trans (congrArg some Go.Pn.ag)
 f189:=Tryz.func148.trans (congrArg some Go.Pn.ag)
 f215:=Tryz.func318.trans (congrArg some Go.Pn.ag)
 f216:=Tryz.func281.trans (congrArg some Go.Pn.ag)
 f257:=Tryz.func218.trans (congrArg some Go.Pn.ag)
 f294:=Tryz.func275.trans (congrArg some Go.Pn.ag)
 f295:=Tryz.func276.trans (congrArg some Go.Pn.ag)
 f296:=Tryz.func277.trans (congrArg some Go.Pn.ag)
 f297:=Tryz.func278.trans (congrArg some Go.Pn.ag)
 f298:=Tryz.func279.trans (congrArg some Go.Pn.ag)
 f299:=Tryz.func280.trans (congrArg some Go.Pn.ag)
 f300:=Tryz.func282.trans (congrArg some Go.Pn.ag)
 f301:=Tryz.func283.trans (congrArg some Go.Pn.ag)
 f328:=Tryz.func313.trans (congrArg some Go.Pn.ag)
 f329:=Tryz.func314.trans (congrArg some Go.Pn.ag)
 f330:=Tryz.func315.trans (congrArg some Go.Pn.ag)
 f331:=Tryz.func316.trans (congrArg some Go.Pn.ag)
 f332:=Tryz.func317.trans (congrArg some Go.Pn.ag)
 f343:=Tryz.func340.trans (congrArg some Go.Pn.ag)
 t0:=Tryz.underlying0
 a0:=Tryz.isAgg0
 z0:=Tryz.sizeOf0
 v0:=Tryz.zeroValue0
 t3:=Tryz.underlying3
 a3:=Tryz.isAgg3
 z3:=Tryz.sizeOf3
 v3:=Tryz.zeroValue3
 t4:=Tryz.underlying4
 a4:=Tryz.isAgg4
 z4:=Tryz.sizeOf4
 v4:=Tryz.zeroValue4
 t5:=Tryz.underlying5
 a5:=Tryz.isAgg5
 z5:=Tryz.sizeOf5
 v5:=Tryz.zeroValue5
 t9:=Tryz.underlying9
 a9:=Tryz.isAgg9
 z9:=Tryz.sizeOf9
 v9:=Tryz.zeroValue9
 t28:=Tryz.underlying30
 a28:=Tryz.isAgg30
 z28:=Tryz.sizeOf30
 v28:=Tryz.zeroValue30
 t46:=Tryz.underlying174
 a46:=Tryz.isAgg174
 z46:=Tryz.sizeOf174
 v46:=Tryz.zeroValue174
 t51:=Tryz.underlying356
 a51:=Tryz.isAgg356
 z51:=Tryz.sizeOf356
 v51:=Tryz.zeroValue356
 t53:=Tryz.underlying358
 a53:=Tryz.isAgg358
 z53:=Tryz.sizeOf358
 v53:=Tryz.zeroValue358
 t131:=Tryz.underlying300
 a131:=Tryz.isAgg300
 z131:=Tryz.sizeOf300
 v131:=Tryz.zeroValue300
 t182:=Tryz.underlying348
 a182:=Tryz.isAgg348
 z182:=Tryz.sizeOf348
 v182:=Tryz.zeroValue348
 t183:=Tryz.underlying349
 a183:=Tryz.isAgg349
 z183:=Tryz.sizeOf349
 v183:=Tryz.zeroValue349
 t218:=Tryz.underlying383
 a218:=Tryz.isAgg383
 z218:=Tryz.sizeOf383
 v218:=Tryz.zeroValue383
 t222:=Tryz.underlying320
 a222:=Tryz.isAgg320
 z222:=Tryz.sizeOf320
 v222:=Tryz.zeroValue320
 t228:=Tryz.underlying417
 a228:=Tryz.isAgg417
 z228:=Tryz.sizeOf417
 v228:=Tryz.zeroValue417
 t229:=Tryz.underlying418
 a229:=Tryz.isAgg418
 z229:=Tryz.sizeOf418
 v229:=Tryz.zeroValue418 }
end
end Go.Proofs
namespace Go.Pn
open Go Go.RowKit
section
open Go.Shelf Go.Sort Go.Proofs
def de (x:Int):QP->QP
 | []=>[x]
 | y :: l=>bif decide (x<=y) then x :: y :: l else y :: Pn.de x l
end
section
open Go.Shelf Go.Sort Go.Proofs
def bT:QP->QP
 | []=>[]
 | x :: l=>Pn.de x (Pn.bT l)
end
section
open Go.Shelf Go.Sort Go.Proofs
theorem bO (x:Int):∀ l:QP,(Pn.de x l).Perm (x :: l)
 | []=>.refl _
 | y :: l=>by
  unfold Pn.de;cases decide (x<=y) with
  | true=>exact .refl _
  | false=>exact ((Pn.bO x l).cons y).trans (.swap x y l)
end
section
open Go.Shelf Go.Sort Go.Proofs
theorem bj:∀ l:QP,(Pn.bT l).Perm l
 | []=>.refl _
 | x :: l=>(Pn.bO x _).trans ((Pn.bj l).cons x)
end
section
open Go.Shelf Go.Sort Go.Proofs
theorem dt (x:Int):∀ l:QP,l.Pairwise (·<=·)->(Pn.de x l).Pairwise (·<=·)
 | [],_=>by unfold Pn.de;simp
 | y :: l,h=>by
  let ⟨h1,h2⟩:=OT.1 h;unfold Pn.de;by_cases hx:x<=y
  ·rw [decide_eq_true hx,cond_true];refine OT.2 ⟨λz hz=>?_,h⟩;rcases MH.1 hz with rfl | hz
   ·exact hx
   ·have:=h1 z hz;omega
  ·rw [decide_eq_false hx,cond_false];refine OT.2 ⟨λz hz=>?_,Pn.dt x l h2⟩;rcases MH.1 ((Pn.bO x l).mem_iff.1 hz) with rfl | hz
   ·omega
   ·exact h1 z hz
end
section
open Go.Shelf Go.Sort Go.Proofs
theorem cg:∀ l:QP,(Pn.bT l).Pairwise (·<=·)
 | []=>.nil
 | x :: l=>Pn.dt x _ (Pn.cg l)
end
section
open Go.Shelf Go.Sort Go.Proofs
theorem eA (xs:QP):Pn.bT xs=xs.mergeSort λx y=>decide (x<=y):=by
 have h:(xs.mergeSort λx y=>decide (x<=y)).Pairwise (λa b:Int=>a<=b):=(List.pairwise_mergeSort (le:=λx y:Int=>decide (x<=y)) (λa b c h1 h2=>by simp at h1 h2 ⊢;omega) (λa b=>by simp;omega) xs).imp λh=>by simpa using h
 exact List.Perm.eq_of_pairwise (λa b _ _ h1 h2=>Int.le_antisymm h1 h2) (Pn.cg xs) h ((Pn.bj xs).trans (List.mergeSort_perm xs _).symm)
end
section
open Go.Shelf Go.Sort Go.Proofs
def cF (f:Nat) (v0:QP):Option QP:=if v0.length<=1000000000 then some (Pn.bT v0) else none
end
section
open Go.Shelf Go.Sort Go.Proofs
theorem QU (f:Nat) (n0:Value) (v0 r:QP) (hm:Pn.cF f v0=some r):Pn.Cg Tryz.prog 148 [Pn.Qv n0] [Pn.Ow 3 n0 (v0)] (Pn.Rz (λx:Unit=>Pn.Dd) (λx=>[Pn.Ow 3 n0 (r)])):=by
 unfold Pn.cF at hm;split at hm
 case isFalse=>cases hm
 rename_i hb;obtain rfl:=Option.some.inj hm;rw [Pn.eA];exact Pn.pN ag (λxs=>xs.mergeSort λx y=>decide (x<=y)) (λzs=>List.length_mergeSort zs) aa (λp cap w=>Any.slices_Sort_int_none Tryz.laysSort p cap w) (λb cap zs w h1 h2 h3=>Any.slices_Sort_int Tryz.laysSort b 0 cap zs w h1 h2 h3)
end
section
open Go.Sort
theorem pO {P:Program} {N e:Nat} {c:Value} {xs:QP} (hcal:dh P N=true) (F:QP->QP) (hlen:∀ zs,(F zs).length<=zs.length) (hsm:xs.length<=9223372036854775807)
  (h0:∀ (p:Option Addr) (cap:Nat) (w:World),Calls P N #[.slice p 0 cap] w λen w'=>en=.returned (.slice p 0 cap)/\w'=w)
  (h1:∀ (b cap:Nat) (zs:QP) (w:World),Holds (Value.int .i64) w b 0 zs.toArray->zs.length<=9223372036854775807->zs.length<=cap->Calls P N #[.slice (some ⟨b,0,none⟩) zs.length cap] w λen w'=>en=.returned (.slice (some ⟨b,0,none⟩) (F zs).length cap)/\∃ n,w'=putRow (Value.int .i64) (Sort.ahead w n) b 0 (F zs ++ List.replicate (zs.length - (F zs).length) 0).toArray) :
  Cg P N [Qv c] [Ow e c xs] (Rz (λx:Value=>Qv x) (λx=>[Ow e x (F xs)])):=by
 refine ⟨hcal,?_⟩;intro vs M w Ft hM hf ho hnd hFM
 match vs,hf with
 | [v],⟨⟨_,hv⟩,_⟩=>
  have hv:v=c:=hv;subst hv;obtain ⟨F1,_,rfl,hown,rfl⟩:=ho;have hF0:xs=[]->F xs=[]:=λh=>PK.1 (by have:=hlen xs;rw [h] at this ⊢;simpa using this);rcases hown undef with ⟨hF,cs,hr,hc⟩ | ⟨hF,hx,g,hv⟩
  ·rcases hr.2 with ⟨hn,hx⟩ | ⟨g,cap,cur,hn,_,hg,hle,hcap,hsz,htk⟩
   ·have hx:xs=[]:=PK.1 hx;subst hx;rw [hn];refine (h0 none 0 w).mono ?_;rintro en w' ⟨rfl,rfl⟩;refine ⟨_,F1,rfl,Ext.refl _ _,by simpa using hnd,λk hk=>.inl (by simpa using hk),v,⟨rfl,hn.symm⟩,F1,[],by simp,λu=>?_,rfl⟩;rw [hF0 rfl];exact (Ow e v []).sb (hown u) (λk _ hk=>by rcases hk with h | h;exact h.1;exact hFM k (by simpa using h))
   ·have hcs:=Chk.ints hc;have hsz1:cur.size=cap:=by rw [hsz];show cap * 1=cap;omega
    have htk1:cur.toList.take xs.length=xs.map (Value.int .i64):=by rw [← hcs,← htk];show _=cur.toList.take (xs.length * 1);rw [OF]
    have hgl:g < w.heap.size:=(L3.1 hg).1;have hl:=hlen xs;rw [hn];refine (h1 g cap xs w (Yk hg htk1) hsm hle).mono ?_;rintro en w' ⟨rfl,n,hw⟩;let ⟨hx,hb⟩:=D6 (os:=#[]) hg (hw.trans (Sort.grow_empty _).symm);have hF1:F1=[g]:=by rw [hF,hn];rfl
    subst hF1;refine ⟨_,[g],rfl,hx.mono λk _ hk=>by subst hk;simp,by simp,λk hk=>.inl (by simpa using hk),_,⟨rfl,rfl⟩,[g],[],by simp,λu=>.inl ⟨rfl,(F xs).map (Value.int .i64),⟨?_,.inr ⟨g,cap,_,rfl,NN _,hb,?_,hcap,?_,?_⟩⟩,Chk.ofInts⟩,rfl⟩
    ·rw [L9];exact (OF _).symm
    ·omega
    ·rw [Js];exact hsz
    ·have:=Jr (d:=(F xs ++ List.replicate (xs.length - (F xs).length) 0).toArray) (cur:=cur) (by simp;omega);have h2:=congrArg (List.take (F xs).length) this;rw [List.take_take,Nat.min_eq_left ah] at h2;have hm:(F xs).length * Rep.sz Int=(F xs).length:=OF _;rw [hm,h2];simp
  ·subst hx;rw [hv];refine (h0 _ 0 w).mono ?_;rintro en w' ⟨rfl,rfl⟩;refine ⟨_,F1,rfl,Ext.refl _ _,by simpa using hnd,λk hk=>.inl (by simpa using hk),v,⟨rfl,hv.symm⟩,F1,[],by simp,λu=>?_,rfl⟩;rw [hF0 rfl];exact (Ow e v []).sb (hown u) (λk _ hk=>by rcases hk with h | h;exact h.1;exact hFM k (by simpa using h))
end
end Go.Pn
namespace Go.Proofs
open Go Go.RowKit
section
open Go.Shelf Go.Sort
def Tryz.laysCompact_ren:Go.Shelf.Ren:=⟨λ| 20=>74 | n=>n,λ| 22=>30 | 3=>3 | 4=>4 | 0=>0 | n=>n,λ| n=>n⟩
theorem Tryz.laysCompact:Go.Proofs.Lays2.n20 Tryz.prog Tryz.laysCompact_ren:={
 mixed:=by kernel_rfl
 f20:=Tryz.func74.trans (congrArg some Go.Pn.ag)
 t0:=Tryz.underlying0
 a0:=Tryz.isAgg0
 z0:=Tryz.sizeOf0
 v0:=Tryz.zeroValue0
 t3:=Tryz.underlying3
 a3:=Tryz.isAgg3
 z3:=Tryz.sizeOf3
 v3:=Tryz.zeroValue3
 t4:=Tryz.underlying4
 a4:=Tryz.isAgg4
 z4:=Tryz.sizeOf4
 v4:=Tryz.zeroValue4
 t22:=Tryz.underlying30
 a22:=Tryz.isAgg30
 z22:=Tryz.sizeOf30
 v22:=Tryz.zeroValue30
 i3:=by kernel_rfl }
end
end Go.Proofs
namespace Go.Pn
open Go Go.RowKit
section
open Go.Shelf Go.Sort Go.Proofs
def fX (f:Nat) (v0:QP):Option QP:=if v0.length<=1000000000 then some (Lib.compact v0) else none
end
section
open Go.Shelf Go.Sort Go.Proofs
theorem cn (zs:QP):(Lib.compact zs).length<=zs.length:=by unfold Lib.compact Lib.compactUpTo;rw [L9];exact NA (OS _ _) ah
end
section
open Go.Shelf Go.Sort Go.Proofs
theorem lS (f:Nat) (n0:Value) (v0 r:QP) (hm:Pn.fX f v0=some r):Pn.Cg Tryz.prog 74 [Pn.Qv n0] [Pn.Ow 3 n0 (v0)] (Pn.Rz (λx:Value=>Pn.Qv x) (λx=>[Pn.Ow 3 x (r)])):=by
 unfold Pn.fX at hm;split at hm
 case isFalse=>cases hm
 rename_i hb;obtain rfl:=Option.some.inj hm;exact Pn.pO ag Lib.compact Pn.cn aa (λp cap w=>Any.slices_Compact_int_empty Tryz.laysCompact p cap w) (λb cap zs w h1 h2 h3=>Any.slices_Compact_int Tryz.laysCompact b 0 cap zs w h1 h2 h3)
end
end Go.Pn
namespace Go.Proofs
open Go Go.RowKit
section
open Go.Shelf Go.Sort
def Tryz.laysMul_ren:Go.Shelf.Ren:=⟨λ| 212=>286 | 263=>319 | 264=>320 | n=>n,λ| 46=>174 | 51=>356 | 146=>388 | 53=>358 | 148=>390 | n=>n,λ| n=>n⟩
theorem Tryz.laysMul:Go.Proofs.Lays.n212 Tryz.prog Tryz.laysMul_ren:={
 mixed:=by kernel_rfl
 f212:=Tryz.func286.trans (congrArg some Go.Pn.ag)
 f263:=Tryz.func319.trans (congrArg some Go.Pn.ag)
 f264:=Tryz.func320.trans (congrArg some Go.Pn.ag)
 t46:=Tryz.underlying174
 a46:=Tryz.isAgg174
 z46:=Tryz.sizeOf174
 v46:=Tryz.zeroValue174
 t51:=Tryz.underlying356
 a51:=Tryz.isAgg356
 z51:=Tryz.sizeOf356
 v51:=Tryz.zeroValue356
 t53:=Tryz.underlying358
 a53:=Tryz.isAgg358
 z53:=Tryz.sizeOf358
 v53:=Tryz.zeroValue358
 t146:=Tryz.underlying388
 a146:=Tryz.isAgg388
 z146:=Tryz.sizeOf388
 v146:=Tryz.zeroValue388
 t148:=Tryz.underlying390
 a148:=Tryz.isAgg390
 z148:=Tryz.sizeOf390
 v148:=Tryz.zeroValue390 }
end
end Go.Proofs
namespace Go.Pn
open Go Go.RowKit
section
open Go.Shelf Go.Sort Go.Proofs
def jr (f:Nat) (v0 v1:Pn.Kd .u64):Option (Pn.Kd .u64×Pn.Kd .u64):=if 0<=v0.v/\v0.v < 18446744073709551616/\0<=v1.v/\v1.v < 18446744073709551616 then some (⟨v0.v * v1.v / 18446744073709551616⟩,⟨v0.v * v1.v % 18446744073709551616⟩) else none
end
section
open Go.Shelf Go.Sort Go.Proofs
theorem nO (f:Nat) (v0 v1:Pn.Kd .u64) (r:Pn.Kd .u64×Pn.Kd .u64) (hm:Pn.jr f v0 v1=some r):Pn.Sp Tryz.prog 286 [Pn.Va v0,Pn.Va v1] (Pn.T2 (Pn.Va r.1) (Pn.Va r.2)):=by
 unfold Pn.jr at hm;split at hm
 case isFalse=>cases hm
 rename_i hb;obtain rfl:=Option.some.inj hm;intro vs M w hM hf
 match vs,hf with
 | [a,b],⟨ha,hb',_⟩=>
  have ha:=Pn.Ik.rep ha;have hb':=Pn.Ik.rep hb';subst ha hb';refine ⟨ag,?_⟩;let ⟨x,hx⟩:=OX hb.1;let ⟨y,hy⟩:=OX hb.2.2.1;have:=Any.bits_Mul Tryz.laysMul x y aa aa w;have e0:(Pn.Ik.toI v0)=(x:Int):=hx;have e1:(Pn.Ik.toI v1)=(y:Int):=hy;rw [e0,e1];refine this.mono ?_;rintro en w' ⟨rfl,rfl⟩;have f0:Value.int .u64 ((x * y / 18446744073709551616:Nat):Int)=.int .u64 (v0.v * v1.v / 18446744073709551616):=by rw [hx,hy,Int.natCast_ediv,P5];rfl
  have f1:Value.int .u64 ((x * y % 18446744073709551616:Nat):Int)=.int .u64 (v0.v * v1.v % 18446744073709551616):=by rw [hx,hy,Int.natCast_emod,P5];rfl
  rw [f0,f1];exact ⟨_,rfl,Pn.Ext.refl _ _,[],by simp,by simp,_,_,[],[],rfl,rfl,Pn.Ik.mkv (x:=(⟨v0.v * v1.v / 18446744073709551616⟩:Pn.Kd .u64)),Pn.Ik.mkv (x:=(⟨v0.v * v1.v % 18446744073709551616⟩:Pn.Kd .u64))⟩
end
section
open Go.Proofs
def QV (f:Nat) (v0:Int):Option Int:=some v0
theorem QW (f:Nat) (v0 r:Int) (hm:QV f v0=some r):Sp Tryz.prog 240 [Va (v0)] (kq 241 r):=by obtain rfl:=si hm;refine am Tryz.func240 ag rfl Tryz.ntmps240 rfl rfl λM w_0 a hM hD s=>?_;refine se (rg (sq s (bx (t rfl)) rfl λa w s=>sq s (aL cq) rfl λa w s=>nl ?_));refine se (rg (cv (d:=1) 300 s rfl rfl λc s=>sq s (bR rfl rfl qn (qc (t rfl) qn)) rfl λa w s=>sq s (aL (t rfl)) rfl λa w s=>nl ?_));replace s:=tv (d:=2) s (fvi (k:=300) (t rfl) rfl);refine wpIn_ret ?_;exact rn hD s rfl (rv1 (rt rfl))
end
section
variable {rr:Option Nat}
def Dk (D:Nat):Ent where
 p F _ w _:=F=[D]/\w.heap[D]?=some (.deferred (some []))
 st h e:=by
  obtain ⟨rfl,h⟩:=h;exact ⟨rfl,by rw [e.block D (L3.1 h).1 ah];exact h⟩
 sb h _:=h
def Lr (l:Nat) (r:Loop):Ent where
 p F _ w _:=F=[l]/\w.heap[l]?=some (.loop r)
 st h e:=by
  obtain ⟨rfl,h⟩:=h;exact ⟨rfl,by rw [e.block l (L3.1 h).1 ah];exact h⟩
 sb h _:=h
instance {l:Nat} {r:Loop}:Gh (Lr l r):=⟨λh _=>h⟩
def Tm (tm:Array Value) (Γt:Cx):Ent where
 p F M w _:=F=[]/\∀ t e,Ao Γt t=some e->e.p [] M w (tm.getD t undef)
 st h x:=⟨h.1,λt e he=>e.st (h.2 t e he) (x.mono λk _ hk=>⟨hk.1,by simp⟩)⟩
 sb h s:=⟨h.1,λt e he=>e.sb (h.2 t e he) s⟩
instance {tm:Array Value} {Γt:Cx}:Gh (Tm tm Γt):=⟨λh _=>h⟩
def Pk {X:Type} (G:X->List Ent):Ent where
 p F M w _:=∃ x,Oq M w (G x) F
 st h x:=let ⟨y,h⟩:=h;⟨y,h.st x⟩
 sb h s:=let ⟨y,h⟩:=h;⟨y,h.sb s⟩
def Lh:QR->List Ent->Mp->Mp
 | k :: ks,e :: es,g=>put k e (Lh ks es g)
 | _,_,g=>g
theorem Pu {k:Nat} {e:Ent} {ks:QR} {es:List Ent} {g:Mp}:Lh (k :: ks) (e :: es) g=put k e (Lh ks es g):=by conv=>lhs;unfold Lh
theorem Cz {Γ:Cx}:∀ {ks:QR} {es:List Ent},Ao (Li ks es Γ)=Lh ks es (Ao Γ)
 | [],_=>by unfold Li Lh;rfl
 | _ :: _,[]=>by unfold Li Lh;rfl
 | k :: ks,e :: es=>by unfold Li Lh;rw [Aj,Cz]
theorem Fv {g g':Mp}:∀ {ks:QR} {es:List Ent} {t:Nat} {e:Ent},ks.length=es.length->(∀ e,t ∉ ks->g t=some e->g' t=some e)->Lh ks es g t=some e->Lh ks es g' t=some e
 | [],[],t,e,_,h,k=>by
  unfold Lh at k ⊢;exact h e ah k
 | k :: ks,x :: es,t,e,hl,h,q=>by
  unfold Lh at q ⊢;unfold put at q ⊢;split
  ·rename_i ht;rw [if_pos ht] at q;exact q
  ·rename_i ht;rw [if_neg ht] at q;exact Fv (by simpa using hl) (λe hn he=>h e (by simp [ht,hn]) he) q
section
variable {P:Program} {M0:Fm} {w0:World} {n:Nat} {Γ:Cx} {Q:Exit->Act->World->Prop} {a:Act} {w:World} {ty:TypeId}
theorem StM.add1 {g:Mp} {M:Nat->Prop} {φ:Nat->QR} {k:Nat} {e:Ent} {F:QR} (h:StM M0 w0 n g a w M φ) (hp:e.p F M w (a.get k)) (hn:F.Nodup) (hF:∀ q∈F,M q/\(w0.heap.size<=q\/M0.b q))
  (hd:∀ t,t≠k->(g t).isSome=true->∀ q∈φ t,q ∉ F):StM M0 w0 n (put k e g) a w M (λt=>if t=k then F else φ t):=by refine ⟨λt e' he=>?_,λt ht=>?_,λt s hts ht hs=>?_,h.sub,h.bd,h.fr,h.sz,h.df⟩;unfold put at he;by_cases hk:t=k;subst hk;simp only [if_true,Option.some.injEq] at he ⊢;subst he;exact hp;simp only [if_neg hk] at he ⊢;exact h.holds t e' he;by_cases hk:t=k;subst hk;simp only [if_true];exact ⟨hn,hF⟩;simp only [put,if_neg hk] at ht ⊢;exact h.own t ht;by_cases hk:t=k;subst hk;simp only [if_true,if_neg (Ne.symm hts)];simp only [put,if_neg (Ne.symm hts)] at hs;exact λq hq hq'=>hd s (Ne.symm hts) hs q hq' hq;by_cases hk2:s=k;subst hk2;simp only [if_true,if_neg hk];simp only [put,if_neg hk] at ht;exact λq hq=>hd t hk ht q hq;simp only [put,if_neg hk,if_neg hk2] at ht hs ⊢;exact h.apart t s hts ht hs
theorem StM.addG {g:Mp} {M:Nat->Prop} {φ:Nat->QR} (h:StM M0 w0 n g a w M φ):∀ {ks:QR} {Gs:List Ent} {Ft:QR},ks.length=Gs.length->be ks=true->Oq M w Gs Ft->Ft.Nodup ->
  (∀ q∈Ft,M q/\(w0.heap.size<=q\/M0.b q))->(∀ t,(g t).isSome=true->∀ q∈φ t,q ∉ Ft) ->
  ∃ φ',StM M0 w0 n (Lh ks Gs g) a w M φ'/\∀ t q,(Lh ks Gs g t).isSome=true->q∈φ' t->((g t).isSome=true/\q∈φ t)\/(t∈ks/\q∈Ft)
 | [],[],Ft,_,_,_,_,_,_=>⟨φ,by unfold Lh;exact h,λt q ht hq=>.inl ⟨by unfold Lh at ht;exact ht,hq⟩⟩
 | k :: ks,e :: Gs,Ft,hl,hd,⟨F,F',hFF,h1,h2⟩,hn,hF,hdj=>by
  subst hFF;let ⟨hd1,hd2⟩:=Ay hd;let ⟨n1,n2,n3⟩:=O4.1 hn;let ⟨φ',i1,i2⟩:=h.addG (by simpa using hl) hd2 h2 n2 (λq hq=>hF q (MO _ hq)) (λt ht q hq hm=>hdj t ht q hq (MO _ hm));refine ⟨λt=>if t=k then F else φ' t,?_,?_⟩
  ·unfold Lh;refine i1.add1 (h1 _) n1 (λq hq=>hF q (MQ _ hq)) λt hne ht q hq hqF=>?_;rcases i2 t q ht hq with ⟨h3,h4⟩ | ⟨_,h4⟩
   ·exact hdj t h3 q h4 (MQ _ hqF)
   ·exact n3 q hqF q h4 rfl
  ·intro t q ht hq;by_cases hk:t=k
   ·subst hk;simp only [if_true] at hq;exact .inr ⟨List.mem_cons_self ..,MQ _ hq⟩
   ·simp only [if_neg hk] at hq;unfold Lh put at ht;rw [if_neg hk] at ht;rcases i2 t q ht hq with h3 | ⟨h3,h4⟩
    ·exact .inl h3
    ·exact .inr ⟨List.mem_cons_of_mem _ h3,MO _ h4⟩
theorem StM.called0 (hM:Bd M0 w0) {M:Nat->Prop} {φ:Nat->QR} {ks js:QR} {G G':List Ent} {w':World} {Fq:QR} (h:StM M0 w0 n (Ao Γ) a w M φ) (hk:Kg (Ao Γ) ks G) (hd:be ks=true)
  (hx:Ext (λk=>k∈(ks.map φ).flatten) w w') (hn:Fq.Nodup) (hF:∀ k∈Fq,k∈(ks.map φ).flatten\/(w.heap.size<=k/\k < w'.heap.size))
  (ho:Oq (λk=>(M k/\k ∉ (ks.map φ).flatten)\/k∈Fq) w' G' Fq) (hl:js.length=G'.length) (hjs:be js=true) (hkj:∀ k∈ks,k∈js):St M0 w0 n (Li js G' Γ) a w':=by
 let ⟨o1,o2,o3,o4⟩:=Kg.owns h hk hd;have base:StM M0 w0 n (λt=>if t∈js then none else Ao Γ t) a w' (λk=>(M k/\k ∉ (ks.map φ).flatten)\/k∈Fq) φ:=by
  have at':∀ t,((if t∈js then none else Ao Γ t):Option Ent).isSome=true->t ∉ js/\(Ao Γ t).isSome=true:=λt ht=>by
   by_cases hj:t∈js
   ·rw [if_pos hj] at ht;cases ht
   ·rw [if_neg hj] at ht;exact ⟨hj,ht⟩
  refine ⟨λt e he=>?_,λt ht=>?_,λt s hts ht hs=>h.apart t s hts (at' t ht).2 (at' s hs).2,λk hk=>?_,λk hk=>?_,?_,h.sz,h.df⟩
  ·have h3:=at' t (by rw [he];rfl);simp only [if_neg h3.1] at he;have hnl:=o4 t h3.2 λhm=>h3.1 (hkj t hm);have e1:e.p (φ t) (λk=>M k\/(w.heap.size<=k)) w (a.get t):=Ent.sb _ (h.holds t e he) λk hk hm=>hm.elim id λh=>by omega
   have e2:e.p (φ t) (λk=>M k\/(w.heap.size<=k)) w' (a.get t):=Ent.st _ e1 (hx.mono λk _ hk=>⟨.inl (o3 k hk).1,λhm=>hnl k hm hk⟩);refine Ent.sb _ e2 λk hk hm=>?_;rcases hm with hm | hm
   ·exact .inl hm.1
   ·rcases hF k hm with h5 | h5
    ·exact .inl (o3 k h5).1
    ·exact .inr h5.1
  ·have h3:=at' t ht;have:=h.own t h3.2;exact ⟨this.1,λk hk=>⟨.inl ⟨(this.2 k hk).1,o4 t h3.2 (λhm=>h3.1 (hkj t hm)) k hk⟩,(this.2 k hk).2⟩⟩
  ·refine .inl ⟨h.sub k hk,λhm=>?_⟩;rcases (o3 k hm).2 with h5 | h5
   ·have:=hM.1 k hk;omega
   ·exact hM.2 k h5 hk
  ·rcases hk with hk | hk
   ·exact NG (h.bd k hk.1) hx.size
   ·rcases hF k hk with h5 | h5
    ·exact NG (h.bd k (o3 k h5).1) hx.size
    ·exact h5.2
  ·exact ⟨hx.os.trans h.fr.os,hx.tape.trans h.fr.tape,hx.output.trans h.fr.output,NA h.fr.size hx.size,λk hk hb=>
    (hx.block k (NG hk h.fr.size) λhm=>(o3 k hm).2.elim (λh5=>by omega) hb).trans (h.fr.block k hk hb),NA h.fr.dr hx.dr⟩
 let ⟨φ',h1,_⟩:=base.addG hl hjs ho hn (λq hq=>⟨.inr hq,by
   rcases hF q hq with h5 | h5
   ·exact (o3 q h5).2
   ·exact .inl (NA h.fr.size h5.1)⟩) (λt ht q hq hm=>by
   by_cases hj:t∈js
   ·rw [if_pos hj] at ht;cases ht
   ·rw [if_neg hj] at ht;rcases hF q hm with h5 | h5
    ·exact o4 t ht (λhm=>hj (hkj t hm)) q hq h5
    ·have:=h.bd q ((h.own t ht).2 q hq).1;omega)
 refine StF.less (g:=Lh js G' λt=>if t∈js then none else Ao Γ t) ⟨_,φ',h1⟩ λt e he=>?_
 rw [Cz] at he;exact Fv hl (λe hn he=>by rw [if_neg hn];exact he) he
theorem StM.newb {g:Mp} {M:Nat->Prop} {φ:Nat->QR} {k:Nat} {e:Ent} {o:Obj} (h:StM M0 w0 n g a w M φ) (he:∀ M',e.p [w.heap.size] M' (w.alloc o) (a.get k)):StF M0 w0 n (put k e g) a (w.alloc o):=by have hx:Ext No w (w.alloc o):=Ext.alloc _ _ _;refine ⟨λq=>M q\/q=w.heap.size,λt=>if t=k then [w.heap.size] else φ t,λt e' he'=>?_,λt ht=>?_,λt s hts ht hs=>?_,λq hq=>.inl (h.sub q hq),λq hq=>?_,h.fr.trans hx.no,h.sz,h.df⟩;unfold put at he';by_cases hk:t=k;subst hk;simp only [if_true,Option.some.injEq] at he' ⊢;subst he';exact he _;simp only [if_neg hk] at he' ⊢;refine Ent.st _ (Ent.sb _ (h.holds t e' he') (M':=λq=>M q\/q=w.heap.size) ?_) (hx.mono λ_ _ f=>f.elim);rintro q hq (hm | hm);exact hm;omega;by_cases hk:t=k;subst hk;simp only [if_true];exact ⟨by simp,λq hq=>by simp at hq;subst hq;exact ⟨.inr rfl,.inl h.fr.size⟩⟩;simp only [put,if_neg hk] at ht ⊢;have:=h.own t ht;exact ⟨this.1,λq hq=>⟨.inl (this.2 q hq).1,(this.2 q hq).2⟩⟩;(have key:∀ s,(g s).isSome=true->∀ q∈φ s,q≠w.heap.size:=λs hs q hq e=>by have:=h.bd q ((h.own s hs).2 q hq).1;omega);by_cases hk:t=k;(subst hk;simp only [if_true,if_neg (Ne.symm hts)];simp only [put,if_neg (Ne.symm hts)] at hs;exact λq hq hq'=>by simp at hq;exact key s hs q hq' hq);by_cases hk2:s=k;(subst hk2;simp only [if_true,if_neg hk];simp only [put,if_neg hk] at ht;exact λq hq hq'=>by simp at hq';exact key t ht q hq hq');simp only [put,if_neg hk,if_neg hk2] at ht hs ⊢;exact h.apart t s hts ht hs;(rcases hq with hq | hq);exact NG (h.bd q hq) hx.size;subst hq;simp
def Cy (P:Program) (l:Nat) (ps G:List Ent) (R:Ent):Prop:=
 ∀ (vs:QS) (M:Nat->Prop) (w:World) (Ft:QR),(∀ k,M k->k < w.heap.size)->Up M w ps vs->Oq M w G Ft->Ft.Nodup->(∀ k∈Ft,M k) ->
  ∃ fn tmps assign body,(Instr.yield l vs.toArray).run P w=.ok (.round l fn tmps assign body) w /\
   RoundIn (Fr none) 0 P l fn tmps assign body w (cU ⟨λk=>M k/\k ∉ Ft,λk=>k∈Ft,[]⟩ w R)
@[reducible] def yv (l:Nat):Value:=.func (.yield l) #[] #[]
theorem kh {ops:Array Oper} {rest:List Oper} {x:Operand} {l:Nat} {A:Array TypeId} {args:Array Operand} {xs:List Operand} {ps G:List Ent} {X:Type} {eo:X->Ent} {G':X->List Ent} {d:Nat} {pos:String} {ai:Array Edge} (ks js:QR)
  (hM:Bd M0 w0) (hs:St M0 w0 n Γ a w) (hx:Od Γ x (Qv (yv l))) (ha:args.toList=xs) (h:Odl Γ xs ps) (c:Cy P l ps G (Rz eo G')) (hk:Kg (Ao Γ) ks G) (hd:be ks=true) (hl:∀ x,js.length=(G' x).length) (hjs:be (d :: js)=true) (hkj:(ks.all λk=>js.any (Nat.beq k))=true) (hn:Nat.blt d n=true)
  (k:∀ x a' w',St M0 w0 n ((d,eo x) :: Li js (G' x) Γ) a' w'->wpListIn (Fr rr) 0 P ops Q rest a' w'):wpListIn (Fr rr) 0 P ops Q (⟨some d,.call { callee:=.value x,args:=args,argTypes:=A },ty,pos,ai,none⟩ :: rest) a w:=by (refine wpListIn_plain rfl λKc hK=>?_;subst ha;let ⟨M,φ,hs⟩:=hs;let ⟨_,_,hv⟩:=hx _ _ _ hs.rd;let ⟨o1,o2,o3,o4⟩:=Kg.owns hs hk hd;let ⟨fn,tm,asg,bd,hy,hR⟩:=c _ M w _ hs.bd (h.fits hs.rd) o1 o2 (λk hk=>(o3 k hk).1);refine ⟨λ_ _=>trivial,?_⟩;have hrun:((⟨some d,.call { callee:=.value x,args:=args,argTypes:=A },ty,pos,ai,none⟩:Oper).semAt (Fr rr).round a.eval).run P w=.ok (.round l fn tm asg bd) w:=by rw [Oper.semAt_eq _ _ _ (by intro c;simp),← hy];simp [execOp,resolve,Deferred.ofValue,hv,invoke];congr 2;apply Array.ext';simp);rw [hrun];refine ⟨Zo,RoundIn.mono (F:=Fr rr) hR ?_⟩;rintro en w' ⟨v,Fq,rfl,hx,hnd,hF,x,hp,ho⟩;refine hK _ _ (k x _ _ ?_);exact hs.called hM hk hd (L6 hn) hx hnd hF hp ho (hl x) hjs λk hk'=>by have:=L5.1 hkj k hk';let ⟨j,hj,hb⟩:=MD.1 this;rw [N1 hb];exact hj
theorem St.putRec {K l:Nat} {r r':Loop} (hs:St M0 w0 n Γ a w) (hk:Ao Γ K=some (Lr l r)):w.heap[l]?=some (.loop r)/\St M0 w0 n ((K,Lr l r') :: Γ) a (w.putObj l (.loop r')):=by let ⟨M,φ,h⟩:=hs;let ⟨hF,hc⟩:=h.holds K _ hk;refine ⟨hc,?_⟩;unfold St;rw [Aj];exact h.write (b:=l) (by rw [hk];rfl) (by rw [hF];simp) ⟨rfl,rfl,rfl,by simp,λq _ hq=>World.putObj_heap_other hq,MG _⟩ ⟨hF,World.putObj_heap_same (L3.1 hc).1⟩
theorem kl {K l:Nat} {r:Loop} {body:Code} (hs:St M0 w0 n Γ a w) (hk:Ao Γ K=some (Lr l r)) (hr:r.state=.ready)
  (h:∀ RB w',RB=Lr l { r with state:=.busy }->St M0 w0 n ((K,RB) :: Γ) a w'->body.wpIn (Fr (some l)) 0 P Q a w'):∃ w₂,(Instr.beginRound l).run P w=.ok () w₂/\body.wpIn (Fr (some l)) 0 P Q a w₂:=by let ⟨h1,h2⟩:=hs.putRec (r':={ r with state:=.busy }) hk;exact ⟨_,run_beginRound h1 hr,h _ _ rfl h2⟩
def eW:Nat->LoopState
 | 0=>.ready
 | _ + 1=>.done
def isz:Nat->Bool
 | 0=>true
 | _ + 1=>false
def dU (js:List Code) (j:Nat):Option Code:=match j with | 0=>none | k + 1=>js[k]?
@[reducible] def bH (fn D:Nat) (tm:Array Value) (ps:Array Tmp) (asx bd:Code) (st:LoopState) (pd:Option Code):Loop:=⟨st,pd,fn,tm,ps,asx,bd,D⟩
def RE (l fn D:Nat) (tm:Array Value) (ps:Array Tmp) (asx bd:Code) (Γt:Cx) (js:List Code) {X σ:Type} (G:σ->X->List Ent) (s:σ×Nat):Ent:=
 Pk λx=>Lr l (bH fn D tm ps asx bd (eW s.2) (dU js s.2)) :: Tm tm Γt :: G s.1 x
instance {l fn D:Nat} {tm:Array Value} {ps:Array Tmp} {asx bd:Code} {Γt:Cx} {js:List Code} {X σ:Type} {G:σ->X->List Ent} {s:σ×Nat}:Gh (RE l fn D tm ps asx bd Γt js G s):=⟨λh _=>h⟩
theorem pD {X:Type} {eo:X->Ent} {G':X->List Ent} (x:X) (ks:QR) {G:List Ent} (hM:Bd M0 w0) (hs:St M0 w0 n Γ a w) (hk:Kg (Ao Γ) ks G) (hd:be ks=true) {v:Value} (hv:∀ M w,(eo x).p [] M w v)
  (hG:∀ M w F,Oq M w G F->Oq M w (G' x) F):cU M0 w0 (Rz eo G') (.returned v) w:=by let ⟨M,φ,h0⟩:=hs;let ⟨i1,i2,i3,_⟩:=Kg.owns h0 hk hd;have hs:∀ k,k < w.heap.size->(M0.k k\/k∈(ks.map φ).flatten)->M k:=λk _ hk=>hk.elim (h0.sub k) λh=>(i3 k h).1;exact ⟨v,_,rfl,h0.fr,i2,λk hk=>(i3 k hk).2.elim (λh=>.inr ⟨h,h0.bd k (i3 k hk).1⟩) .inl,x,hv _ _,hG _ _ _ (i1.sb hs)⟩
theorem ec {K:Fm} {l fn D KL KT:Nat} {tm:Array Value} {ps:Array Tmp} {asx bd:Code} {Γt:Cx} {js:List Code} {X σ:Type} {G:σ->X->List Ent} {pd:Option Code} (ks:QR) (jump:Option Code) (j:Nat) (b:Bool) (s:σ) (x:X)
  {RB TB:Ent} (hM:Bd K w0) (hs:St K w0 n Γ a w) (hk:Ao Γ KL=some RB) (hT:Ao Γ KT=some TB) (hRB:RB=Lr l (bH fn D tm ps asx bd .busy pd)) (hTB:TB=Tm tm Γt) (hG:Kg (Ao Γ) ks (G s x)) (hd:be (KL :: KT :: ks)=true)
  (hj:dU js j=jump) (hb:jump.isNone=b) (hj0:b=isz j) :
  ∃ v w',(Instr.endRound l jump).run P w=.ok v w'/\cU K w0 (Rz (λ_:Unit=>Va b) (λ_=>[RE l fn D tm ps asx bd Γt js G (s,j)])) (.returned v) w':=by
 subst hRB hTB;let ⟨h1,h2⟩:=hs.putRec (r':=bH fn D tm ps asx bd (eW j) (dU js j)) hk;let ⟨d1,d2⟩:=Ay hd;refine ⟨.bool b,_,?_,pD () (KL :: KT :: ks) hM h2 (G:=Lr l (bH fn D tm ps asx bd (eW j) (dU js j)) :: Tm tm Γt :: G s x) ⟨⟨by rw [Aj];simp [put],inferInstance⟩,⟨by rw [Aj];simp only [put];rw [if_neg (d1 KT ah)];exact hT,inferInstance⟩,?_⟩ hd (λM w=>Va.mkBool) ?_⟩
 ·rw [run_endRound jump h1,hb,hj];congr 3;subst hj0;cases j <;> rfl
 ·have:∀ {ks:QR} {es:List Ent},(∀ k∈ks,k≠KL)->Kg (Ao Γ) ks es->Kg (Ao ((KL,Lr l (bH fn D tm ps asx bd (eW j) (dU js j))) :: Γ)) ks es:=by
   intro ks
   induction ks with
   | nil=>intro es _ h;cases es with
    | nil=>exact trivial
    | cons=>exact h.elim
   | cons k ks ih=>
    intro es hne h;cases es with
    | nil=>exact h.elim
    | cons e es=>exact ⟨⟨by rw [Aj];simp only [put];rw [if_neg (hne k ah)];exact h.1.1,h.1.2⟩,ih (λq hq=>hne q (by simp [hq])) h.2⟩
  exact this (λk hk=>d1 k (by simp [hk])) hG
 ·intro M w F ho;exact ⟨F,[],by simp,λu=>⟨x,ho⟩,rfl⟩
theorem Ui:∀ (ps:QR) (vs:QS) (tm:Array Value),((ps.zip vs).foldl (λtm (p:Nat×Value)=>tm.setIfInBounds p.1 p.2) tm).size=tm.size
 | [],_,_=>by simp
 | _ :: _,[],_=>by simp
 | p :: ps,v :: vs,tm=>by simp [Ui]
theorem Vu {t:Nat}:∀ (ps:QR) (vs:QS) (tm:Array Value),t ∉ ps->((ps.zip vs).foldl (λtm (p:Nat×Value)=>tm.setIfInBounds p.1 p.2) tm).getD t undef=tm.getD t undef
 | [],_,_,_=>by simp
 | _ :: _,[],_,_=>by simp
 | p :: ps,v :: vs,tm,h=>by
  simp only [QK,P4];rw [Vu ps vs _ (λhm=>h (M8 _ hm))];simp only [MH,not_or] at h;simp [LY,MV (Ne.symm h.1)]
theorem CC {t:Nat}:∀ (ps:QR) (vs:QS) (tm:Array Value) (i:Nat) (v:Value),be ps=true->ps[i]?=some t->vs[i]?=some v->t < tm.size->((ps.zip vs).foldl (λtm (p:Nat×Value)=>tm.setIfInBounds p.1 p.2) tm).getD t undef=v
 | [],_,_,i,v,_,h,_,_=>by simp at h
 | _ :: _,[],_,i,v,_,_,h,_=>by simp at h
 | p :: ps,u :: vs,tm,0,v,hd,h1,h2,hl=>by
  let ⟨d1,_⟩:=Ay hd;simp only [List.getElem?_cons_zero,Option.some.injEq] at h1 h2;subst h1 h2;simp only [QK,P4];rw [Vu ps vs _ (λhm=>d1 p hm rfl)];simp [LY,hl]
 | p :: ps,u :: vs,tm,i + 1,v,hd,h1,h2,hl=>by
  let ⟨_,d2⟩:=Ay hd;simp only [QK,P4];exact CC ps vs _ i v d2 (by simpa using h1) (by simpa using h2) (by simpa using hl)
theorem Cy.mk {l fn D KL KT:Nat} {tm:Array Value} {ps:Array Tmp} {asx bd:Code} {Γt:Cx} {js:List Code} {X σ:Type} {G:σ->X->List Ent} {pe:List Ent} {R:Ent} (ks pts:QR) (s:σ) (htm:tm.size=n) (hp:ps.toList=pts) (hpl:pts.length=pe.length) (hpd:be pts=true) (hpn:(pts.all λt=>Nat.blt t n)=true)
  (hpt:(pts.all λt=>(Ao Γt t).isNone)=true) (hd:be (KL :: KT :: ks)=true) (hkl:∀ x,ks.length=(G s x).length)
  (h:∀ K w a x TB,Bd K w->K.ds=[]->TB=Tm tm Γt->St K w n (Li (KL :: KT :: ks) (Lr l (bH fn D tm ps asx bd .ready none) :: TB :: G s x) (Li pts pe Γt)) a w ->
   asx.wpIn (Fr (some l)) 0 P (Exit.then (λa₁ w₁=>∃ w₂,(Instr.beginRound l).run P w₁=.ok () w₂/\bd.wpIn (Fr (some l)) 0 P (roundPost P l (cU K w R)) a₁ w₂) (λ_ _ _=>False)) a w) :
  Cy P l pe [RE l fn D tm ps asx bd Γt js G (s,0)] R:=by (intro vs M w Ft hM hf ho hnd hFM;obtain ⟨F1,F2,rfl,hx,hF2⟩:=ho;have hF2:F2=[]:=hF2;subst hF2;rw [M4] at hnd hFM ⊢;let ⟨x,how⟩:=hx undef;let ⟨Fa,Fb,hab,h1,how2⟩:=id how;let ⟨_,hl⟩:=h1 undef;let ⟨Fc,Fd,hcd,h2,_⟩:=id how2;let ⟨_,hT⟩:=h2 undef;have hvl:=hf.len;have hsz:vs.toArray.size=ps.size:=by rw [← QF (xs:=ps),hp,OP,hvl,hpl]);(refine ⟨_,_,_,_,run_yield hl hsz,?_⟩;have hfold:(ps.zip vs.toArray).foldl (λtmps (x:Tmp×Value)=>tmps.setIfInBounds x.1 x.2) tm=(pts.zip vs).foldl (λtm (p:Nat×Value)=>tm.setIfInBounds p.1 p.2) tm:=by rw [← QJ,Array.toList_zip,hp]);(refine roundIn_of_wpIn (F:=Fr none) trivial ?_;refine h ⟨λk=>M k/\k ∉ F1,λk=>k∈F1,[]⟩ w _ x _ ⟨λk hk=>hM k hk.1,λk hk hk'=>hk'.2 hk⟩ rfl rfl ?_;have base:StM ⟨λk=>M k/\k ∉ F1,λk=>k∈F1,[]⟩ w n (Ao (Li pts pe Γt)) { tmps:=(ps.zip vs.toArray).foldl (λtmps (x:Tmp×Value)=>tmps.setIfInBounds x.1 x.2) tm,defers:=[] } w M (λ_=>[]):=by refine ⟨λt e he=>?_,λt _=>⟨by simp,λk hk=>by simp at hk⟩,λt s _ _ _ k hk=>by simp at hk,λk hk=>hk.1,hM,Ext.refl _ _,?_,rfl⟩;(show e.p [] M w (Array.getD _ t undef);rw [hfold];rcases Sc hpl he with ⟨i,h5,h6⟩ | ⟨h5,h6⟩);(have h7:=hf.get i e h6;have hi:i < vs.length:=by rw [hvl];exact (LU.1 h6).1);(have htn:t < n:=by have:=L5.1 hpn t (L8 h5);exact L6 this);rw [CC pts vs tm i (vs.getD i undef) hpd h5 (by simp [hi]) (by rw [htm];exact htn)];exact h7;rw [Vu pts vs tm h5];exact hT t e h6;show Array.size _=n;rw [hfold,Ui,htm]);let ⟨φ',h7,_⟩:=base.addG (ks:=KL :: KT :: ks) (by simp [hkl x]) hd how hnd (λq hq=>⟨hFM q hq,.inr hq⟩) (λt ht q hq=>by simp at hq);exact ⟨M,φ',by rw [Cz];exact h7⟩
theorem lQ {f:FuncId} {ps:List Ent} {R:Ent} (h:Sp P f ps R):Sp P f ps R:=h
theorem cj {ops:Array Oper} {rest:List Oper} {d:Option Tmp} {j dj:Nat} {b want:Bool} {op:Op} {ty:TypeId} {pos:String} {ai:Array Edge}
  (hs:St M0 w0 n Γ a w) (hj:(ops[j]?).bind (·.dst)=some dj) (hl:Ao Γ dj=some (Va b)) (hb:b=want)
  (k:wpListIn (Fr rr) 0 P ops Q (⟨d,op,ty,pos,ai,none⟩ :: rest) a w):wpListIn (Fr rr) 0 P ops Q (⟨d,op,ty,pos,ai,some (j,want)⟩ :: rest) a w:=by let ⟨M,φ,h⟩:=hs;have hyb:=Bn hj (Va.bool (h.holds dj _ hl));unfold wpListIn at k ⊢;rw [if_pos (by simp [Region.wanted])] at k;rw [if_pos (by simp [Region.wanted,hyb,hb])];exact k
theorem Sh {ops:Array Oper} {rest:List Oper} {d j dj:Nat} {b want:Bool} {op:Op} {ty:TypeId} {pos:String} {ai:Array Edge}
  (hs:St M0 w0 n Γ a w) (hj:(ops[j]?).bind (·.dst)=some dj) (hl:Ao Γ dj=some (Va b)) (hb:b=!want) (hn:Nat.blt d n=true)
  (k:∀ a' w',St M0 w0 n ((d,Dd) :: Γ) a' w'->wpListIn (Fr rr) 0 P ops Q rest a' w'):wpListIn (Fr rr) 0 P ops Q (⟨some d,op,ty,pos,ai,some (j,want)⟩ :: rest) a w:=by
 let ⟨M,φ,h⟩:=hs;have hyb:=Bn hj (Va.bool (h.holds dj _ hl));have hne:b≠want:=by subst hb; cases want <;> simp
 unfold wpListIn;rw [if_neg (by simp [Region.wanted,hyb,hne])];exact ⟨λ_ _=>trivial,k _ _ (by unfold St;rw [Aj];exact h.gives ⟨Ext.refl _ _,[],ND,λk hk=>by simp at hk,rfl⟩ (L6 hn))⟩
theorem pF {c x y:Operand} {b:Bool} {e:Ent} (hc:Od Γ c (Va b)) (hb:b=false) (hy:Od Γ y e) [z:Zf e]:OR P (.pick c x y) ty Γ e:=by refine OR.val λρ M w r=>?_;let ⟨_,h⟩:=hc ρ M w r;let ⟨F,h2⟩:=hy ρ M w r;obtain rfl:=z.z h2;exact ⟨ρ y,λ_ _ _ _=>by simp only [execOp,Va.bool h,hb];rfl,h2⟩
theorem pkT {c x y:Operand} {b:Bool} {e:Ent} (hc:Od Γ c (Va b)) (hb:b=true) (hx:Od Γ x e) [z:Zf e]:OR P (.pick c x y) ty Γ e:=by refine OR.val λρ M w r=>?_;let ⟨_,h⟩:=hc ρ M w r;let ⟨F,h2⟩:=hx ρ M w r;obtain rfl:=z.z h2;exact ⟨ρ x,λ_ _ _ _=>by simp only [execOp,Va.bool h,hb];rfl,h2⟩
theorem cT {α:Type} {b:Bool} {x y:Option α} {r:α} (h:(bif b then x else y)=some r):(b=true/\x=some r)\/(b=false/\y=some r):=by cases b;exact .inr ⟨rfl,h⟩;exact .inl ⟨rfl,h⟩
def lN (P:Program) (Q:Exit->Act->World->Prop) (js:List Code) (j:Nat) (a:Act) (w:World):Prop:=
 match dU js j with
 | none=>Q .normal a w
 | some c=>c.wpIn (Fr none) 0 P Q a w
theorem af0 {js:List Code} {j:Nat} (hj:(j == 0)=true) (h:Q .normal a w):lN P Q js j a w:=by
 have:j=0:=by simpa using hj
 subst this;exact h
theorem af1 {js:List Code} {j k:Nat} {c:Code} (hj:(j == k + 1)=true) (hc:js[k]?=some c) (h:c.wpIn (Fr none) 0 P Q a w):lN P Q js j a w:=by
 have:j=k + 1:=by simpa using hj
 subst this;unfold lN dU;simp only [hc];exact h
theorem St.marked {D:Nat} (h:St M0 w0 n Γ a w):St (mf D M0) w0 n Γ { a with defers:=fU D :: a.defers } w:=by let ⟨M,φ,h⟩:=h;exact ⟨M,φ,h.holds,h.own,h.apart,h.sub,h.bd,h.fr,h.sz,by show _ :: a.defers=_ :: M0.ds;rw [h.df]⟩
def lH (Γt:Cx):Prop:=∀ t e,Ao Γt t=some e->∀ {F M w v},e.p F M w v->F=[]
theorem jX:lH []:=λt e h=>by simp [Ao] at h
theorem cZ {t:Nat} {e:Ent} {Γt:Cx} [z:Zf e] (h:lH Γt):lH ((t,e) :: Γt):=λs x hx=>by
 rw [Aj] at hx;unfold put at hx;split at hx
 ·cases hx;exact z.z
 ·exact h s x hx
theorem rfo {g:Operand} {ps:Array Tmp} {asx bd:Code} {f:FuncId} {fs cs:QS} {p1 p2:List Ent} {α X σ:Type} {pe:α->List Ent} {eo:Ent} {gb:α->σ×Nat->Option (Bool×(σ×Nat))} {r:σ×Nat} (Γt:Cx) (js:List Code) (G:σ->X->List Ent) (s0:σ) (x0:X) (KD KL KT:Nat) (ks:QR)
  (hM:Bd M0 w0) (hs:St M0 w0 n Γ a w) (hg:Od Γ g (Qv (fv f fs cs))) (h1:dJ Γ fs p1) (h2:dJ Γ cs p2) (hG:Kg (Ao Γ) ks (G s0 x0))
  (hd:be (KD :: KL :: KT :: ks)=true) (hkl:∀ s x,ks.length=(G s x).length) (hΓt:∀ t e,Ao Γt t=some e->Ao Γ t=some e) (hz:lH Γt) (hKD:Ao Γ KD=none) (hKL:Ao Γ KL=none) (hKT:Ao Γ KT=none)
  (hit:∀ (E:σ×Nat->Ent) [∀ s,Gh (E s)] (_:∀ s,∃ T:List Ent,E s=Pk λx=>T ++ G s.1 x) (l:Nat),(∀ x s r',gb x s=some r'->Cy P l (pe x) [E s] (Rz (λ_:Unit=>Va r'.1) λ_=>[E r'.2]))->Cg P f (p1 ++ ([Qv (yv l)] ++ p2)) [E (s0,0)] (Rz (λ_:Unit=>eo) λ_=>[E r]))
  (hbody:∀ (l fn D:Nat) (tm:Array Value) (htm:tm.size=n) (x:α) (s:σ×Nat) (r':Bool×(σ×Nat)),gb x s=some r'->Cy P l (pe x) [RE l fn D tm ps asx bd Γt js G s] (Rz (λ_:Unit=>Va r'.1) λ_=>[RE l fn D tm ps asx bd Γt js G r'.2]))
  (hafter:∀ (D:Nat) (a:Act) (w:World) (x:X),St (mf D M0) w0 n ((KD,Dk D) :: Li ks (G r.1 x) Γ) a w->lN P Q js r.2 a w) :
  (Code.rangeFunc g ps asx bd).wpIn (Fr none) 0 P Q a w:=by
 refine wpIn_rangeFunc λfn _=>?_;let ⟨d1,d2⟩:=Ay hd;let ⟨d3,d4⟩:=Ay d2;let ⟨d5,d6⟩:=Ay d4;let ⟨M,φ,hs0⟩:=id hs;have htn:a.tmps.size=n:=hs0.sz
 -- the two blocks
 have hs1:St M0 w0 n ((KD,Dk w.heap.size) :: Γ) a (w.alloc (.deferred (some []))):=by
  unfold St;rw [Aj];exact hs0.newb λM'=>⟨rfl,World.alloc_heap_new _ _⟩
 let ⟨M1,φ1,hs1⟩:=hs1;have hs2:St M0 w0 n ((KL,Lr (w.heap.size + 1) (bH fn w.heap.size a.tmps ps asx bd .ready none)) :: (KD,Dk w.heap.size) :: Γ) a ((w.alloc (.deferred (some []))).alloc (.loop (bH fn w.heap.size a.tmps ps asx bd .ready none))):=by
  have:=hs1.newb (k:=KL) (e:=Lr (w.heap.size + 1) (bH fn w.heap.size a.tmps ps asx bd .ready none)) (o:=.loop (bH fn w.heap.size a.tmps ps asx bd .ready none)) λM'=>⟨by simp,by have:=World.alloc_heap_new (w.alloc (.deferred (some []))) (.loop (bH fn w.heap.size a.tmps ps asx bd .ready none));simpa using this⟩;unfold St;rw [Aj];exact this
 let ⟨M2,φ2,hs2⟩:=hs2;have Hl:∀ t e,Ao Γ t=some e->Ao ((KL,Lr (w.heap.size + 1) (bH fn w.heap.size a.tmps ps asx bd .ready none)) :: (KD,Dk w.heap.size) :: Γ) t=some e:=λt e he=>by
  have hne1:t≠KL:=λh=>by subst h;rw [hKL] at he;cases he
  have hne2:t≠KD:=λh=>by subst h;rw [hKD] at he;cases he
  rw [Aj,Aj];simp only [put,if_neg hne1,if_neg hne2];exact he
 have hs3:=hs2.add1 (k:=KT) (e:=Tm a.tmps Γt) (F:=[]) ⟨rfl,λt e he=>by
   have h5:=hs2.holds t e (Hl t e (hΓt t e he));have h6:=hz t e he h5;rw [h6] at h5;exact h5⟩ ND (λq hq=>by simp at hq) (λt _ _ q _ hq=>by simp at hq)
 rw [← Aj] at hs3;have kgΓ:∀ {ks:QR} {es:List Ent},(∀ k∈ks,k≠KT)->Kg (Ao Γ) ks es->Kg (Ao ((KT,Tm a.tmps Γt) :: (KL,Lr (w.heap.size + 1) (bH fn w.heap.size a.tmps ps asx bd .ready none)) :: (KD,Dk w.heap.size) :: Γ)) ks es:=by
  intro ks
  induction ks with
  | nil=>intro es _ h;cases es with
   | nil=>exact trivial
   | cons=>exact h.elim
  | cons k ks ih=>
   intro es hne h;cases es with
   | nil=>exact h.elim
   | cons e es=>exact ⟨⟨by rw [Aj];simp only [put];rw [if_neg (hne k ah)];exact Hl k e h.1.1,h.1.2⟩,ih (λq hq=>hne q (by simp [hq])) h.2⟩
 have hkg:Kg (Ao ((KT,Tm a.tmps Γt) :: (KL,Lr (w.heap.size + 1) (bH fn w.heap.size a.tmps ps asx bd .ready none)) :: (KD,Dk w.heap.size) :: Γ)) (KL :: KT :: ks) (Lr (w.heap.size + 1) (bH fn w.heap.size a.tmps ps asx bd .ready none) :: Tm a.tmps Γt :: G s0 x0):=
  ⟨⟨by rw [Aj,Aj];simp only [put];rw [if_neg (Ne.symm (d3 KT ah))];simp,inferInstance⟩,⟨by rw [Aj];simp [put],inferInstance⟩,kgΓ (λk hk=>d5 k hk) hG⟩
 let ⟨o1,o2,o3,o4⟩:=Kg.owns hs3 hkg d2;have rd0:∀ x e,Od Γ x e->Od ((KT,Tm a.tmps Γt) :: (KL,Lr (w.heap.size + 1) (bH fn w.heap.size a.tmps ps asx bd .ready none)) :: (KD,Dk w.heap.size) :: Γ) x e:=λx e h ρ M w r=>h ρ M w ⟨λt e he=>r.tmp t e (by
   have hne1:t≠KT:=λh=>by subst h;rw [hKT] at he;cases he
   rw [Aj];simp only [put,if_neg hne1];exact Hl t e he),r.con,r.fn,r.bd,r.glo⟩
 have rd3:=hs3.rd;have rdΓ:Rd (Ao Γ) M2 ((w.alloc (.deferred (some []))).alloc (.loop (bH fn w.heap.size a.tmps ps asx bd .ready none))) a.eval:=⟨λt e he=>rd3.tmp t e (by
   have hne1:t≠KT:=λh=>by subst h;rw [hKT] at he;cases he
   rw [Aj];simp only [put,if_neg hne1];exact Hl t e he),rd3.con,rd3.fn,rd3.bd,rd3.glo⟩
 let ⟨_,_,hv⟩:=hg _ _ _ rdΓ;have hcg:=hit (λs=>RE (w.heap.size + 1) fn w.heap.size a.tmps ps asx bd Γt js G s) (λ_=>⟨[_,_],rfl⟩) (w.heap.size + 1) λx s r' hr=>hbody _ fn _ a.tmps htn x s r' hr;have how:Oq M2 ((w.alloc (.deferred (some []))).alloc (.loop (bH fn w.heap.size a.tmps ps asx bd .ready none))) [RE (w.heap.size + 1) fn w.heap.size a.tmps ps asx bd Γt js G (s0,0)] ((KL :: KT :: ks).map (λt=>if t=KT then [] else φ2 t)).flatten:=
  ⟨_,[],by simp,λu=>⟨x0,o1⟩,rfl⟩
 have hcall:=hcg.2 (fs ++ ([yv (w.heap.size + 1)] ++ cs)) M2 _ _ hs3.bd ((h1 _ _ _ rdΓ).app (Up.app (es:=[Qv (yv (w.heap.size + 1))]) ⟨⟨rfl,rfl⟩,trivial⟩ (h2 _ _ _ rdΓ))) how o2 (λk hk=>(o3 k hk).1);refine ⟨w.heap.size + 1,[fU w.heap.size],((w.alloc (.deferred (some []))).alloc (.loop (bH fn w.heap.size a.tmps ps asx bd .ready none))),{ target:=.fn (.func f) cs.toArray,args:=fs.toArray ++ #[yv (w.heap.size + 1)] },((w.alloc (.deferred (some []))).alloc (.loop (bH fn w.heap.size a.tmps ps asx bd .ready none))),f,(fs ++ ([yv (w.heap.size + 1)] ++ cs)).toArray,((w.alloc (.deferred (some []))).alloc (.loop (bH fn w.heap.size a.tmps ps asx bd .ready none))),run_enterLoop_outer fn a.tmps ps asx bd,?_,λ_ _=>trivial,?_,Zo,HF.2 (Calls.mono hcall ?_)⟩
 ·simp only [resolve,rangeCall,hv,Deferred.ofValue];simp [Act.eval,L0]
 ·have hc:=hcg.1;cases hf:P.funcs[f]? with
  | none=>simp [dh,hf] at hc
  | some fn=>
   simp only [dh,hf,L1,M9] at hc;simp only [invoke,callFunc,LZ,run_program,LT,hf,hc.2];have h2:fn.body.isNone=false:=by simpa using hc.1
   have h3:fs.toArray ++ #[yv (w.heap.size + 1)] ++ cs.toArray=(fs ++ ([yv (w.heap.size + 1)] ++ cs)).toArray:=by
    apply Array.ext';simp
   rw [h2,h3];rfl
 ·rintro en w' ⟨v,Fq,rfl,hx,hnd,hF,_,hp,ho⟩;let ⟨Fa,Fb,hFab,hre,hFb⟩:=ho;have hFb:Fb=[]:=hFb;subst hFb;rw [M4] at hFab;subst hFab;let ⟨x,hox⟩:=hre undef;have hc:=hs3.called0 (js:=KL :: KT :: ks) hM hkg d2 hx hnd hF hox (by simp [hkl r.1 x]) d2 λk hk=>hk;let ⟨h5,h6⟩:=hc.putRec (K:=KL) (l:=w.heap.size + 1) (r:=bH fn w.heap.size a.tmps ps asx bd (eW r.2) (dU js r.2)) (r':=bH fn w.heap.size a.tmps ps asx bd .exhausted (dU js r.2)) (by rw [Cz,Pu];simp [put]);have hst:(bH fn w.heap.size a.tmps ps asx bd (eW r.2) (dU js r.2)).state≠.busy:=by
   show eW r.2≠.busy;cases r.2 <;> simp [eW]
  refine ⟨_,_,run_endLoop h5 hst,?_⟩;have:=hafter w.heap.size { a with defers:=[fU w.heap.size] ++ a.defers } _ x (St.marked (StF.less h6 λt e he=>?_))
  ·exact this
  ·have hn:∀ t,t≠KL->t≠KT->∀ {e},Ao (Li (KL :: KT :: ks) (Lr (w.heap.size + 1) (bH fn w.heap.size a.tmps ps asx bd (eW r.2) (dU js r.2)) :: Tm a.tmps Γt :: G r.1 x) ((KT,Tm a.tmps Γt) :: (KL,Lr (w.heap.size + 1) (bH fn w.heap.size a.tmps ps asx bd .ready none)) :: (KD,Dk w.heap.size) :: Γ)) t=some e↔Lh ks (G r.1 x) (put KD (Dk w.heap.size) (Ao Γ)) t=some e:=by
    intro t ht1 ht2 e;rw [Cz,Pu,Pu];have e1:∀ (g:Mp),put KL (Lr (w.heap.size + 1) (bH fn w.heap.size a.tmps ps asx bd (eW r.2) (dU js r.2))) (put KT (Tm a.tmps Γt) g) t=g t:=λg=>by simp only [put,if_neg ht1,if_neg ht2]
    rw [e1];have hg:∀ e,t ∉ ks->((Ao ((KT,Tm a.tmps Γt) :: (KL,Lr (w.heap.size + 1) (bH fn w.heap.size a.tmps ps asx bd .ready none)) :: (KD,Dk w.heap.size) :: Γ)) t=some e↔put KD (Dk w.heap.size) (Ao Γ) t=some e):=λe _=>by
     rw [Aj,Aj,Aj];simp only [put,if_neg ht1,if_neg ht2]
    exact ⟨Fv (hkl r.1 x) (λe h=>(hg e h).1),Fv (hkl r.1 x) (λe h=>(hg e h).2)⟩
   rw [Aj] at he ⊢;simp only [put] at he;by_cases hD:t=KD
   ·rw [if_pos hD] at he;have ht1:t≠KL:=by rw [hD];exact Ne.symm (d1 KL ah)
    have ht2:t≠KT:=by rw [hD];exact Ne.symm (d1 KT ah)
    simp only [put,if_neg ht1];refine (hn t ht1 ht2).2 ?_;have hnk:t ∉ ks:=λh=>d1 t (by simp [h]) hD;have:∀ {ks:QR} {es:List Ent} {g:Mp},t ∉ ks->Lh ks es g t=g t:=by
     intro ks
     induction ks with
     | nil=>intro es g _;unfold Lh;rfl
     | cons k ks ih=>
      intro es g hk;cases es with
      | nil=>unfold Lh;rfl
      | cons e es=>
       unfold Lh;simp only [MH,not_or] at hk;simp only [put,if_neg hk.1];exact ih hk.2
    rw [this hnk];simp only [put,if_pos hD];exact he
   ·rw [if_neg hD] at he;have hsome:∀ K',Ao Γ K'=none->K' ∉ ks->Ao (Li ks (G r.1 x) Γ) K'=none:=by
     intro K' h7 h8;rw [Cz];have:∀ {ks:QR} {es:List Ent} {g:Mp},K' ∉ ks->Lh ks es g K'=g K':=by
      intro ks
      induction ks with
      | nil=>intro es g _;unfold Lh;rfl
      | cons k ks ih=>
       intro es g hk;cases es with
       | nil=>unfold Lh;rfl
       | cons e es=>
        unfold Lh;simp only [MH,not_or] at hk;simp only [put,if_neg hk.1];exact ih hk.2
     rw [this h8];exact h7
    have ht1:t≠KL:=λh=>by subst h;rw [hsome t hKL (λhm=>d3 t (by simp [hm]) rfl)] at he;cases he
    have ht2:t≠KT:=λh=>by subst h;rw [hsome t hKT (λhm=>d5 t hm rfl)] at he;cases he
    simp only [put,if_neg ht1];refine (hn t ht1 ht2).2 ?_;rw [Cz] at he;exact Fv (hkl r.1 x) (λe _ h=>by simp only [put,if_neg hD];exact h) he
theorem fh {K:Fm} {fn:Func} {R:Ending->World->Prop} {tm:Array Value} {ds:List Deferred} {D KD:Nat} (hs:St (mf D K) w0 n Γ a w) (hk:Ao Γ KD=some (Dk D)) (htm:a.tmps=tm) (hds:a.defers=ds)
  (h:∀ a w,a.tmps=tm->St K w0 n ((KD,Dd) :: Γ) a w->LeavesInM (Fr none) 0 P fn tm R a.defers .returning w):LeavesInM (Fr none) 0 P fn tm R ds .returning w:=by
 let ⟨M,φ,h0⟩:=hs;have hdf:=h0.df;rw [hds] at hdf;subst hdf;let ⟨hF,hc⟩:=h0.holds KD _ hk;have hlt:=(L3.1 hc).1;refine ⟨by simp,.inl ⟨D,_,rfl,run_takeDeferred hc,?_⟩⟩;refine h { a with defers:=K.ds } _ htm ?_;have hx:Ext (λk=>k=D) w (w.putObj D (.deferred none)):=⟨rfl,rfl,rfl,by simp,λq _ hq=>World.putObj_heap_other hq,MG _⟩;have hko:=h0.own KD (by rw [hk];rfl);have hDF:D∈φ KD:=by rw [hF];simp
 refine ⟨M,λt=>if t=KD then [] else φ t,λt e he=>?_,λt ht=>?_,λt s hts ht hs=>?_,h0.sub,λk hk=>NG (h0.bd k hk) hx.size,?_,h0.sz,rfl⟩
 ·rw [Aj] at he;unfold put at he;by_cases h3:t=KD
  ·subst h3;simp only [if_true,Option.some.injEq] at he ⊢;subst he;rfl
  ·simp only [if_neg h3] at he ⊢;refine Ent.st _ (h0.holds t e he) (hx.mono λk _ hk'=>?_);subst hk';exact ⟨(hko.2 _ hDF).1,λhm=>h0.apart t KD h3 (by rw [he];rfl) (by rw [hk];rfl) _ hm hDF⟩
 ·rw [Aj] at ht;unfold put at ht;by_cases h3:t=KD
  ·simp [h3]
  ·simp only [if_neg h3] at ht ⊢;exact h0.own t ht
 ·rw [Aj] at ht hs;unfold put at ht hs;by_cases h3:t=KD
  ·simp [h3]
  ·by_cases h4:s=KD
   ·simp [h4]
   ·simp only [if_neg h3,if_neg h4] at ht hs ⊢;exact h0.apart t s hts ht hs
 ·have hD2:=(hko.2 _ hDF).2;exact ⟨hx.os.trans h0.fr.os,hx.tape.trans h0.fr.tape,hx.output.trans h0.fr.output,NA h0.fr.size hx.size,λk hk hb=>
   (hx.block k (NG hk h0.fr.size) (λe=>by subst e;exact hD2.elim (λh=>absurd hk aa) hb)).trans (h0.fr.block k hk hb),NA h0.fr.dr hx.dr⟩
theorem j2 {g:Operand} {ps:Array Tmp} {asx bd:Code} {f:FuncId} {fs cs:QS} {p1 p2:List Ent} {α X σ:Type} {pe:α->List Ent} {eo:Ent} {gb:α->σ×Nat->Option (Bool×(σ×Nat))} {r:σ×Nat} (Γt:Cx) (js:List Code) (G:σ->X->List Ent) (s0:σ) (x0:X) (KD KL KT:Nat) (ks:QR)
  (hM:Bd M0 w0) (hs:St M0 w0 n Γ a w) (hg:Od Γ g (Qv (fv f fs cs))) (h1:dJ Γ fs p1) (h2:dJ Γ cs p2) (hG:Kg (Ao Γ) ks (G s0 x0))
  (hd:be (KD :: KL :: KT :: ks)=true) (hkl:∀ s x,ks.length=(G s x).length) (hΓt:∀ t e,Ao Γt t=some e->Ao Γ t=some e) (hz:lH Γt) (hKD:Ao Γ KD=none) (hKL:Ao Γ KL=none) (hKT:Ao Γ KT=none)
  (hit:∀ (E:σ×Nat->Ent) [∀ s,Gh (E s)] (l:Nat),(∀ x s r',gb x s=some r'->Cy P l (pe x) [E s] (Rz (λ_:Unit=>Va r'.1) λ_=>[E r'.2]))->Cg P f (p1 ++ ([Qv (yv l)] ++ p2)) [E (s0,0)] (Rz (λ_:Unit=>eo) λ_=>[E r]))
  (hbody:∀ (l fn D:Nat) (tm:Array Value) (htm:tm.size=n) (x:α) (s:σ×Nat) (r':Bool×(σ×Nat)),gb x s=some r'->Cy P l (pe x) [RE l fn D tm ps asx bd Γt js G s] (Rz (λ_:Unit=>Va r'.1) λ_=>[RE l fn D tm ps asx bd Γt js G r'.2]))
  (hafter:∀ (D:Nat) (a:Act) (w:World) (x:X),St (mf D M0) w0 n ((KD,Dk D) :: Li ks (G r.1 x) Γ) a w->lN P Q js r.2 a w) :
  (Code.rangeFunc g ps asx bd).wpIn (Fr none) 0 P Q a w:=
 rfo Γt js G s0 x0 KD KL KT ks hM hs hg h1 h2 hG hd hkl hΓt hz hKD hKL hKT (λE _ _ l h=>hit E l h) hbody hafter
end
end
section
open Go.Proofs
section
variable {P:Program} {M0:Fm} {w0:World} {n:Nat} {Γ:Cx} {Q:Exit->Act->World->Prop} {a:Act} {w:World} {ty:TypeId}
theorem lnm {κ ν:Type} [Rep κ] [Rep ν] [FV κ] [FV ν] {T K E KK:Nat} {x:Operand} {r:Nat} {m:List (κ×ν)} (hx:Od Γ x (Qv (.map (some r)))) (hk:Ao Γ KK=some (Om r m)) (hT:Wx P T=some (K,E)):OR P (.call { callee:=.builtin .len,args:=#[x],argTypes:=#[T] }) ty Γ (Va (m.length:Int)):=by (refine OR.val λρ M w rd=>?_;let ⟨_,_,hv⟩:=hx ρ M w rd;let ⟨_,_,es,cl,hc,hm⟩:=rd.tmp _ _ hk;have hg:(getObj r).run P w=.ok (.map es cl) w:=MapKept.run_getObj_map hc;have hl:es.size=m.length:=by have:=congrArg List.length hm;simpa using this);refine ⟨.int .i64 m.length,λ_ _ _ _=>?_,Va.mkInt⟩;simp [execOp,hg,hl,resolve,hv,invoke,builtin,Builtin.len_,run_underlying (Jw hT),goInt]
def Rw (cs:QS):Ent where
 p F M w v:=F=[]/\∃ b,v=.slice (some ⟨b,0,none⟩) cs.length cs.length/\Cls M w b 0 cs
 st h e:=let ⟨hF,b,hv,hc⟩:=h;⟨hF,b,hv,hc.ext (e.mono λ_ _ h=>h.1)⟩
 sb h s:=let ⟨hF,b,hv,hc⟩:=h;⟨hF,b,hv,hc.sub s⟩
theorem pW {T e:Nat} {β:Type} [Rep β] [he:Ea P T e (List β)] {xs:List Operand} {cs:QS} {parts:Array (Nat×Operand)} {len:Nat}
  (h:Cdl Γ xs cs) (hp:parts.toList=bF 0 xs) (hl:cs.length=len) (hs:Nat.ble len 16777216=true):OR P (.buildSlice T len parts) ty Γ (Rw cs):=by
 refine OR.run λρ M w r=>?_;let ⟨h1,h2,h3⟩:=h.map r;let ⟨i,z,hi,hz,hsz,hb,hzs⟩:=he.inf;have hsz:i.size=1:=hsz;have hs':=L6 hs;have hrun:(Instr.buildSlice T len (parts.map λ(i,x)=>(i,ρ x))).run P w=.ok (.slice (some ⟨w.heap.size,0,none⟩) len len) (w.alloc (.cells cs.toArray e)):=by
  have hpm:(parts.map λ(i,x)=>(i,ρ x)).toList=bF 0 (xs.map ρ):=by
   rw [OK,hp];have:∀ (l:List Operand) (k:Nat),List.map (λ(x:Nat×Operand)=>(x.1,ρ x.2)) (bF k l)=bF k (l.map ρ):=by
    intro l
    induction l with
    | nil=>intro k;rfl
    | cons x l ih=>intro k;simp [bF,ih]
   exact this xs 0
  have hfl2:(cs.map λc=>[c]).flatten=cs:=by
   clear hpm h h1 h2 h3 hl
   induction cs with
   | nil=>rfl
   | cons c cs ih=>simp [ih]
  have hfl:∀ zz:QS,zz.length=len * 1->Instr.fill (λi=>some (i * 1,1)) zz.toArray (bF 0 (xs.map ρ))=some cs.toArray:=by
   intro zz hzz;rw [h1];have hfl:=Ld (sz:=1) (vs:=cs) (cs:=cs.map λc=>[c]) (z:=zz) (k:=0) (Vs h2) aa;rw [hfl2] at hfl;simp only [NW,OF,Nat.zero_mul,O7,OJ] at hfl;rw [ML aa,M4] at hfl;simpa using hfl
  have hnot:¬ (len * 1 > 2 ^ 24):=by omega
  simp only [Instr.buildSlice,LZ,run_underlying he.el,LT,sizeOf,typeInfo,run_program,hi,L0,hsz];rw [if_neg hnot];simp only [hpm];by_cases h0:len * 1=0
  ·have hz0:(Array.map (λx=>(#[]:Array Value)[x % (#[]:Array Value).size]!) (Array.range (len * 1)))=([]:QS).toArray:=by rw [h0];simp
   rw [if_pos h0];simp only [LZ,L0,LT,hz0];rw [hfl [] (by rw [h0];rfl)];rfl
  ·have hz1:(Array.map (λx=>z.cells[x % z.cells.size]!) (Array.range (len * 1)))=((Array.map (λx=>z.cells[x % z.cells.size]!) (Array.range (len * 1))).toList).toArray:=P8.symm;rw [if_neg h0];simp only [zeroValue,LZ,typeInfo,run_program,hi,hz,L0,LT];rw [hz1,hfl _ ah];rfl
 refine ⟨.slice (some ⟨w.heap.size,0,none⟩) len len,w.alloc (.cells cs.toArray e),λ_ _ _ _=>by simp only [execOp,LZ,QC,hrun,LT,L0],Ext.alloc _ _ _,[],ND,λk hk=>by simp at hk,rfl,w.heap.size,by rw [hl],λj v hj=>⟨λhm=>?_,?_⟩⟩
 ·rcases hm with hm | hm
  ·exact absurd (r.bd _ hm) aa
  ·simp at hm
 ·have:(w.alloc (.cells cs.toArray e)).heap[w.heap.size]?=some (.cells cs.toArray e):=heap_alloc_new w _;unfold World.cell?;rw [this];simpa using hj
def Rpl (Γ:Cx) {β:Type} [Rep β]:QS->List (List β)->Prop
 | [],[]=>True
 | c :: cs,x :: xs=>Rp Γ [c] x/\Rpl Γ cs xs
 | _,_=>False
theorem rl0 {β:Type} [Rep β]:Rpl Γ [] ([]:List (List β)):=trivial
theorem rl1 {β:Type} [Rep β] {c:Value} {cs:QS} {x:List β} {xs:List (List β)} (h:Rp Γ [c] x) (r:Rpl Γ cs xs):Rpl Γ (c :: cs) (x :: xs):=⟨h,r⟩
theorem Rpl.chk {β:Type} [Rep β] {ρ:Operand->Value} {M:Nat->Prop} {w:World} (rd:Rd (Ao Γ) M w ρ):∀ {cs:QS} {xs:List (List β)},Rpl Γ cs xs->Chk M w cs xs/\xs.length=cs.length
 | [],[],_=>⟨rfl,rfl⟩
 | c :: cs,x :: xs,⟨h,r⟩=>by
  let ⟨h1,h2⟩:=r.chk rd;exact ⟨⟨[c],cs,rfl,h ρ M w rd,h1⟩,by simp [h2]⟩
 | [],_ :: _,h=>h.elim
 | _ :: _,[],h=>h.elim
theorem pB {β:Type} [Rep β] {x:Operand} {cs:QS} {xss:List (List β)} (hx:Od Γ x (Rw cs)) (h:Rpl Γ cs xss):Od Γ x (Va xss):=λρ M w r=>by
 let ⟨_,_,b,hv,hc⟩:=hx ρ M w r;let ⟨h1,h2⟩:=h.chk r;exact ⟨[],by rw [hv,← h2];exact Va.mkList ⟨_,0,by rw [NW],.inr ⟨b,0,rfl,h1.row hc⟩⟩⟩
@[reducible] def Sm {α β:Type} (r:α ⊕ β) (E0:α->Ent) (E1:β->Ent):Ent:=match r with | .inl a=>E0 a | .inr b=>E1 b
end
end
section
variable {rr:Option Nat}
section
variable {P:Program} {M0:Fm} {w0:World} {n:Nat} {Γ:Cx} {Q:Exit->Act->World->Prop} {a:Act} {w:World} {ty:TypeId}
def Cda (Γ:Cx):List Operand->List QS->Prop
 | [],[]=>True
 | x :: xs,c :: cs=>Od Γ x (Qa c)/\Cda Γ xs cs
 | _,_=>False
theorem ca0:Cda Γ [] []:=trivial
theorem ca1 {x:Operand} {c:QS} {xs:List Operand} {cs:List QS} (h:Od Γ x (Qa c)) (r:Cda Γ xs cs):Cda Γ (x :: xs) (c :: cs):=⟨h,r⟩
theorem Cda.map {ρ:Operand->Value} {M:Nat->Prop} {w:World} (rd:Rd (Ao Γ) M w ρ):∀ {xs:List Operand} {cs:List QS},Cda Γ xs cs->xs.map ρ=cs.map (λc=>.agg c.toArray)/\(∀ c∈cs.flatten,c.oneCell'=true)/\xs.length=cs.length
 | [],[],_=>⟨rfl,λc hc=>by simp at hc,rfl⟩
 | _ :: _,_ :: _,⟨h,r⟩=>by
  let ⟨_,_,hv,h1⟩:=h ρ M w rd;let ⟨r1,r2,r3⟩:=r.map rd;refine ⟨by rw [MF,hv,r1];rfl,λc hc=>?_,by simp [r3]⟩;rw [QN] at hc;rcases MC.1 hc with hc | hc
  ·exact h1 c hc
  ·exact r2 c hc
theorem B4 {sz:Nat}:∀ {cs:List QS},(∀ c∈cs,c.length=sz)->eO sz (cs.map λc=>.agg c.toArray) cs
 | [],_=>trivial
 | c :: cs,h=>⟨rfl,h c (NL ..),B4 λd hd=>h d (M8 _ hd)⟩
theorem pX {T e len sz:Nat} {parts:Array (Nat×Operand)} {xs:List Operand} {css:List QS} {cs z:QS} (hp:parts.toList=bF 0 xs) (h:Cda Γ xs css) (hT:P.underlying T=some (.array len e)) (hz:(P.info? T).map (·.zero)=some (some (.agg z.toArray))) (he:(P.info? e).map (·.size)=some sz) (hl:z.length=css.length * sz)
  (hs:css.all (λc=>c.length == sz)=true) (hcs:css.flatten=cs) :
  OR P (.build T parts) ty Γ (Qa cs):=by
 refine OR.val λρ M w r=>?_;let ⟨h1,h2,h3⟩:=h.map r;refine ⟨.agg cs.toArray,λ_ _ _ _=>?_,rfl,rfl,by rw [← hcs];exact h2⟩;cases hi:P.info? T with
 | none=>simp [hi] at hz
 | some i=>
  cases hie:P.info? e with
  | none=>simp [hie] at he
  | some ie=>
   simp only [hi,hie,Option.map_some,Option.some.injEq] at hz he;have hpm:(parts.map λ(i,x)=>(i,ρ x)).toList=bF 0 (css.map λc=>.agg c.toArray):=by
    rw [OK,hp];have:∀ (l:List Operand) (k:Nat),List.map (λ(x:Nat×Operand)=>(x.1,ρ x.2)) (bF k l)=bF k (l.map ρ):=by
     intro l
     induction l with
     | nil=>intro k;rfl
     | cons x l ih=>intro k;simp [bF,ih]
    rw [← h1];exact this xs 0
   have hsz:∀ c∈css,c.length=sz:=λc hc=>by simpa using L5.1 hs c hc
   have hfl:=Ld (sz:=sz) (vs:=css.map λc=>.agg c.toArray) (cs:=css) (z:=z) (k:=0) (B4 hsz) (by simp [hl]);simp only [NW,Nat.zero_mul,O7,OJ,L9] at hfl;rw [ML aa,M4,hcs] at hfl;simp only [execOp,Instr.build,zeroValue,typeInfo,LZ,run_program,LT,hi,L0,hz,run_underlying hT,sizeOf,hie,he,Value.cells,hpm];rw [hfl];rfl
theorem H6 {T sz:TypeId} {xs:Array Value} {o:Nat} {w:World} (h:(P.underlying T).map Ce=some true) (hs:(P.info? T).map (·.size)=some sz):(part T xs o).run P w=.ok (.agg (xs.extract o (o + sz))) w:=by
 have hr:(sizeOf T).run P w=.ok sz w:=by
  cases hie:P.info? T with
  | none=>simp [hie] at hs
  | some i=>simp [hie] at hs;simp [sizeOf,typeInfo,hie,hs]
 simp only [part,LZ,Ty.run_agg h,LT];simp [hr]
theorem gM {T e len sz:Nat} {x i:Operand} {m:Int} {j:Nat} {cs:QS} {cols:List QS} (h:Od Γ x (Qa cs)) (hi:Od Γ i (Va m)) (hT:P.underlying T=some (.array len e)) (he:(P.info? e).map (·.size)=some sz) (ha:(P.underlying e).map Ce=some true)
  (hc:((List.range len).map λk=>(cs.drop (k * sz)).take sz)=(List.range len).map λk=>cols.map (Sy k)) (hy:idx (List.range len) m=some j):OR P (.index T x i) ty Γ (Qa (cols.map (Sy j))):=by
 refine OR.val λρ M w r=>?_;let ⟨_,_,hv,h1⟩:=h ρ M w r;let ⟨_,h2⟩:=hi ρ M w r;let ⟨hjl,h0,hlt,hj⟩:=dC hy;have hr:(sizeOf e).run P w=.ok sz w:=by
  cases hie:P.info? e with
  | none=>simp [hie] at he
  | some i=>simp [hie] at he;simp [sizeOf,typeInfo,hie,he]
 have hcj:(cs.drop (j * sz)).take sz=cols.map (Sy j):=by
  have:=congrArg (λl=>l[j]?) hc;simpa [L7,ME hjl] using this
 have hp:=H6 (P:=P) (xs:=cs.toArray) (o:=j * sz) (w:=w) ha he;refine ⟨.agg (cs.toArray.extract (j * sz) (j * sz + sz)),λ_ _ _ _=>?_,rfl,?_,?_⟩
 ·simp only [execOp,hv,Va.int h2,Instr.index,LZ,asIntOf,L0,LT,run_underlying hT];simp [h0,hlt,hr,hj,hp]
 ·rw [← hcj];congr 1;simp [List.extract_eq_take_drop]
 ·rw [← hcj];exact λc hc=>h1 c (QB (QA hc))
theorem qB {x:Operand} {j:Nat} {cs:QS} {xs:QP} (h:Od Γ x (Qv (Sy j cs))) (hc:cs=xs.map λz=>.int .i64 z) (hj:j < xs.length):Od Γ x (Va (xs.getD j 0)):=λρ M w r=>by
 let ⟨F,hF,hv⟩:=h ρ M w r;refine ⟨F,hF,[.int .i64 (xs.getD j 0)],?_,rfl⟩;rw [hv,hc];simp [Sy,hj,mk]
theorem jB {S k off:Nat} {x:Operand} {cs:QS} {c:Value} (h:Od Γ x (Qa cs)) (hf:(match P.underlying S with | some (.struct fs)=>(fs[k]?).map λf=>(f.offset,(P.underlying f.type).map Ce) | _=>none)=some (off,some false)) (hc:cs[off]?=some c):OR P (.field S x k) ty Γ (Qv c):=by
 refine OR.val λρ M w r=>?_;let ⟨_,_,hv,_⟩:=h ρ M w r;refine ⟨c,λ_ _ _ _=>?_,rfl,rfl⟩;cases hu:P.underlying S with
 | none=>simp [hu] at hf
 | some d=>
  cases d with
  | struct fs=>
   simp only [hu] at hf;cases hk:fs[k]? with
   | none=>simp [hk] at hf
   | some f=>
    simp only [hk,Option.map_some,Option.some.injEq,Prod.mk.injEq] at hf;let ⟨h1,h2⟩:=hf;subst h1;have hp:=Bp (P:=P) (T:=f.type) (xs:=cs.toArray) (o:=f.offset) (v:=c) (w:=w) h2 (by simpa using hc);simp only [execOp,hv,Instr.field,LZ,run_underlying hu,LT,hk,asAgg,L0,hp]
  | _=>simp [hu] at hf
end
end
section
variable {rr:Option Nat}
def dF {α:Type} (xs:List α) (lo hi:Nat) (ys:List α):List α:=xs.take lo ++ (ys.take (min (hi - lo) ys.length) ++ xs.drop (lo + min (hi - lo) ys.length))
def my (lo hi len:Int):Option (Nat×Nat):=if 0<=lo/\lo<=hi/\hi<=len then some (lo.toNat,hi.toNat) else none
def mD (c:Value) (lo hi:Nat):Ent where
 p F _ _ v:=F=[]/\lo<=hi/\∃ A len cap cap',c=.slice A len cap/\hi<=len/\((lo=hi/\∃ A',v=.slice A' 0 cap')\/∃ g,A=some ⟨g,0,none⟩/\v=.slice (some ⟨g,lo,none⟩) (hi - lo) (cap' + (hi - lo)))
 st h _:=h
 sb h _:=h
section
variable {P:Program} {M0:Fm} {w0:World} {n:Nat} {Γ:Cx} {Q:Exit->Act->World->Prop} {a:Act} {w:World} {ty:TypeId}
theorem Ow.num {e:Nat} {c:Value} {xs:QP} {F:QR} {M:Nat->Prop} {w:World} {v:Value} (h:(Ow e c xs).p F M w v) :
  (xs=[]/\∃ A cap,c=.slice A 0 cap)\/∃ g cap cur,F=[g]/\c=.slice (some ⟨g,0,none⟩) xs.length cap/\w.heap[g]?=some (.cells cur e (0,0))/\xs.length<=cap/\cap<=maxLen/\cur.size=cap/\cur.toList.take xs.length=xs.map (Value.int .i64):=by
 obtain ⟨hF,cs,ho,hc⟩ | ⟨hF,rfl,g,rfl⟩:=h
 case inr=>exact .inl ⟨rfl,_,_,rfl⟩
 have hcs:cs=xs.map (Value.int .i64):=by
  clear ho
  induction xs generalizing cs with
  | nil=>exact hc
  | cons x xs ih=>
   let ⟨c1,d,h1,h2,h3⟩:=hc;have h2:c1=[.int .i64 x]:=h2;subst h2 h1;rw [ih _ h3];rfl
 rcases ho.2 with ⟨rfl,h0⟩ | ⟨g,cap,cur,rfl,_,hg,hle,hcap,hsz,htk⟩
 ·exact .inl ⟨List.eq_nil_of_length_eq_zero h0,none,0,rfl⟩
 ·refine .inr ⟨g,cap,cur,by rw [hF];rfl,rfl,hg,hle,hcap,by rw [hsz];exact OF _,?_⟩;rw [← hcs,← htk];show _=cur.toList.take (xs.length * 1);rw [OF]
theorem Ow.mkNum {e g cap:Nat} {cur:Array Value} {xs:QP} {M:Nat->Prop} {w:World} {v:Value} (hg:w.heap[g]?=some (.cells cur e (0,0))) (hle:xs.length<=cap) (hcap:cap<=maxLen) (hsz:cur.size=cap) (ht:cur.toList.take xs.length=xs.map (Value.int .i64)) :
  (Ow e (.slice (some ⟨g,0,none⟩) xs.length cap) xs).p [g] M w v:=by
 refine .inl ⟨rfl,xs.map (Value.int .i64),⟨by rw [L9];exact (OF _).symm,.inr ⟨g,cap,cur,rfl,NN _,hg,hle,hcap,by rw [hsz];exact (OF _).symm,?_⟩⟩,?_⟩
 ·show cur.toList.take (xs.length * 1)=_;rw [OF];exact ht
 ·clear hle ht
  induction xs with
  | nil=>rfl
  | cons x xs ih=>exact ⟨[.int .i64 x],_,rfl,rfl,ih⟩
theorem qe {T e:TypeId} {x:Operand} {lo hi:Option Operand} {c:Value} {k:Nat} {xs:QP} {l h:Int} {r:Nat×Nat} (he:P.underlying T=some (.slice (P.elem T))) (hs:(P.info? (P.elem T)).map (·.size)=some 1) (hx:Od Γ x (Qv c)) (hk:Ao Γ k=some (Ow e c xs))
  (hb:(lo=none/\l=0/\∃ y,hi=some y/\Od Γ y (Va h))\/(∃ y,lo=some y/\Od Γ y (Va l)/\hi=none/\h=xs.length)) (hr:my l h xs.length=some r):OR P (.slice T x lo hi none) ty Γ (mD c r.1 r.2):=by
 unfold my at hr;split at hr
 case isFalse=>cases hr
 rename_i hc;obtain rfl:=Option.some.inj hr;refine OR.val λρ M w rd=>?_;let ⟨_,_,hv⟩:=hx ρ M w rd;let ⟨F,hp⟩:=rd.tmp _ _ hk;obtain ⟨ad,cap,hcv,hcc⟩:∃ ad cap,c=.slice ad xs.length cap/\(xs=[]\/∃ g,ad=some ⟨g,0,none⟩/\xs.length<=cap):=by
  rcases Ow.num hp with ⟨h0,A,cap,hA⟩ | ⟨g,cap,cur,_,h1,_,h2,_⟩
  ·exact ⟨A,cap,by rw [hA,h0];rfl,.inl h0⟩
  ·exact ⟨_,cap,h1,.inr ⟨g,rfl,h2⟩⟩
 have hsz:∀ w,(sizeOf (P.elem T)).run P w=.ok 1 w:=λw=>by
  cases hie:P.info? (P.elem T) with
  | none=>simp [hie] at hs
  | some i=>simp [hie] at hs;simp [sizeOf,typeInfo,hie,hs]
 refine ⟨sliced ad l.toNat h.toNat cap 1,λ_ _ _ _=>?_,?_⟩
 ·rcases hb with ⟨rfl,rfl,y,rfl,hy⟩ | ⟨y,rfl,hy,rfl,rfl⟩
  ·let ⟨_,hy2⟩:=hy ρ M w rd;have hle:h<=cap:=by
    rcases hcc with h0 | ⟨_,_,h2⟩
    ·rw [h0] at hc;simp at hc;omega
    ·omega
   have:=run_slice_h w T ad xs.length cap he .i64 h hc.2.1 hle;simp only [execOp,hv,hcv,PA,Option.map_some,Va.int hy2,LZ];rw [run_sliceAt_slice _ _ _ _ _ _ he,this,hsz];try rfl
  ·let ⟨_,hy2⟩:=hy ρ M w rd;have:=run_slice_l w T ad xs.length cap he .i64 l hc.1 hc.2.1;simp only [execOp,hv,hcv,PA,Option.map_some,Va.int hy2,LZ];rw [run_sliceAt_slice _ _ _ _ _ _ he,this,hsz];try simp
 ·refine ⟨rfl,by show l.toNat<=h.toNat;omega,ad,xs.length,cap,cap - h.toNat,hcv,by show h.toNat<=_;omega,?_⟩;rcases hcc with h0 | ⟨g,rfl,h2⟩
  ·have:(xs.length:Int)=0:=by rw [h0];rfl
   have h3:l.toNat=0:=by omega
   have h4:h.toNat=0:=by omega
   exact .inl ⟨by show l.toNat=h.toNat;omega,_,by unfold sliced;rw [h3,h4]⟩
  ·by_cases hl:l.toNat=h.toNat
   ·exact .inl ⟨hl,_,by unfold sliced;rw [hl,PB]⟩
   ·refine .inr ⟨g,rfl,?_⟩;unfold sliced;rw [if_neg aa];simp [Cf];omega
theorem fB {T T':TypeId} {A:Option Addr} {dl dc:Nat} {y:Value} (he:P.underlying T=some (.slice (P.elem T))) (hs:(P.info? (P.elem T)).map (·.size)=some 1) {M:Nat->Prop} {ys:QP} (hy:Sl M w y ys) (h0:min dl ys.length=0) :
  (Builtin.copy_ #[T,T'] ty #[.slice A dl dc,y]).run P w=.ok (goInt 0) w:=by
 obtain ⟨a,cap,rfl,hs'⟩:=hy;cases hie:P.info? (P.elem T) with
 | none=>simp [hie] at hs
 | some i=>
  have hi:i.size=1:=by simpa [hie] using hs
  have h1:Nat.min ys.length dl=0:=by rw [Nat.min_comm] at h0;exact h0
  cases a <;> cases A <;> simp [Builtin.copy_,run_underlying he,Builtin.lenOf,Builtin.firstCells,sizeOf,typeInfo,hie,hi,h1,storeCells,loadCells,loadCellsFrom]
theorem gz {xs ys:QP} {lo hi cap:Nat} {cur:Array Value} (hlo:lo<=hi) (hhi:hi<=xs.length) (hle:xs.length<=cap) (hsz:cur.size=cap) (ht:cur.toList.take xs.length=xs.map (Value.int .i64)) :
  ((cur.toList.take lo ++ (ys.take (min (hi - lo) ys.length)).map (Value.int .i64) ++ cur.toList.drop (lo + ((ys.take (min (hi - lo) ys.length)).map (Value.int .i64)).length)).toArray.toList.take xs.length)=(dF xs lo hi ys).map (Value.int .i64):=by
 have hm:((ys.take (min (hi - lo) ys.length)).map (Value.int .i64)).length=min (hi - lo) ys.length:=by rw [L9,NU];omega
 rw [hm];simp only [dF];generalize hmm:min (hi - lo) ys.length=m;have hm2:m<=hi - lo:=by omega
 have hm4:m<=ys.length:=by omega
 have hcl:cur.toList.length=cap:=by simp [hsz]
 have hA:(cur.toList.take lo).length=lo:=by rw [NU];omega
 have hB:((ys.take m).map (Value.int .i64)).length=m:=by rw [L9,NU];omega
 have hC:(xs.take lo).length=lo:=by rw [NU];omega
 have hD:(ys.take m).length=m:=by rw [NU];omega
 have e1:cur.toList.take lo=(xs.take lo).map (Value.int .i64):=by
  rw [List.map_take,← ht,List.take_take,Nat.min_eq_left aa]
 have e2:(cur.toList.drop (lo + m)).take (xs.length - (lo + m))=(xs.drop (lo + m)).map (Value.int .i64):=by
  rw [List.map_drop,← ht,List.drop_take]
 show List.take xs.length (cur.toList.take lo ++ (ys.take m).map (Value.int .i64) ++ cur.toList.drop (lo + m))=_;rw [List.take_append,LW,hA,hB,e2,NK (by rw [LW,hA,hB];omega),e1];simp [NY]
theorem gw {xs ys:QP} {lo hi:Nat} (hlo:lo<=hi) (hhi:hi<=xs.length):(dF xs lo hi ys).length=xs.length:=by simp [dF];omega
theorem iY {T T':TypeId} {e g cap lo hi dc:Nat} {cur:Array Value} {xs ys:QP} {A2:Option Addr} {c2:Nat} (he:P.underlying T=some (.slice (P.elem T))) (hs:(P.info? (P.elem T)).map (·.size)=some 1)
  (hg:w.heap[g]?=some (.cells cur e (0,0))) (hle:xs.length<=cap) (hsz:cur.size=cap) (hlo:lo<=hi) (hhi:hi<=xs.length) (hm:min (hi - lo) ys.length≠0) (hsrc:∃ b o,A2=some ⟨b,o,none⟩/\∀ (j:Nat) y,ys[j]?=some y->w.cell? ⟨b,o + j,none⟩=some (.int .i64 y)) :
  (Builtin.copy_ #[T,T'] ty #[.slice (some ⟨g,lo,none⟩) (hi - lo) dc,.slice A2 ys.length c2]).run P w =
   .ok (goInt ((min (hi - lo) ys.length:Nat):Int)) (w.setRow g (cur.toList.take lo ++ (ys.take (min (hi - lo) ys.length)).map (Value.int .i64) ++ cur.toList.drop (lo + ((ys.take (min (hi - lo) ys.length)).map (Value.int .i64)).length)).toArray):=by (obtain ⟨b,o,rfl,hsrc⟩:=hsrc;have hl:((ys.take (min (hi - lo) ys.length)).map (Value.int .i64)).length=min (hi - lo) ys.length:=by rw [L9,NU];omega);have:=run_copy_row (P:=P) w T T' ty (P.elem T) g lo (hi - lo) dc ⟨b,o,none⟩ ys.length c2 cur e ((ys.take (min (hi - lo) ys.length)).map (Value.int .i64)) he hs hg (by rw [hl];exact Nat.min_comm _ _) (λj v hj=>by rw [L7] at hj;obtain ⟨y,hy,rfl⟩:=O9.1 hj;rw [Cf];refine hsrc j y ?_;rw [List.getElem?_take] at hy;split at hy;exact hy;cases hy) (by rw [hl];omega) (λv hv=>by obtain ⟨y,_,rfl⟩:=MJ.1 hv;rfl);rw [this,hl]
theorem qJ {ops:Array Oper} {rest:List Oper} {T T' e k d:Nat} {x y:Operand} {pos:String} {ai:Array Edge} {c:Value} {lo hi:Nat} {xs ys:QP}
  (he:P.underlying T=some (.slice (P.elem T))) (hs1:(P.info? (P.elem T)).map (·.size)=some 1) (hs:St M0 w0 n Γ a w) (hx:Od Γ x (mD c lo hi)) (hk:Ao Γ k=some (Ow e c xs))
  (hy:∀ F M,(Ow e c xs).p F M w undef->(∀ ρ,Rd (Ao Γ) M w ρ->Sl No w (ρ y) ys\/Sl M w (ρ y) ys)) (hn:Nat.blt d n=true) (hdk:Nat.beq d k=false)
  (cont:∀ a' w',St M0 w0 n ((d,Va ((min (hi - lo) ys.length:Nat):Int)) :: (k,Ow e c (dF xs lo hi ys)) :: Γ) a' w'->wpListIn (Fr rr) 0 P ops Q rest a' w') :
  wpListIn (Fr rr) 0 P ops Q (⟨some d,.call { callee:=.builtin .copy,args:=#[x,y],argTypes:=#[T,T'] },ty,pos,ai,none⟩ :: rest) a w:=by (refine wpListIn_plain rfl λK hK=>?_;let ⟨M,φ,h⟩:=hs;let ⟨_,_,hlh,A,len,cap,cap',hc,hhl,hv⟩:=hx _ _ _ h.rd;have hp:=h.holds k _ hk;have hgh:(Ow e c xs).p (φ k) M w undef:=hp;have hsl:∃ MM,Sl MM w (a.eval y) ys:=by (rcases hy (φ k) M hgh a.eval h.rd with h1 | h1);exact ⟨_,h1⟩;exact ⟨_,h1⟩);(let ⟨MM,hsl⟩:=hsl;have fin:∀ w' (e':Ent),StF M0 w0 n (put k e' (Ao Γ)) a w'->St M0 w0 n ((d,Va ((min (hi - lo) ys.length:Nat):Int)) :: (k,e') :: Γ) (a.put (some d) (.int .i64 ((min (hi - lo) ys.length:Nat):Int))) w':=by intro w' e' ⟨M',φ',h'⟩;unfold St;rw [Aj,Aj];exact h'.gives ⟨Ext.refl _ _,[],ND,λq hq=>by simp at hq,rfl,_,rfl,rfl⟩ (L6 hn));by_cases hm:min (hi - lo) ys.length=0;(have hcp:dF xs lo hi ys=xs:=by simp [dF,hm]);(have hdv:∃ A' dl dc,a.eval x=.slice A' dl dc/\dl=hi - lo:=by (rcases hv with ⟨h1,A',h2⟩ | ⟨g,h1,h2⟩);exact ⟨A',0,cap',h2,by omega⟩;exact ⟨_,_,_,h2,rfl⟩);let ⟨A',dl,dc,hdv,hdl⟩:=hdv;have hr:=fB (P:=P) (T:=T) (T':=T') (ty:=ty) (A:=A') (dl:=dl) (dc:=dc) (w:=w) he hs1 hsl (by rw [hdl];exact hm);refine Bk.upon (Bk.val (v:=.int .i64 0) (w':=w) ?_ ?_);simp only [execOp,resolve,invoke,builtin,LZ,L0,LT,MU,MF,M6,hdv,hr];rfl;refine hK _ _ (cont _ _ ?_);have:=fin w (Ow e c (dF xs lo hi ys)) (StF.less ⟨M,φ,h⟩ λt e he=>by unfold put at he;split at he;rename_i ht;rw [hcp] at he;rw [ht,hk];exact he;exact he);rw [hm] at this ⊢;exact this;(rcases Ow.num hp with ⟨h0,A',cap2,hA⟩ | ⟨g,cap2,cur,hF,hcg,hg,hle,hcap,hsz,htk⟩);rw [hA] at hc;injection hc with _ hl _;omega;(have hcx:=hc;rw [hcg] at hcx;injection hcx with hA hl _;have hdv:a.eval x=.slice (some ⟨g,lo,none⟩) (hi - lo) (cap' + (hi - lo)):=by (rcases hv with ⟨h1,_⟩ | ⟨g',h1,h2⟩);omega;(rw [← hA] at h1;have:g'=g:=by injection h1 with h1;injection h1 with h1;exact h1.symm);rw [h2,this]);(let ⟨A2,c2,hyv,hys⟩:=hsl;have hsrc:∃ b o,A2=some ⟨b,o,none⟩/\∀ (j:Nat) y,ys[j]?=some y->w.cell? ⟨b,o + j,none⟩=some (.int .i64 y):=by (rcases hys with h1 | ⟨b,o,h1,h2⟩);rw [h1] at hm;simp at hm;refine ⟨b,o,h1,λj y hj=>?_⟩;let ⟨cs,hcs,hr⟩:=h2.get hj;have hr:cs=[.int .i64 y]:=hr;subst hr;have:=(hcs 0 _ rfl).2;have hsz1:j * Rep.sz Int=j:=OF j;rw [hsz1] at this;simpa using this);have hr:=iY (P:=P) (T:=T) (T':=T') (ty:=ty) (dc:=cap' + (hi - lo)) (c2:=c2 + ys.length) he hs1 hg hle hsz hlh aa hm hsrc;refine Bk.upon (Bk.val ?_ (v:=.int .i64 ((min (hi - lo) ys.length:Nat):Int)) (w':=w.setRow g (cur.toList.take lo ++ (ys.take (min (hi - lo) ys.length)).map (Value.int .i64) ++ cur.toList.drop (lo + ((ys.take (min (hi - lo) ys.length)).map (Value.int .i64)).length)).toArray) ?_);simp only [execOp,resolve,invoke,builtin,LZ,L0,LT,MU,MF,M6,hdv,hyv,hr];rfl;(refine hK _ _ (cont _ _ (fin _ _ ?_));refine h.write (b:=g) (by rw [hk];rfl) (by rw [hF];simp) (Ext.setRow w g _) ?_;have hlen:=gw (ys:=ys) hlh (show hi<=xs.length by omega);have hcl:cur.toList.length=cap2:=by rw [QF,hsz]);(have hsz2:(cur.toList.take lo ++ (ys.take (min (hi - lo) ys.length)).map (Value.int .i64) ++ cur.toList.drop (lo + ((ys.take (min (hi - lo) ys.length)).map (Value.int .i64)).length)).toArray.size=cap2:=by rw [OP,LW,LW,List.length_drop,L9,NU,NU,hcl];omega);have:=Ow.mkNum (e:=e) (g:=g) (cap:=cap2) (xs:=dF xs lo hi ys) (M:=M) (v:=a.get k) (setRow_heap w g cur _ e _ hg) aa hcap hsz2 (by rw [hlen];exact gz hlh aa hle hsz htk);rw [hF,hcg];rw [hlen] at this;exact this
theorem cpW {ops:Array Oper} {rest:List Oper} {T T' e k d:Nat} {x y:Operand} {pos:String} {ai:Array Edge} {c:Value} {xs ys:QP}
  (hs:St M0 w0 n Γ a w) (hx:Od Γ x (Qv c)) (hk:Ao Γ k=some (Ow e c xs)) (hy:Od Γ y (Va ys)) (he:P.underlying T=some (.slice (P.elem T))) (hs1:(P.info? (P.elem T)).map (·.size)=some 1) (hn:Nat.blt d n=true) (hdk:Nat.beq d k=false)
  (cont:∀ a' w',St M0 w0 n ((d,Va ((min (xs.length - 0) ys.length:Nat):Int)) :: (k,Ow e c (dF xs 0 xs.length ys)) :: Γ) a' w'->wpListIn (Fr rr) 0 P ops Q rest a' w') :
  wpListIn (Fr rr) 0 P ops Q (⟨some d,.call { callee:=.builtin .copy,args:=#[x,y],argTypes:=#[T,T'] },ty,pos,ai,none⟩ :: rest) a w:=
 qJ he hs1 hs (λρ M w r=>by
  let ⟨F,hF,hv⟩:=hx ρ M w r;let ⟨F2,hp⟩:=r.tmp _ _ hk;refine ⟨[],rfl,NN _,?_⟩;rcases Ow.num hp with ⟨h0,A',cap2,hA⟩ | ⟨g,cap2,cur,_,hcg,_,hle,_⟩
  ·exact ⟨A',0,cap2,cap2,hA,by rw [h0];exact MG _,.inl ⟨by rw [h0];rfl,A',by rw [hv,hA]⟩⟩
  ·exact ⟨_,_,cap2,cap2 - xs.length,hcg,MG _,.inr ⟨g,rfl,by rw [hv,hcg,Nat.sub_zero,PH hle]⟩⟩) hk (λF M _ ρ rd=>by
  let ⟨_,h1⟩:=hy ρ M w rd;exact .inr (Va.list h1)) hn hdk cont
theorem cpS {ops:Array Oper} {rest:List Oper} {T T' e k d:Nat} {x y:Operand} {pos:String} {ai:Array Edge} {c:Value} {xs:QP} {lo hi lo2 hi2:Nat}
  (hs:St M0 w0 n Γ a w) (hx:Od Γ x (mD c lo hi)) (hk:Ao Γ k=some (Ow e c xs)) (hy:Od Γ y (mD c lo2 hi2)) (he:P.underlying T=some (.slice (P.elem T))) (hs1:(P.info? (P.elem T)).map (·.size)=some 1) (hn:Nat.blt d n=true) (hdk:Nat.beq d k=false)
  (cont:∀ a' w',St M0 w0 n ((d,Va ((min (hi - lo) ((xs.drop lo2).take (hi2 - lo2)).length:Nat):Int)) :: (k,Ow e c (dF xs lo hi ((xs.drop lo2).take (hi2 - lo2)))) :: Γ) a' w'->wpListIn (Fr rr) 0 P ops Q rest a' w') :
  wpListIn (Fr rr) 0 P ops Q (⟨some d,.call { callee:=.builtin .copy,args:=#[x,y],argTypes:=#[T,T'] },ty,pos,ai,none⟩ :: rest) a w:=
 qJ he hs1 hs hx hk (λF M hp ρ rd=>by
  let ⟨_,_,hlh,A,len,cap,cap',hc,hhl,hv⟩:=hy ρ M w rd;refine .inl ?_;rcases Ow.num hp with ⟨h0,A',cap2,hA⟩ | ⟨g,cap2,cur,hF,hcg,hg,hle,hcap,hsz,htk⟩
  ·rw [hA] at hc;injection hc with _ hl _;rcases hv with ⟨_,A',h2⟩ | ⟨g,_,h2⟩
   ·exact ⟨A',cap',by rw [h2,h0];simp,.inl (by rw [h0];simp)⟩
   ·have e3:hi2 - lo2=0:=by omega
    exact ⟨_,cap',by rw [h2,h0,e3];rfl,.inl (by rw [h0];simp)⟩
  ·rw [hcg] at hc;injection hc with hA hl _;have hlen:((xs.drop lo2).take (hi2 - lo2)).length=hi2 - lo2:=by simp;omega
   rcases hv with ⟨h1,A',h2⟩ | ⟨g',h1,h2⟩
   ·have h3:(xs.drop lo2).take (hi2 - lo2)=[]:=NR aa;exact ⟨A',cap',by rw [h2,h3];rfl,.inl h3⟩
   ·rw [← hA] at h1;have hgg:g'=g:=by injection h1 with h1;injection h1 with h1;exact h1.symm
    subst hgg;refine ⟨_,cap',by rw [h2,hlen],.inr ⟨g',lo2,rfl,Row.of_get λi y hi=>?_⟩⟩;have hsz1:i * Rep.sz Int=i:=OF i;rw [hsz1];refine ⟨[.int .i64 y],λj v hj=>⟨λhno=>hno,?_⟩,rfl⟩;cases j with
    | succ j=>simp at hj
    | zero=>
     simp only [List.getElem?_cons_zero,Option.some.injEq] at hj;subst hj;have hi':i < hi2 - lo2:=by rw [← hlen];exact (LU.1 hi).1
     rw [NM hi',PW] at hi;have h5:cur.toList[lo2 + i]?=some (.int .i64 y):=by
      have h6:(cur.toList.take xs.length)[lo2 + i]?=some (.int .i64 y):=by rw [htk,L7,hi];rfl
      rwa [NM aa] at h6
     simp only [World.cell?,hg,PC];simpa using h5) hn hdk cont
end
end
section
variable {rr:Option Nat}
def Si (b:Nat) (s:QT) (pos:Int):Ent where
 p F _ w _:=F=[b]/\0<=pos/\w.heap[b]?=some (.stringIter s pos.toNat)
 st h e:=by
  obtain ⟨rfl,h0,h⟩:=h;exact ⟨rfl,h0,by rw [e.block b (L3.1 h).1 ah];exact h⟩
 sb h _:=h
def SI (s:QT):Ent where
 p F M w v:=∃ b,v=pb b 0/\(Si b s 0).p F M w v
 st h e:=let ⟨b,hv,h⟩:=h;⟨b,hv,(Si b s 0).st h e⟩
 sb h s':=let ⟨b,hv,h⟩:=h;⟨b,hv,(Si b s 0).sb h s'⟩
def kw (s:QT) (pos:Int):Kd .i32:=⟨((Utf8.decode s pos.toNat).1:Nat)⟩
def dN (s:QT) (pos:Int):Int:=if pos < s.size then pos + (Utf8.decode s pos.toNat).2 else pos
def Nx (s:QT) (pos:Int):Ent where
 p F _ _ v:=F=[]/\(pos < s.size->v=.tuple #[.bool true,.int .i64 pos,.int .i32 (Utf8.decode s pos.toNat).1])/\(¬ pos < s.size->v=.tuple #[.bool false])
 st h _:=h
 sb h _:=h
section
variable {P:Program} {M0:Fm} {w0:World} {n:Nat} {Γ:Cx} {Q:Exit->Act->World->Prop} {a:Act} {w:World} {ty:TypeId}
theorem rgs {T:TypeId} {x:Operand} {s:QT} (hx:Od Γ x (Va s)) (hT:P.underlying T=some .string):OR P (.range T x) ty Γ (SI s):=by refine OR.run λρ M w r=>?_;let ⟨_,hv⟩:=hx ρ M w r;refine ⟨pb w.heap.size 0,w.alloc (.stringIter s 0),λ_ _ _ _=>?_,Ext.alloc _ _ _,[w.heap.size],by simp,λk hk=>?_,w.heap.size,rfl,rfl,QE _,heap_alloc_new w _⟩;simp only [execOp,Va.str hv,LZ,run_range_string w T s hT,LT,L0];rfl;simp at hk;subst hk;exact ⟨Nat.le_refl _,by simp⟩
theorem mM {ops:Array Oper} {rest:List Oper} {d:Nat} {op:Op} {pos:String} {ai:Array Edge} {s:QT} (K:Nat)
  (hs:St M0 w0 n Γ a w) (ho:OR P op ty Γ (SI s)) (hn:Nat.blt d n=true) (hdk:Nat.beq d K=false)
  (k:∀ b a' w',St M0 w0 n ((d,Qv (pb b 0)) :: (K,Si b s 0) :: (d,SI s) :: Γ) a' w'->wpListIn (Fr rr) 0 P ops Q rest a' w'):wpListIn (Fr rr) 0 P ops Q (⟨some d,op,ty,pos,ai,none⟩ :: rest) a w:=
 sq hs ho hn λa' w' s'=>by
  let ⟨M,φ,h⟩:=s';let ⟨b,hv,hb⟩:=h.holds d (SI s) (by simp [Ao]);refine k b a' w' ?_;unfold St;rw [Hl];exact h.split (by simp [Ao]) (NF hdk) ⟨rfl,hv⟩ hb
theorem nxs {ops:Array Oper} {rest:List Oper} {d K:Nat} {x:Operand} {T:TypeId} {p:String} {ai:Array Edge} {b:Nat} {s:QT} {pos:Int}
  (hs:St M0 w0 n Γ a w) (hx:Od Γ x (Qv (pb b 0))) (hk:Ao Γ K=some (Si b s pos)) (hn:Nat.blt d n=true) (hdk:Nat.beq d K=false)
  (k:∀ a' w',St M0 w0 n ((d,Nx s pos) :: (K,Si b s (dN s pos)) :: Γ) a' w'->wpListIn (Fr rr) 0 P ops Q rest a' w'):wpListIn (Fr rr) 0 P ops Q (⟨some d,.next x true,T,p,ai,none⟩ :: rest) a w:=by refine wpListIn_plain rfl λKc hK=>?_;let ⟨M,φ,h⟩:=hs;let ⟨_,_,hv⟩:=hx _ _ _ h.rd;let ⟨hF,h0,hc⟩:=h.holds K _ hk;have hlt:=(L3.1 hc).1;by_cases hp:pos < s.size;(have hp':pos.toNat < s.size:=by omega);(have hrun:(Instr.next (pb b 0) true T).run P w=.ok (.tuple #[.bool true,.int .i64 pos,.int .i32 (Utf8.decode s pos.toNat).1]) { w with heap:=w.heap.setIfInBounds b (.stringIter s (pos.toNat + (Utf8.decode s pos.toNat).2)) }:=by (simp only [Instr.next,getObj,setObj,LZ,Sem.run,hc,Result.andThen,hp',if_true];simp only [goInt,Sem.run];have:((pos.toNat:Nat):Int)=pos:=by omega);simp [this]);refine Bk.upon (Bk.val (v:=.tuple #[.bool true,.int .i64 pos,.int .i32 (Utf8.decode s pos.toNat).1]) (w':={ w with heap:=w.heap.setIfInBounds b (.stringIter s (pos.toNat + (Utf8.decode s pos.toNat).2)) }) ?_ ?_);simp only [execOp,hv,LZ,hrun,LT,L0];(refine hK _ _ (k _ _ ?_);have h1:StF M0 w0 n (put K (Si b s (dN s pos)) (Ao Γ)) a { w with heap:=w.heap.setIfInBounds b (.stringIter s (pos.toNat + (Utf8.decode s pos.toNat).2)) }:=by refine h.write (b:=b) (by rw [hk];rfl) (by rw [hF];simp) ⟨rfl,rfl,rfl,by simp,λq _ hq=>by simp only [OH];rw [if_neg (λe=>hq e.symm)],MG _⟩ ⟨hF,?_,?_⟩;unfold dN;rw [if_pos hp];omega;(have e1:(dN s pos).toNat=pos.toNat + (Utf8.decode s pos.toNat).2:=by unfold dN;rw [if_pos hp];omega);rw [e1];simp only [OH,if_true];rw [if_pos hlt]);let ⟨M',φ',h1⟩:=h1;unfold St;rw [Aj,Aj];exact h1.gives ⟨Ext.refl _ _,[],ND,λq hq=>by simp at hq,rfl,λ_=>rfl,λhh=>absurd hp hh⟩ (L6 hn);(have hp':¬ pos.toNat < s.size:=by omega);(have hrun:(Instr.next (pb b 0) true T).run P w=.ok (.tuple #[.bool false]) w:=by simp [Instr.next,getObj,Sem.run,hc,hp']);refine Bk.upon (Bk.val (v:=.tuple #[.bool false]) (w':=w) ?_ ?_);simp only [execOp,hv,LZ,hrun,LT,L0];(refine hK _ _ (k _ _ ?_);have e1:dN s pos=pos:=by unfold dN;rw [if_neg hp]);(rw [e1];have h1:StF M0 w0 n (put K (Si b s pos) (Ao Γ)) a w:=StF.less ⟨M,φ,h⟩ λt e he=>by unfold put at he;split at he;rename_i ht;rw [ht,hk];exact he;exact he);let ⟨M',φ',h1⟩:=h1;unfold St;rw [Aj,Aj];exact h1.gives ⟨Ext.refl _ _,[],ND,λq hq=>by simp at hq,rfl,λhh=>absurd hh hp,λ_=>rfl⟩ (L6 hn)
theorem nx0 {x:Operand} {s:QT} {pos:Int} (h:Od Γ x (Nx s pos)):OR P (.extract x 0) ty Γ (Va (decide (pos < (s.size:Int)))):=OR.val λρ M w r=>by
 let ⟨_,_,h1,h2⟩:=h ρ M w r;by_cases hp:pos < s.size
 ·exact ⟨.bool true,λ_ _ _ _=>by simp only [execOp,h1 hp];rfl,by rw [decide_eq_true hp];exact Va.mkBool⟩
 ·exact ⟨.bool false,λ_ _ _ _=>by simp only [execOp,h2 hp];rfl,by rw [decide_eq_false hp];exact Va.mkBool⟩
theorem nx1 {x:Operand} {s:QT} {pos:Int} (h:Od Γ x (Nx s pos)) (hb:decide (pos < (s.size:Int))=true):OR P (.extract x 1) ty Γ (Va pos):=OR.val λρ M w r=>by
 let ⟨_,_,h1,_⟩:=h ρ M w r;have hp:pos < s.size:=by simpa using hb
 exact ⟨.int .i64 pos,λ_ _ _ _=>by simp only [execOp,h1 hp];rfl,Va.mkInt⟩
theorem nx2 {x:Operand} {s:QT} {pos:Int} (h:Od Γ x (Nx s pos)) (hb:decide (pos < (s.size:Int))=true):OR P (.extract x 2) ty Γ (Va (kw s pos)):=OR.val λρ M w r=>by
 let ⟨_,_,h1,_⟩:=h ρ M w r;have hp:pos < s.size:=by simpa using hb
 exact ⟨.int .i32 (Utf8.decode s pos.toNat).1,λ_ _ _ _=>by simp only [execOp,h1 hp];rfl,Ik.mkv (x:=kw s pos)⟩
end
end
section
variable {rr:Option Nat}
def InO (e:TypeId) (M:Nat->Prop) (w:World):QS->List (Option QP)->QR->Prop
 | [],[],F=>F=[]
 | c :: cs,none :: xs,F=>c.oneCell'=true/\InO e M w cs xs F
 | c :: cs,some x :: xs,F=>∃ F1 F2,F=F1 ++ F2/\(Ow e c x).p F1 M w undef/\InO e M w cs xs F2
 | _,_,_=>False
theorem InO.st {e:TypeId} {M:Nat->Prop} {w w':World}:∀ {cs:QS} {xs:List (Option QP)} {F:QR},InO e M w cs xs F->Ext (λk=>M k/\k ∉ F) w w'->InO e M w' cs xs F
 | [],[],_,h,_=>h
 | _ :: _,none :: _,_,⟨h0,h⟩,x=>⟨h0,h.st x⟩
 | _ :: _,some _ :: _,_,⟨F1,F2,hF,h1,h2⟩,x=>⟨F1,F2,hF,Ent.st _ h1 (x.mono λk _ hk=>⟨hk.1,λhm=>hk.2 (by rw [hF];exact MQ _ hm)⟩),h2.st (x.mono λk _ hk=>⟨hk.1,λhm=>hk.2 (by rw [hF];exact MO _ hm)⟩)⟩
 | [],_ :: _,_,h,_=>by simp [InO] at h
 | _ :: _,[],_,h,_=>by simp [InO] at h
theorem InO.sb {e:TypeId} {M M':Nat->Prop} {w:World}:∀ {cs:QS} {xs:List (Option QP)} {F:QR},InO e M w cs xs F->(∀ k,k < w.heap.size->M' k->M k)->InO e M' w cs xs F
 | [],[],_,h,_=>h
 | _ :: _,none :: _,_,⟨h0,h⟩,x=>⟨h0,h.sb x⟩
 | _ :: _,some _ :: _,_,⟨F1,F2,hF,h1,h2⟩,x=>⟨F1,F2,hF,Ent.sb _ h1 x,h2.sb x⟩
 | [],_ :: _,_,h,_=>by simp [InO] at h
 | _ :: _,[],_,h,_=>by simp [InO] at h
theorem InO.focus {e:TypeId} {M:Nat->Prop} {w:World}:∀ {cs:QS} {xs:List (Option QP)} {F:QR} {k:Nat} {x:QP},InO e M w cs xs F->xs[k]?=some (some x) ->
  ∃ c F1 F2,cs[k]?=some c/\(Ow e c x).p F1 M w undef/\InO e M w cs (xs.set k none) F2/\F.Perm (F1 ++ F2)
 | [],[],_,k,x,_,h=>by simp at h
 | c :: cs,none :: xs,F,0,x,_,h=>by simp at h
 | c :: cs,none :: xs,F,k + 1,x,⟨h0,h⟩,hk=>by
  obtain ⟨c',F1,F2,h1,h2,h3,h4⟩:=InO.focus (k:=k) h (by simpa using hk);exact ⟨c',F1,F2,by simpa using h1,h2,⟨h0,h3⟩,h4⟩
 | c :: cs,some y :: xs,F,0,x,⟨F1,F2,hF,h1,h2⟩,hk=>by
  have:y=x:=by simpa using hk
  subst this;refine ⟨c,F1,F2,by simp,h1,⟨?_,h2⟩,by rw [hF]⟩;obtain ⟨_,cs',ho,_⟩ | ⟨_,_,g,hc⟩:=h1
  ·rcases ho.2 with ⟨hc,_⟩ | ⟨_,_,_,hc,_⟩ <;> rw [hc] <;> rfl
  ·rw [hc];rfl
 | c :: cs,some y :: xs,F,k + 1,x,⟨Fa,Fb,hF,h1,h2⟩,hk=>by
  obtain ⟨c',F1,F2,q1,q2,q3,q4⟩:=InO.focus (k:=k) h2 (by simpa using hk);refine ⟨c',F1,Fa ++ F2,by simpa using q1,q2,⟨Fa,F2,rfl,h1,q3⟩,?_⟩;rw [hF];refine (List.Perm.append_left Fa q4).trans ?_;rw [← MP,← MP];exact List.Perm.append_right F2 List.perm_append_comm
 | [],_ :: _,_,_,_,h,_=>by simp [InO] at h
 | _ :: _,[],_,_,_,h,_=>by simp [InO] at h
theorem InO.close {e:TypeId} {M:Nat->Prop} {w:World}:∀ {cs:QS} {xs:List (Option QP)} {F F1:QR} {k:Nat} {c:Value} {x:QP},InO e M w cs xs F->xs[k]?=some none->cs[k]?=some c->(Ow e c x).p F1 M w undef ->
  ∃ F',InO e M w cs (xs.set k (some x)) F'/\F'.Perm (F1 ++ F)
 | [],[],_,_,k,c,x,_,h,_,_=>by simp at h
 | c :: cs,none :: xs,F,F1,0,c',x,⟨h0,h⟩,_,hc,hp=>by
  have:c=c':=by simpa using hc
  subst this;exact ⟨F1 ++ F,⟨F1,F,rfl,hp,h⟩,List.Perm.refl _⟩
 | c :: cs,none :: xs,F,F1,k + 1,c',x,⟨h0,h⟩,hk,hc,hp=>by
  let ⟨F',h1,h2⟩:=InO.close (k:=k) h (by simpa using hk) (by simpa using hc) hp;exact ⟨F',⟨h0,h1⟩,h2⟩
 | c :: cs,some y :: xs,F,F1,0,c',x,_,hk,_,_=>by simp at hk
 | c :: cs,some y :: xs,F,F1,k + 1,c',x,⟨Fa,Fb,hF,h1,h2⟩,hk,hc,hp=>by
  let ⟨F',q1,q2⟩:=InO.close (k:=k) h2 (by simpa using hk) (by simpa using hc) hp;refine ⟨Fa ++ F',⟨Fa,F',rfl,h1,q1⟩,?_⟩;rw [hF];refine (List.Perm.append_left Fa q2).trans ?_;rw [← MP,← MP];exact List.Perm.append_right Fb List.perm_append_comm
 | [],_ :: _,_,_,_,_,_,h,_,_,_=>by simp [InO] at h
 | _ :: _,[],_,_,_,_,_,h,_,_,_=>by simp [InO] at h
theorem InO.setc {e:TypeId} {M:Nat->Prop} {w:World} {v:Value} (hv:v.oneCell'=true):∀ {cs:QS} {xs:List (Option QP)} {F:QR} {k:Nat},InO e M w cs xs F->xs[k]?=some none->InO e M w (cs.set k v) xs F
 | [],[],_,k,_,h=>by simp at h
 | c :: cs,none :: xs,F,0,⟨h0,h⟩,_=>⟨hv,h⟩
 | c :: cs,none :: xs,F,k + 1,⟨h0,h⟩,hk=>⟨h0,InO.setc hv h (by simpa using hk)⟩
 | c :: cs,some y :: xs,F,0,_,hk=>by simp at hk
 | c :: cs,some y :: xs,F,k + 1,⟨Fa,Fb,hF,h1,h2⟩,hk=>⟨Fa,Fb,hF,h1,InO.setc hv h2 (by simpa using hk)⟩
 | [],_ :: _,_,_,h,_=>by simp [InO] at h
 | _ :: _,[],_,_,h,_=>by simp [InO] at h
def Oo (e2 e:TypeId) (c:Value) (xss:List (Option QP)):Ent where
 p F M w _:=∃ g cap cur F',F.Perm (g :: F')/\c=.slice (some ⟨g,0,none⟩) xss.length cap/\w.heap[g]?=some (.cells cur e2 (0,0))/\xss.length<=cap/\cap<=maxLen/\cur.size=cap/\InO e M w (cur.toList.take xss.length) xss F'
 st h x:=by
  let ⟨g,cap,cur,F',hF,hc,hg,h1,h2,h3,h4⟩:=h;refine ⟨g,cap,cur,F',hF,hc,?_,h1,h2,h3,h4.st (x.mono λk _ hk=>⟨hk.1,λhm=>hk.2 (hF.mem_iff.2 (M8 _ hm))⟩)⟩;rw [x.block g (L3.1 hg).1 λhm=>hm.2 (hF.mem_iff.2 (NL ..))];exact hg
 sb h s:=let ⟨g,cap,cur,F',hF,hc,hg,h1,h2,h3,h4⟩:=h;⟨g,cap,cur,F',hF,hc,hg,h1,h2,h3,h4.sb s⟩
def OO (e2 e:TypeId) (xss:List (Option QP)):Ent where
 p F M w v:=(Oo e2 e v xss).p F M w v
 st h x:=(Oo e2 e _ xss).st h x
 sb h s:=(Oo e2 e _ xss).sb h s
section
variable {P:Program} {M0:Fm} {w0:World} {n:Nat} {Γ:Cx} {Q:Exit->Act->World->Prop} {a:Act} {w:World} {ty:TypeId}
theorem StM.split3 {g:Mp} {M:Nat->Prop} {φ:Nat->QR} {d k:Nat} {e1 e2:Ent} {F1 F2:QR} (h:StM M0 w0 n g a w M φ) (hd:(g d).isSome=true) (hne:d≠k) (hF:(φ d).Perm (F2 ++ F1))
  (h1:e1.p F1 M w (a.get d)) (h2:e2.p F2 M w (a.get k)):StF M0 w0 n (put d e1 (put k e2 g)) a w:=by (have h':StM M0 w0 n (put d ⟨λF _ _ _=>F=F2 ++ F1,λh _=>h,λh _=>h⟩ g) a w M (λt=>if t=d then F2 ++ F1 else φ t):=by refine ⟨λt e he=>?_,λt ht=>?_,λt s hts ht hs=>?_,h.sub,h.bd,h.fr,h.sz,h.df⟩;unfold put at he;by_cases h3:t=d;subst h3;simp only [if_true,Option.some.injEq] at he ⊢;subst he;rfl;simp only [if_neg h3] at he ⊢;exact h.holds t e he;by_cases h3:t=d;subst h3;simp only [if_true];have:=h.own t hd;exact ⟨hF.nodup_iff.1 this.1,λk hk=>this.2 k (hF.mem_iff.2 hk)⟩;simp only [put,if_neg h3] at ht ⊢;exact h.own t ht;by_cases h3:t=d;subst h3;simp only [if_true,if_neg (Ne.symm hts)];simp only [put,if_neg (Ne.symm hts)] at hs;exact λq hq=>h.apart t s hts hd hs q (hF.mem_iff.2 hq);by_cases h4:s=d;subst h4;simp only [if_true,if_neg h3];simp only [put,if_neg h3] at ht;exact λq hq hm=>h.apart t s hts ht hd q hq (hF.mem_iff.2 hm);simp only [put,if_neg h3,if_neg h4] at ht hs ⊢;exact h.apart t s hts ht hs);have:=h'.split2 (d:=d) (k:=k) (e1:=e1) (e2:=e2) (F1:=F1) (F2:=F2) (by simp [put]) hne ah h1 h2;refine StF.less this λt e he=>?_;unfold put at he ⊢;by_cases h3:t=d;rw [if_pos h3] at he ⊢;exact he;rw [if_neg h3] at he ⊢;by_cases h4:t=k;rw [if_pos h4] at he ⊢;exact he;rw [if_neg h4] at he ⊢;rw [if_neg h3];exact he
theorem StM.merge {g:Mp} {M:Nat->Prop} {φ:Nat->QR} {d k:Nat} {e:Ent} {F:QR} (h:StM M0 w0 n g a w M φ) (hd:(g d).isSome=true) (hk:(g k).isSome=true) (hne:d≠k) (hF:F.Perm (φ k ++ φ d)) (he:e.p F M w (a.get d)) :
  StF M0 w0 n (put d e (put k Dd g)) a w:=by refine ⟨M,λt=>if t=d then F else if t=k then [] else φ t,λt e' he'=>?_,λt ht=>?_,λt s hts ht hs=>?_,h.sub,h.bd,h.fr,h.sz,h.df⟩;unfold put at he';by_cases h3:t=d;subst h3;simp only [if_true,Option.some.injEq] at he' ⊢;subst he';exact he;by_cases h4:t=k;subst h4;simp only [if_neg h3,if_true,Option.some.injEq] at he' ⊢;subst he';rfl;simp only [if_neg h3,if_neg h4] at he' ⊢;exact h.holds t e' he';by_cases h3:t=d;subst h3;simp only [if_true];refine ⟨hF.nodup_iff.2 (O4.2 ⟨(h.own k hk).1,(h.own t hd).1,λx hx y hy e=>?_⟩),λq hq=>?_⟩;subst e;exact h.apart t k hne hd hk x hy hx;(rcases MC.1 (hF.mem_iff.1 hq) with h5 | h5);exact (h.own k hk).2 q h5;exact (h.own t hd).2 q h5;by_cases h4:t=k;simp only [if_neg h3,if_pos h4];exact ⟨List.nodup_nil,λq hq=>by simp at hq⟩;simp only [put,if_neg h3,if_neg h4] at ht ⊢;exact h.own t ht;(have ap:∀ u,u≠d->u≠k->((put d e (put k Dd g)) u).isSome=true->∀ q∈φ u,q ∉ F:=λu hu hk' hs q hq hm=>by (simp only [put,if_neg hu,if_neg hk'] at hs;rcases MC.1 (hF.mem_iff.1 hm) with h5 | h5);exact h.apart u k hk' hs hk q hq h5;exact h.apart u d hu hs hd q hq h5);by_cases h4:t=k;(subst h4;simp only [if_neg (Ne.symm hne),if_true];exact λq hq=>by simp at hq);by_cases h6:s=k;(subst h6;simp only [if_neg (Ne.symm hne),if_true];exact λq _ hm=>by simp at hm);by_cases h3:t=d;subst h3;simp only [if_true,if_neg (Ne.symm hts),if_neg h6];exact λq hq hm=>ap s (Ne.symm hts) h6 hs q hm hq;by_cases h5:s=d;subst h5;simp only [if_true,if_neg h3,if_neg h4];exact λq hq=>ap t h3 h4 ht q hq;simp only [put,if_neg h3,if_neg h4,if_neg h5,if_neg h6] at ht hs ⊢;exact h.apart t s hts ht hs
theorem InO.nils {e:TypeId} {M:Nat->Prop} {w:World}:∀ k:Nat,InO e M w (List.replicate k (Value.slice none 0 0)) (List.replicate k (some [])) []
 | 0=>rfl
 | k + 1=>⟨[],[],rfl,.inl ⟨rfl,[],⟨by simp,.inl ⟨rfl,rfl⟩⟩,rfl⟩,InO.nils k⟩
theorem mkO {T e2 e:TypeId} {x y:Operand} {m:Int} {xs:List QP} (hx:Od Γ x (Va m)) (hy:Od Γ y (Va m)) (hT:P.underlying T=some (.slice e2)) (hi:(P.info? e2).map (λi=>(i.zero,i.size,Nat.ble i.bytes 65536))=some (some (.slice none 0 0),1,true)) (h:cy ([]:QP) m=some xs):OR P (.makeSlice T x y) ty Γ (OO e2 e (xs.map some)):=by
 unfold cy at h;split at h
 case isFalse=>cases h
 rename_i hc;cases h
 refine OR.run λρ M w r=>?_;let ⟨_,h1⟩:=hx ρ M w r;let ⟨_,h2⟩:=hy ρ M w r;obtain ⟨k,rfl⟩:∃ k:Nat,m=k:=⟨m.toNat,by omega⟩;have hk:k<=1073741824:=by omega
 cases hie:P.info? e2 with
 | none=>simp [hie] at hi
 | some i=>
  simp only [hie,Option.map_some,Option.some.injEq,Prod.mk.injEq] at hi;let ⟨hz,hs,hb⟩:=hi;have hb':=L6 hb;have hr:=run_make (P:=P) w T e2 i (.slice none 0 0) hT hie hz .i64 .i64 (k:Int) (k:Int) aa (QE _) (by
   have:i.bytes * k<=65536 * 1073741824:=PN hb' hk;have h3:((i.bytes * k:Nat):Int)<=281474976710656:=by omega
   rwa [P5] at h3) aa
  simp only [M3,hs] at hr;have hcells:(Value.slice none 0 0).cells=#[Value.slice none 0 0]:=rfl;rw [hcells,OF] at hr;have hmade:(madeCells #[Value.slice none 0 0] k)=(List.replicate k (Value.slice none 0 0)).toArray:=by
   apply Array.ext';apply P3
   ·simp [madeCells]
   ·intro j h1 h2;simp [madeCells,Nat.mod_one]
  rw [hmade] at hr;refine ⟨.slice (some ⟨w.heap.size,0,none⟩) k k,w.alloc (.cells (List.replicate k (Value.slice none 0 0)).toArray e2),λ_ _ _ _=>by simp only [execOp,Va.int h1,Va.int h2,LZ,hr,LT,L0],Ext.alloc _ _ _,[w.heap.size],by simp,λq hq=>?_,w.heap.size,k,(List.replicate k (Value.slice none 0 0)).toArray,[],List.Perm.refl _,?_,heap_alloc_new w _,?_,?_,by simp,?_⟩
  ·simp at hq;subst hq;exact ⟨Nat.le_refl _,by simp⟩
  ·simp
  ·simp
  ·unfold maxLen;omega
  ·have hl:(List.map some (List.replicate (Int.toNat (k:Int)) ([]:QP))).length=k:=by simp
   rw [hl];simp only [M3,List.map_replicate];rw [NK ah];exact InO.nils k
theorem mN {ops:Array Oper} {rest:List Oper} {d:Nat} {op:Op} {pos:String} {ai:Array Edge} {e2 e:TypeId} {xss:List (Option QP)} (K:Nat)
  (hs:St M0 w0 n Γ a w) (ho:OR P op ty Γ (OO e2 e xss)) (hn:Nat.blt d n=true) (hdk:Nat.beq d K=false)
  (k:∀ c a' w',St M0 w0 n ((d,Qv c) :: (K,Oo e2 e c xss) :: (d,OO e2 e xss) :: Γ) a' w'->wpListIn (Fr rr) 0 P ops Q rest a' w'):wpListIn (Fr rr) 0 P ops Q (⟨some d,op,ty,pos,ai,none⟩ :: rest) a w:=
 sq hs ho hn λa' w' s'=>by
  let ⟨M,φ,h⟩:=s';have hb:=h.holds d (OO e2 e xss) (by simp [Ao]);refine k (a'.get d) a' w' ?_;unfold St;rw [Hl];exact h.split (by simp [Ao]) (NF hdk) ⟨rfl,rfl⟩ hb
theorem qG {T e2 e k:TypeId} {x i:Operand} {c:Value} {xss:List (Option QP)} {m:Int} {y:Option QP} (hx:Od Γ x (Qv c)) (hk:Ao Γ k=some (Oo e2 e c xss)) (hi:Od Γ i (Va m)) (hT:P.underlying T=some (.slice e2)) (hs:(P.info? e2).map (·.size)=some 1) (h:idx xss m=some y):OR P (.indexAddr T x i) ty Γ (Pe c m.toNat):=by
 refine OR.val λρ M w r=>?_;let ⟨_,_,hv⟩:=hx ρ M w r;let ⟨_,h2⟩:=hi ρ M w r;let ⟨_,g,cap,cur,F',hF,hc,_⟩:=r.tmp _ _ hk;let ⟨h0,hl,hg⟩:=Aw h;have hsz:∀ w,(sizeOf e2).run P w=.ok 1 w:=λw=>by
  cases hie:P.info? e2 with
  | none=>simp [hie] at hs
  | some i=>simp [hie] at hs;simp [sizeOf,typeInfo,hie,hs]
 refine ⟨.pointer (some ⟨g,m.toNat,none⟩),λ_ _ _ _=>?_,rfl,g,by rw [hc];rfl,rfl⟩;simp only [execOp,hv,hc,Va.int h2,Instr.indexAt,LZ,asIntOf,L0,LT,run_underlying hT];simp [h0,hl,hsz,Cf]
theorem ldo {ops:Array Oper} {rest:List Oper} {d K K2 T e2 e:Nat} {x:Operand} {pos:String} {ai:Array Edge} {c:Value} {xss:List (Option QP)} {j:Nat} {y:QP}
  (hs:St M0 w0 n Γ a w) (hx:Od Γ x (Pe c j)) (hk:Ao Γ K=some (Oo e2 e c xss)) (hy:xss[j]?=some (some y)) (ha:(P.underlying T).map Ce=some false) (hn:Nat.blt d n=true) (hKK:Nat.beq K K2=false) (hdK:Nat.beq d K=false) (hdK2:Nat.beq d K2=false)
  (k:∀ c' a' w',St M0 w0 n ((d,Qv c') :: (K,Oo e2 e c (xss.set j none)) :: (K2,Ow e c' y) :: Γ) a' w'->wpListIn (Fr rr) 0 P ops Q rest a' w'):wpListIn (Fr rr) 0 P ops Q (⟨some d,.load T x,ty,pos,ai,none⟩ :: rest) a w:=by
 refine wpListIn_plain rfl λKc hK=>?_;let ⟨M,φ,h⟩:=hs;let ⟨_,_,g',hg',hv⟩:=hx _ _ _ h.rd;let ⟨g,cap,cur,F',hF,hc,hg,h1,h2,h3,h4⟩:=h.holds K _ hk;have hgg:g'=g:=by rw [hc] at hg';simpa [Value.ownBlock] using hg'.symm
 subst hgg;let ⟨c',F1,F2,q1,q2,q3,q4⟩:=h4.focus hy;have hj:j < xss.length:=(LU.1 hy).1;rw [NM hj] at q1;have hcell:w.cell? ⟨g',j,none⟩=some c':=by
  simp only [World.cell?,hg];simpa using q1
 refine Bk.upon (Bk.val (v:=c') (w':=w) ?_ ?_)
 ·simp only [execOp,hv,Instr.loadAt,Instr.sureAddr,LZ,L0,LT,loadVar,Ty.run_agg ha];simp [hcell]
 ·refine hK _ _ (k c' _ _ ?_);have hsp:=h.split3 (d:=K) (k:=K2) (e1:=Oo e2 e c (xss.set j none)) (e2:=Ow e c' y) (F1:=g' :: F2) (F2:=F1) (by rw [hk];rfl) (NF hKK)
   (hF.trans ((List.Perm.cons _ q4).trans (by
    rw [← O8];exact (List.perm_middle (a:=g') (l₁:=F1) (l₂:=F2)).symm)))
   ⟨g',cap,cur,F2,List.Perm.refl _,by rw [hc];simp,hg,by simpa using h1,h2,h3,by simpa using q3⟩ q2
  let ⟨M',φ',hsp⟩:=hsp;unfold St;rw [Aj,Aj,Aj];exact hsp.gives ⟨Ext.refl _ _,[],ND,λq hq=>by simp at hq,rfl,rfl⟩ (L6 hn)
theorem sto {ops:Array Oper} {rest:List Oper} {K K2 T e2 e:Nat} {x y:Operand} {pos:String} {ai:Array Edge} {c c':Value} {xss:List (Option QP)} {j:Nat} {ys:QP}
  (hs:St M0 w0 n Γ a w) (hx:Od Γ x (Pe c j)) (hk:Ao Γ K=some (Oo e2 e c xss)) (hy:Od Γ y (Qv c')) (hk2:Ao Γ K2=some (Ow e c' ys)) (hh:xss[j]?=some none) (hT:(P.info? T).map (·.size)=some 1) (hKK:Nat.beq K K2=false)
  (k:∀ w',St M0 w0 n ((K,Oo e2 e c (xss.set j (some ys))) :: (K2,Dd) :: Γ) a w'->wpListIn (Fr rr) 0 P ops Q rest a w'):wpListIn (Fr rr) 0 P ops Q (⟨none,.store T x y,ty,pos,ai,none⟩ :: rest) a w:=by
 refine wpListIn_plain rfl λKc hK=>?_;let ⟨M,φ,h⟩:=hs;let ⟨_,_,g',hg',hv⟩:=hx _ _ _ h.rd;let ⟨_,_,hyv⟩:=hy _ _ _ h.rd;let ⟨g,cap,cur,F',hF,hc,hg,h1,h2,h3,h4⟩:=h.holds K _ hk;have how:=h.holds K2 _ hk2;have hgg:g'=g:=by rw [hc] at hg';simpa [Value.ownBlock] using hg'.symm
 subst hgg;have hne:=NF hKK;have hj:j < xss.length:=(LU.1 hh).1;have hc1:c'.oneCell'=true/\c'.cells=#[c']:=by
  obtain ⟨_,cs',ho,_⟩ | ⟨_,_,g,hc⟩:=how
  ·rcases ho.2 with ⟨hc,_⟩ | ⟨_,_,_,hc,_⟩ <;> rw [hc] <;> exact ⟨rfl,rfl⟩
  ·rw [hc];exact ⟨rfl,rfl⟩
 have hst:=run_storeCells_at P g' j e2 [c'] 0 cur w hg (by simp;omega) (λv hv=>by simp at hv;rw [hv];exact hc1.1);simp only [PC,NJ,N6,NW] at hst;have hsz:∀ w,(sizeOf T).run P w=.ok 1 w:=λw=>by
  cases hie:P.info? T with
  | none=>simp [hie] at hT
  | some i=>simp [hie] at hT;simp [sizeOf,typeInfo,hie,hT]
 have hset:(cur.toList.take j ++ [c'] ++ cur.toList.drop (j + 1))=cur.toList.set j c':=by
  rw [List.set_eq_take_append_cons_drop,if_pos (by simp;omega)];simp
 rw [hset] at hst;refine Bk.upon (Bk.skip (w':=w.setRow g' (cur.toList.set j c').toArray) ?_ ?_)
 ·simp only [execOp,hv,hyv,Instr.storeAt,Instr.sureAddr,LZ,L0,LT,storeVar,hc1.2,hsz];simp [hst]
 ·refine hK _ _ (k _ ?_);have hgK:g'∈φ K:=hF.mem_iff.2 (NL ..);have hMg:=((h.own K (by rw [hk];rfl)).2 _ hgK).1;have hgF':g' ∉ F':=by
   have:=hF.nodup_iff.1 (h.own K (by rw [hk];rfl)).1;exact (List.nodup_cons.1 this).1
  have hin:InO e M (w.setRow g' (cur.toList.set j c').toArray) ((cur.toList.take xss.length).set j c') xss F':=by
   refine InO.st (InO.setc hc1.1 h4 hh) ((Ext.setRow w g' _).mono λq _ hq=>?_);subst hq;exact ⟨hMg,hgF'⟩
  have hw1:=h.write (b:=g') (p:=K) (e':=Oo e2 e c xss) (w':=w.setRow g' (cur.toList.set j c').toArray) (by rw [hk];rfl) hgK (Ext.setRow w g' _)
   ⟨g',cap,(cur.toList.set j c').toArray,F',hF,hc,setRow_heap w g' cur _ e2 _ hg,h1,h2,by simp [h3],by
    show InO e M _ (List.take xss.length (cur.toList.set j c')) xss F';rw [List.take_set];exact hin⟩
  let ⟨M',φ',hw1⟩:=hw1;have e1:put K (Oo e2 e c xss) (Ao Γ) K=some (Oo e2 e c xss):=by simp [put]
  have e2':put K (Oo e2 e c xss) (Ao Γ) K2=some (Ow e c' ys):=by unfold put;rw [if_neg (Ne.symm hne)];exact hk2
  let ⟨g2,cap2,cur2,F2,p1,p2,p3,p4,p5,p6,p7⟩:=hw1.holds K _ e1;have how2:=hw1.holds K2 _ e2';have hg2:g2=g':=by rw [hc] at p2;injection p2 with p2;injection p2 with p2;injection p2 with p2;exact p2.symm
  subst hg2;have hcur:cur2=(cur.toList.set j c').toArray:=by
   have:=setRow_heap w g2 cur (cur.toList.set j c').toArray e2 _ hg;rw [this] at p3;injection p3 with p3;injection p3 with p3;exact p3.symm
  have hcj:(cur2.toList.take xss.length)[j]?=some c':=by
   rw [hcur,NM hj];have hlt:j < cur.toList.length:=by simp;omega
   show (cur.toList.set j c')[j]?=some c';rw [MX hlt]
  let ⟨F3,r1,r2⟩:=p7.close hh hcj (show (Ow e c' ys).p (φ' K2) M' _ undef from how2);have hm:=hw1.merge (d:=K) (k:=K2) (e:=Oo e2 e c (xss.set j (some ys))) (F:=g2 :: F3) (by rw [e1];rfl) (by rw [e2'];rfl) hne (by
    refine (List.Perm.cons _ r2).trans ?_;rw [← O8];refine (List.perm_middle (a:=g2) (l₁:=φ' K2) (l₂:=F2)).symm.trans ?_;exact List.Perm.append_left _ p1.symm)
   ⟨g2,cap2,cur2,F3,List.Perm.refl _,by rw [p2];simp,p3,by simpa using p4,p5,p6,by simpa using r1⟩
  unfold St;refine StF.less hm λt e he=>?_;rw [Aj,Aj] at he;unfold put at he ⊢;by_cases h5:t=K
  ·rw [if_pos h5] at he ⊢;exact he
  ·rw [if_neg h5] at he ⊢;by_cases h6:t=K2
   ·rw [if_pos h6] at he ⊢;exact he
   ·rw [if_neg h6] at he ⊢;rw [if_neg h5];exact he
theorem InO.chk {e:TypeId} {M M':Nat->Prop} {w:World}:∀ {cs:QS} {xs:List QP} {F:QR},InO e M w cs (xs.map some) F->(∀ k,k < w.heap.size->M' k->M k)->(∀ k∈F,¬ M' k)->Chk M' w cs xs
 | [],[],_,_,_,_=>rfl
 | c :: cs,x :: xs,F,⟨F1,F2,hF,h1,h2⟩,hs,hM=>by
  refine ⟨[c],cs,rfl,⟨c,rfl,Ow.sl (Ent.sb _ h1 hs) λk hk=>hM k (by rw [hF];exact MQ _ hk)⟩,h2.chk hs λk hk=>hM k (by rw [hF];exact MO _ hk)⟩
 | [],_ :: _,_,h,_,_=>by simp [InO] at h
 | _ :: _,[],_,h,_,_=>by simp [InO] at h
theorem fzo {k e2 e:Nat} {c:Value} {xss:List QP} {R:Prop} (hM:Bd M0 w0) (h:St M0 w0 n Γ a w) (hk:Ao Γ k=some (Oo e2 e c (xss.map some))) (r:St M0 w0 n ((k,At c (Va xss)) :: Γ) a w->R):R:=by (refine r ?_;let ⟨M,φ,h⟩:=h;have hks:(Ao Γ k).isSome=true:=by rw [hk];rfl);have hMs:∀ q,q < w.heap.size->(M q/\q ∉ φ k)->M q:=λq _ hq=>hq.1;unfold St;rw [Aj];refine ⟨λq=>M q/\q ∉ φ k,λt=>if t=k then [] else φ t,λt e' he=>?_,λt ht=>?_,λt s hts ht hs=>?_,λq hq=>⟨h.sub q hq,λhm=>?_⟩,λq hq=>h.bd q hq.1,h.fr,h.sz,h.df⟩;simp only [put] at he;by_cases h4:t=k;(subst h4;simp only [if_true,Option.some.injEq] at he ⊢;subst he;let ⟨g,cap,cur,F',hF,hc,hg,h1,h2,h3,h4⟩:=h.holds t _ hk;show (Va xss).p [] _ w c;refine Va.mkList ⟨some ⟨g,0,none⟩,cap - xss.length,by rw [hc,L9] at *;rw [PH h1],.inr ⟨g,0,rfl,(h4.chk hMs λq hq hm=>hm.2 (hF.mem_iff.2 (M8 _ hq))).row λj v hj=>⟨λhm=>hm.2 (hF.mem_iff.2 (NL ..)),?_⟩⟩⟩;have hlt:j < (xss.map some).length:=by have:=(LU.1 hj).1;simp only [NU] at this;omega);rw [NM hlt] at hj;simp only [World.cell?,hg,NW];simpa using hj;simp only [if_neg h4] at he ⊢;exact Ent.sb _ (h.holds t e' he) hMs;by_cases h4:t=k;simp [h4];simp only [put,if_neg h4] at ht ⊢;have:=h.own t ht;exact ⟨this.1,λq hq=>⟨⟨(this.2 q hq).1,h.apart t k h4 ht hks q hq⟩,(this.2 q hq).2⟩⟩;by_cases h5:t=k;simp [h5];by_cases h6:s=k;simp [h6];simp only [put,if_neg h5,if_neg h6] at ht hs ⊢;exact h.apart t s hts ht hs;(rcases ((h.own k hks).2 q hm).2 with h1 | h1);have:=hM.1 q hq;omega;exact hM.2 q h1 hq
theorem Oo.at_ {xss:List QP} {m:Int} {y:QP} (h:idx xss m=some y):(xss.map some)[m.toNat]?=some (some y):=by let ⟨_,_,h⟩:=Aw h;rw [L7,h];rfl
theorem Oo.idx {xss:List QP} {m:Int} {y:QP} (h:Pn.idx xss m=some y):Pn.idx (xss.map some) m=some (some y):=by let ⟨h0,_,h⟩:=Aw h;unfold Pn.idx;rw [if_pos h0,L7,h];rfl
theorem Oo.idxh {xss:List QP} {m:Int} {y:QP} (h:Pn.idx xss m=some y):Pn.idx ((xss.map some).set m.toNat none) m=some none:=by let ⟨h0,h1,h⟩:=Aw h;unfold Pn.idx;rw [if_pos h0,MX (by simp;omega)]
theorem Oo.hole {xss:List QP} {m:Int} {y:QP} (h:Pn.idx xss m=some y):((xss.map some).set m.toNat none)[m.toNat]?=some none:=by let ⟨h0,h1,h⟩:=Aw h;rw [MX (by simp;omega)]
theorem oor {K e2 e j:Nat} {c:Value} {xss:List QP} {ys:QP} {R:Prop} (h:St M0 w0 n Γ a w) (hk:Ao Γ K=some (Oo e2 e c (((xss.map some).set j none).set j (some ys)))) (r:St M0 w0 n ((K,Oo e2 e c ((xss.set j ys).map some)) :: Γ) a w->R):R:=by (refine r (StF.less h λt e' he=>?_);have e1:(xss.set j ys).map some=((xss.map some).set j none).set j (some ys):=by rw [List.set_set,List.map_set]);rw [Aj] at he;unfold put at he;split at he;rename_i ht;rw [ht,hk,← e1];exact he;exact he
end
end
section
variable {rr:Option Nat}
def cx (T e b:Nat) (v:Value) (s:QS) (w:World):Prop:=
 (∃ p,(p=.pointer none\/p=pb b 0)/\w.heap[b]?=some (.cells #[p,v] T (0,0)))/\w.ownsRow 0 e 1 v s.length s/\v.ownBlock≠some b
def Bw (T e b:Nat) (s:QT):Ent where
 p F _ w _:=∃ v:Value,F=b :: v.ownBlock.toList/\cx T e b v (Lib.strCells s) w
 st {_ _ w _ _} h x:=by
  obtain ⟨v,rfl,⟨p,hp,hb⟩,ho,hne⟩:=h;have hl:b < w.heap.size:=(L3.1 hb).1;refine ⟨v,rfl,⟨p,hp,?_⟩,Wr ho λk hk=>?_,hne⟩
  ·rw [x.block b hl ah];exact hb
  ·exact x.block k (ho.lt k hk).2 λhm=>hm.2 (by simp [hk])
 sb h _:=h
instance {T e b:Nat} {s:QT}:Gh (Bw T e b s):=⟨λh _=>h⟩
def mE (T e:Nat):Ent where
 p F M w v:=∃ b,v=pb b 0/\(Bw T e b .empty).p F M w v
 st h x:=let ⟨b,hv,h⟩:=h;⟨b,hv,(Bw T e b .empty).st h x⟩
 sb h s:=let ⟨b,hv,h⟩:=h;⟨b,hv,(Bw T e b .empty).sb h s⟩
section
variable {P:Program} {M0:Fm} {w0:World} {n:Nat} {Γ:Cx} {Q:Exit->Act->World->Prop} {a:Act} {w:World} {ty:TypeId}
theorem lG {T e:TypeId} (hz1:(P.info? T).map (·.zero)=some (some (.agg #[.pointer none,.slice none 0 0]))):OR P (.alloc T) ty Γ (mE T e):=by
 refine OR.run λρ M w r=>?_;refine ⟨.pointer (some ⟨w.heap.size,0,none⟩),w.alloc (.cells #[.pointer none,.slice none 0 0] T),λ_ _ _ _=>?_,Ext.alloc _ _ _,[w.heap.size],by simp,λk hk=>?_,w.heap.size,rfl,.slice none 0 0,rfl,⟨_,.inl rfl,Cj _ _⟩,World.ownsRow_nil _ _ _ _,by simp [Value.ownBlock]⟩
 ·cases hi:P.info? T with
  | none=>simp [hi] at hz1
  | some i=>
   simp only [hi,Option.map_some,Option.some.injEq] at hz1;simp only [execOp,Instr.alloc,zeroValue,typeInfo,LZ,run_program,LT,hi,L0,hz1,newVar,newRow,run_newObj];rfl
 ·simp at hk;subst hk;exact ⟨Nat.le_refl _,by simp⟩
theorem St.openBu {d T e:Nat} (h:St M0 w0 n Γ a w) (k:Nat) (hd:Ao Γ d=some (mE T e)) (hne:Nat.beq d k=false):∃ b,St M0 w0 n ((d,Qv (pb b 0)) :: (k,Bw T e b .empty) :: Γ) a w:=by let ⟨M,φ,h⟩:=h;let ⟨b,hv,hb⟩:=h.holds d _ hd;refine ⟨b,?_⟩;unfold St;rw [Hl];exact h.split (by rw [hd];rfl) (NF hne) ⟨rfl,hv⟩ hb
theorem kx {ops:Array Oper} {rest:List Oper} {d:Nat} {op:Op} {pos:String} {ai:Array Edge} {T e:Nat} (K:Nat)
  (hs:St M0 w0 n Γ a w) (ho:OR P op ty Γ (mE T e)) (hn:Nat.blt d n=true) (hdk:Nat.beq d K=false)
  (k:∀ b a' w',St M0 w0 n ((d,Qv (pb b 0)) :: (K,Bw T e b .empty) :: (d,mE T e) :: Γ) a' w'->wpListIn (Fr rr) 0 P ops Q rest a' w'):wpListIn (Fr rr) 0 P ops Q (⟨some d,op,ty,pos,ai,none⟩ :: rest) a w:=
 sq hs ho hn λa' w' s=>let ⟨b,s⟩:=s.openBu K (by simp [Ao]) hdk;k b a' w' s
theorem eJ {w w':World} {b:Nat} {v:Value} (hg:w.grownBy w' v.ownBlock) (hd:w.drawn<=w'.drawn):Ext (λk=>k=b\/v.ownBlock=some k) w w':=
 ⟨hg.os,hg.tape,hg.output,hg.size,λk hk hn=>hg.block k hk λe=>hn (.inr e.symm),hd⟩
theorem qK {f T e n0:Nat} {ps:List Ent} {vs0:QS->QS} {R:Value} {s r:QT} (hc:dh P f=true)
  (hps:∀ {M:Nat->Prop} {w:World} {vs:QS},Up M w (Qv (pb n0 0) :: ps) vs->vs=vs0 vs)
  (h:∀ (vs:QS) (v:Value) (w:World) (M:Nat->Prop),Up M w (Qv (pb n0 0) :: ps) vs->cx T e n0 v (Lib.strCells s) w->Calls P f (vs0 vs).toArray w λen w'=>en=.returned R/\Ext (λk=>k=n0\/v.ownBlock=some k) w w'/\∃ v',cx T e n0 v' (Lib.strCells r) w'/\∀ k,v'.ownBlock=some k->v.ownBlock=some k\/w.heap.size<=k) :
  Cg P f (Qv (pb n0 0) :: ps) [Bw T e n0 s] (Rz (λ_:Unit=>Dd) (λ_=>[Bw T e n0 r])):=by
 refine ⟨hc,λvs M w Ft hM hf ho hnd hFM=>?_⟩;obtain ⟨F1,_,rfl,hown,rfl⟩:=ho;obtain ⟨v,rfl,hb⟩:=hown undef;rw [hps hf];refine (h vs v w M hf hb).mono ?_;rintro en w' ⟨rfl,hx,v',hb',hk⟩;refine ⟨_,n0 :: v'.ownBlock.toList,rfl,hx.mono λk _ hk=>?_,?_,λk hk'=>?_,(),rfl,n0 :: v'.ownBlock.toList,[],by simp,λu=>⟨v',rfl,hb'⟩,rfl⟩
 ·rcases hk with rfl | hk
  ·simp
  ·simp [hk]
 ·cases hv:v'.ownBlock with
  | none=>simp
  | some k=>
   have:=hb'.2.2;rw [hv] at this;simp only [QG,List.nodup_cons,MZ,List.not_mem_nil,not_false_eq_true,ND,and_self,and_true];intro e;exact this (by rw [e])
 ·simp only [MH,Option.mem_toList] at hk';rcases hk' with rfl | hk'
  ·exact .inl ah
  ·rcases hk k hk' with h1 | h1
   ·exact .inl (by simp [h1])
   ·exact .inr ⟨h1,(hb'.2.1.lt k hk').2⟩
end
end
end Go.Pn
namespace Go.Proofs
open Go Go.RowKit
theorem gI (b:Nat) (w:World) (h0:w.cell? ⟨b,0,none⟩=some (.pointer (some ⟨b,0,none⟩))) :
  Calls Tryz.prog 296 #[.pointer (some ⟨b,0,none⟩)] w λe w'=>e=.returned (.tuple #[])/\w'=w:=by let ⟨j,hj,_⟩:=O9.1 (show (Tryz.prog.info? 325).map (·.size)=some 2 by kernel_rfl);go_enter Tryz.func296,Tryz.ntmps296;go_wp2;rw [Lib.run_neq_ptr_same w _ Tryz.underlying323 hj];go_wp2;go_end0;exact ⟨rfl,rfl⟩
theorem KN (b:Nat) (w:World) (h0:w.cell? ⟨b,0,none⟩=some (.pointer none)) (hsh:w.shape? b=some (325,2)) (hfz:w.frozen? ⟨b,0,none⟩=false) :
  Calls Tryz.prog 296 #[.pointer (some ⟨b,0,none⟩)] w λe w'=>e=.returned (.tuple #[])/\w'=w.setCell ⟨b,0,none⟩ (.pointer (some ⟨b,0,none⟩)):=by let ⟨j,hj,hjs⟩:=O9.1 (show (Tryz.prog.info? 325).map (·.size)=some 2 by kernel_rfl);go_enter Tryz.func296,Tryz.ntmps296;go_wp2;rw [Lib.run_to_unsafe w ⟨b,0,none⟩ Tryz.underlying323 Tryz.underlying409 hj (by rw [hjs];decide) hsh (Nat.zero_lt_succ 1)];simp only [Result.andThen];rw [Oper.upon_value];go_wp2;rw [run_callFunc_extern Tryz.func331 Go.Pn.ag Go.Pn.ag Go.Pn.ag (e:=Extern.AbiNoEscape.same) Go.Pn.ag];rw [Lib.run_noEscape];simp only [Result.andThen];rw [Oper.upon_value];go_wp2;rw [Lib.run_from_unsafe w ⟨b,0,none⟩ Tryz.underlying409 Tryz.underlying323 hj hsh Go.Pn.ag];simp only [Result.andThen];rw [Oper.upon_value];go_wp2;go_end0;exact ⟨rfl,rfl⟩
theorem LH (b:Nat) (v:Value) (s:QS) (w:World) (h:Pn.cx 325 5 b v s w) :
  Calls Tryz.prog 296 #[.pointer (some ⟨b,0,none⟩)] w λe w'=>e=.returned (.tuple #[])/\w'.heap[b]?=some (.cells #[Pn.pb b 0,v] 325 (0,0))/\w'.ownsRow 0 5 1 v s.length s/\v.ownBlock≠some b/\Pn.Ext (λk=>k=b) w w':=by obtain ⟨⟨p,rfl | rfl,hb⟩,ho,hne⟩:=h;have ha:Lib.BuilderAt 325 5 0 b (.pointer none) s w:=⟨Nat.zero_le _,v,hb,ho,hne⟩;refine (KN b w ha.cell0 ha.shape ha.frozen0).mono ?_;rintro e w' ⟨rfl,rfl⟩;refine ⟨rfl,by simp [World.setCell,PE,hb,Pn.pb],?_,hne,Pn.Ext.setCell w ⟨b,0,none⟩ _ rfl⟩;exact ho.kept (row:=some b) ⟨rfl,rfl,rfl,by simp [World.setCell],λk _ hk=>Below.heap_setCell _ _ _ _ (λe=>hk (by simp [e]))⟩ (Or.inr hne);have ha:Lib.BuilderAt 325 5 0 b (Pn.pb b 0) s w:=⟨Nat.zero_le _,v,hb,ho,hne⟩;refine (gI b w ha.cell0).mono ?_;rintro e w' ⟨rfl,rfl⟩;exact ⟨rfl,hb,ho,hne,Pn.Ext.refl _ _⟩
theorem LJ {b:Nat} {p v v':Value} {s s':QS} {w w1 w2:World} (hx1:Pn.Ext (λk=>k=b) w w1) (hl:v.ownBlock≠some b) (hb2:w2.heap[b]?=some (.cells #[Pn.pb b 0,v] 325 (0,0))) (hx2:Pn.Ext (λk=>k=b\/v.ownBlock=some k) w1 w2) (hown':w2.ownsRow 0 5 1 v' s'.length s') (hk:∀ k,v'.ownBlock=some k->v.ownBlock=some k\/w.heap.size<=k) :
  Pn.Ext (λk=>k=b\/v.ownBlock=some k) w (w2.setCell ⟨b,1,none⟩ v')/\∃ v'',Pn.cx 325 5 b v'' s' (w2.setCell ⟨b,1,none⟩ v')/\∀ k,v''.ownBlock=some k->v.ownBlock=some k\/w.heap.size<=k:=by (refine ⟨(hx1.mono λk _ hk=>.inl hk).trans (hx2.trans (Pn.Ext.setCell w2 ⟨b,1,none⟩ _ (.inl rfl))),v',?_,hk⟩;let ⟨_,v2,hb3,ho3,hne3⟩:=Lib.BuilderAt.put (T:=325) (e:=5) (NN b) hb2 hown' (by decide);have:v2=v':=by (have h1:(w2.setCell ⟨b,1,none⟩ v').heap[b]?=some (.cells #[Pn.pb b 0,v'] 325 (0,0)):=by simp [World.setCell,PE,hb2]);rw [h1] at hb3;simp at hb3;exact hb3.symm);subst this;exact ⟨⟨_,.inr rfl,hb3⟩,ho3,hne3⟩
theorem bu_wb (b:Nat) (v:Value) (bs:QS) (c:Int) (w:World) (h:Pn.cx 325 5 b v bs w) (hlen:bs.length + 1<=140737488355328) :
  Calls Tryz.prog 251 #[.pointer (some ⟨b,0,none⟩),.int .u8 c] w λe w'=>e=.returned .nilIface/\Pn.Ext (λk=>k=b\/v.ownBlock=some k) w w'/\∃ v',Pn.cx 325 5 b v' (bs ++ [.int .u8 c]) w'/\∀ k,v'.ownBlock=some k->v.ownBlock=some k\/w.heap.size<=k:=by
 let ⟨i0,hi,hz0,hz1,hz2⟩:=info_parts (show (Tryz.prog.info? 5).map (λi=>(i.zero,i.size,i.bytes))=some (some (.int .u8 0),1,1) by kernel_rfl);have e240:∀ args w,(callFunc 296 args).run Tryz.prog w=.ok (.enter 296 args) w:=enters_of Tryz.func296 Go.Pn.ag rfl
 go_enter Tryz.func251,Tryz.ntmps251
 go_wp2_with (go_at_fn 296;refine (LH b v bs _ h).mono ?_)
 rintro e w1 ⟨rfl,hbk,hown,hne,hx1⟩;have c0:w1.cell? ⟨b,0,none⟩=some (.pointer (some ⟨b,0,none⟩)):=by rw [N3 hbk];rfl
 have c1:w1.cell? ⟨b,1,none⟩=some v:=by rw [N3 hbk];rfl
 let ⟨v',w2,hr,hown',hgrow,_,hat⟩:=run_append_own_at (P:=Tryz.prog) (w:=w1.alloc (.cells #[.int .u8 c] 5)) 0 46 46 5 i0 (.int .u8 0) 1 1 Tryz.underlying46 hi hz0 hz1 hz2 rfl (by decide) v bs.length bs (hown.alloc _) ⟨w1.heap.size,0,none⟩ 1 1 [.int .u8 c] rfl (λj u hj=>by
  match j,hj with
  | 0,hj=>simp at hj;subst hj;simp [Addr.add]) (λu hu=>by simp at hu;subst hu;rfl) (by unfold maxLen;omega) Go.Pn.aa (NN _)
 have hdr:=Pn.eL (P:=Tryz.prog) Tryz.underlying46 hi hz0 hz1 hz2 (hown.alloc (.cells #[.int .u8 c] 5)) (a:=⟨w1.heap.size,0,none⟩) (news:=[.int .u8 c]) rfl (λj u hj=>by
  match j,hj with
  | 0,hj=>simp at hj;subst hj;simp [Addr.add]) (λu hu=>by simp at hu;subst hu;rfl) (by unfold maxLen;omega) Go.Pn.aa hr
 have hlt:b < w1.heap.size:=(L3.1 hbk).1;have hb2:w2.heap[b]?=some (.cells #[.pointer (some ⟨b,0,none⟩),v] 325 (0,0)):=by
  rw [hgrow.block b (by simp;omega) (λe=>hne e.symm),Lib.alloc_old w1 _ b hlt];exact hbk
 have d0:w2.cell? ⟨b,0,none⟩=some (.pointer (some ⟨b,0,none⟩)):=by rw [N3 hb2];rfl
 have d1:w2.cell? ⟨b,1,none⟩=some v:=by rw [N3 hb2];rfl
 have f1:w2.frozen? ⟨b,1,none⟩=false:=Lib.frozen_of_heap hb2 1;obtain ⟨g,cap,rfl⟩:∃ g cap,v'=.slice (some ⟨g,0,none⟩) (bs.length + 1) cap:=by
  rcases hown'.2 with ⟨_,h0⟩ | ⟨g,cap,cur,hv,_⟩
  ·omega
  ·exact ⟨g,cap,hv⟩
 go_wp2_with (at_builtin;refine PO _ rfl _ _ _ _ rfl _ _ rfl rfl _ _ hr ?_)
 go_ret
 refine ⟨rfl,?_⟩;refine LJ (p:=.pointer none) (s:=bs) hx1 hne hb2 ((Pn.Ext.alloc _ w1 _).trans (Pn.eJ hgrow hdr)) (by simpa using hown') (λk hk=>?_);have:=hx1.size;rcases hat with h1 | h1
 ·exact .inl (by rw [← h1];exact hk)
 ·rw [h1] at hk;injection hk with hk;rw [World.size_alloc] at hk;exact .inr Go.Pn.aa
theorem fo {P:Program} {t u ty e:TypeId} {i:TypeInfo} (ht:P.underlying t=some (.slice e)) (hu:P.underlying u=some .string) (hi:P.info? e=some i) (hz:i.zero=some (.int .u8 0)) (hsize:i.size=1) (hby:i.bytes=1)
  {v v':Value} {n:Nat} {xs:QS} {w w':World} {s:QT} (hown:w.ownsRow 0 e 1 v n xs) (hb:n + s.size<=140737488355328) (hr:(Builtin.append_ #[t,u] ty #[v,.string s]).run P w=.ok v' w') :
  (∀ k,v'.ownBlock=some k->v.ownBlock=some k\/w.heap.size<=k)/\w.drawn<=w'.drawn:=by (have hxl:xs.length=n:=by simpa using hown.1);(rcases hown.2 with ⟨rfl,rfl⟩ | ⟨g,cap,cur,rfl,hbg,hg,hnc,hcm,hcs,htake⟩);by_cases hm:s.size=0;(have hn:Lib.strCells s=[]:=NR (by rw [PR];exact hm);have hf:=Lib.run_firstCells_string (P:=P) w 1 s;rw [hm] at hf;have:(Builtin.append_ #[t,u] ty #[.slice none 0 0,.string s]).run P w=.ok (.slice none 0 0) w:=by simp [Builtin.append_,run_underlying ht,run_underlying hu,sizeOf,typeInfo,hi,hsize,Builtin.lenOf,hm,hf]);rw [this] at hr;injection hr with h1 h2;subst h1 h2;exact ⟨λk hk=>by simp [Value.ownBlock] at hk,MG _⟩;have:=run_append_nil_string (P:=P) w t u ty e i (.int .u8 0) ht hu hi hz s Go.Pn.aa Go.Pn.aa (by rw [hby];omega);rw [this] at hr;injection hr with h1 h2;subst h1 h2;exact ⟨λk hk=>by simp [Value.ownBlock] at hk;exact .inr Go.Pn.aa,QD _⟩;by_cases hroom:n + s.size<=cap;have:=Lib.run_append_room_string (P:=P) w t u ty e i ht hu hi hsize g n cap cur hg s hroom Go.Pn.aa;rw [this] at hr;injection hr with h1 h2;subst h1 h2;exact ⟨λk hk=>.inl hk,MG _⟩;have:=Lib.run_append_grow_string (P:=P) w t u ty e i (.int .u8 0) ht hu hi hz ⟨g,0,none⟩ n cap xs (by rw [hsize];exact hown.1) (hown.cells rfl) s Go.Pn.aa Go.Pn.aa (growslice_fits Go.Pn.aa (by rw [hby];omega));rw [this] at hr;injection hr with h1 h2;subst h1 h2;exact ⟨λk hk=>by simp [Value.ownBlock] at hk;exact .inr Go.Pn.aa,QD _⟩
theorem bu_ws (b:Nat) (v:Value) (bs:QS) (s:QT) (w:World) (h:Pn.cx 325 5 b v bs w) (hlen:bs.length + s.size<=140737488355328) :
  Calls Tryz.prog 250 #[.pointer (some ⟨b,0,none⟩),.string s] w λe w'=>e=.returned (.tuple #[.int .i64 s.size,.nilIface])/\Pn.Ext (λk=>k=b\/v.ownBlock=some k) w w'/\∃ v',Pn.cx 325 5 b v' (bs ++ Lib.strCells s) w'/\∀ k,v'.ownBlock=some k->v.ownBlock=some k\/w.heap.size<=k:=by let ⟨i0,hi,hz0,hz1,hz2⟩:=info_parts (show (Tryz.prog.info? 5).map (λi=>(i.zero,i.size,i.bytes))=some (some (.int .u8 0),1,1) by kernel_rfl);have e240:∀ args w,(callFunc 296 args).run Tryz.prog w=.ok (.enter 296 args) w:=enters_of Tryz.func296 Go.Pn.ag rfl;go_enter Tryz.func250,Tryz.ntmps250;go_wp2_with (go_at_fn 296;refine (LH b v bs _ h).mono ?_);(rintro e w1 ⟨rfl,hbk,hown,hne,hx1⟩;have c0:w1.cell? ⟨b,0,none⟩=some (.pointer (some ⟨b,0,none⟩)):=by rw [N3 hbk];rfl);(have c1:w1.cell? ⟨b,1,none⟩=some v:=by rw [N3 hbk];rfl);(let ⟨v',w2,hr,hown',hgrow,_⟩:=Lib.run_append_own_string (P:=Tryz.prog) w1 0 46 9 46 5 i0 Tryz.underlying46 Tryz.underlying9 hi hz0 hz1 hz2 v bs.length bs hown s (by unfold maxLen;omega) hlen (NN _);have hat:=fo Tryz.underlying46 Tryz.underlying9 hi hz0 hz1 hz2 hown hlen hr;have hlt:b < w1.heap.size:=(L3.1 hbk).1;have hb2:w2.heap[b]?=some (.cells #[.pointer (some ⟨b,0,none⟩),v] 325 (0,0)):=by rw [hgrow.block b hlt (λe=>hne e.symm)];exact hbk);(have d0:w2.cell? ⟨b,0,none⟩=some (.pointer (some ⟨b,0,none⟩)):=by rw [N3 hb2];rfl);(have d1:w2.cell? ⟨b,1,none⟩=some v:=by rw [N3 hb2];rfl);(have f1:w2.frozen? ⟨b,1,none⟩=false:=Lib.frozen_of_heap hb2 1;obtain ⟨ao,n',cap,rfl⟩:∃ ao n' cap,v'=.slice ao n' cap:=by (rcases hown'.2 with ⟨hv,_⟩ | ⟨g,cap,cur,hv,_⟩);exact ⟨_,_,_,hv⟩;exact ⟨_,_,_,hv⟩);go_wp2_with (at_builtin;refine PO _ rfl _ _ _ _ rfl _ _ rfl rfl _ _ hr ?_);go_ret2;(refine ⟨rfl,?_⟩;refine LJ (p:=.pointer none) (s:=bs) hx1 hne hb2 (Pn.eJ hgrow hat.2) (by simpa [PR] using hown') (λk hk=>?_);have:=hx1.size;rcases hat.1 k hk with h1 | h1);exact .inl h1;exact .inr Go.Pn.aa
theorem jx {w:World} {g:Nat} (n:Nat) {M:Nat->Prop} (h:M g):Pn.Ext M w (w.freeze ⟨g,0,none⟩ n):=by unfold World.freeze;split;exact Pn.Ext.refl _ _;refine ⟨rfl,rfl,rfl,by simp,λk hk hn=>?_,MG _⟩;simp only [PE];rw [if_neg (λe=>hn (by rw [← e];exact h))]
theorem lC (b g cap:Nat) (p:Value) (cur:Array Value) (l:List UInt8) (w:World) (h0:l≠[]) (hbk:w.heap[b]?=some (.cells #[p,.slice (some ⟨g,0,none⟩) l.length cap] 325 (0,0))) (hg:w.heap[g]?=some (.cells cur 5 (0,0))) (hnc:l.length<=cap) (hcm:cap<=maxLen) (hcs:cur.size=cap) (htk:∀ j x,l[j]?=some x->w.cell? ((⟨g,0,none⟩:Addr).add j)=some (.int .u8 x.toNat)) :
  Calls Tryz.prog 253 #[.pointer (some ⟨b,0,none⟩)] w λe w'=>e=.returned (.string ⟨l.toArray⟩)/\Pn.Ext (λk=>k=g) w w':=by
 have hl0:l.length≠0:=by simpa using h0
 have c1:w.drew.cell? ⟨b,1,none⟩=some (.slice (some ⟨g,0,none⟩) l.length cap):=by
  have:w.drew.heap[b]?=some (.cells #[p,.slice (some ⟨g,0,none⟩) l.length cap] 325 (0,0)):=hbk;rw [N3 this];rfl
 have hSD:(Builtin.unsafeSliceData_ #[46] 373 #[.slice (some ⟨g,0,none⟩) l.length cap]).run Tryz.prog w.drew=.ok (.pointer (some ⟨g,0,none⟩)) w.drew:=
  Lib.run_unsafeSliceData_row _ _ _ _ _ _ Go.Pn.aa
 have hUS:(Builtin.unsafeString_ #[373,3] 9 #[.pointer (some ⟨g,0,none⟩),.int .i64 l.length]).run Tryz.prog w.drew=.ok (.string ⟨l.toArray⟩) (w.drew.freeze ⟨g,0,none⟩ l.length):=by
  refine Lib.run_unsafeString_row w.drew 373 3 9 5 Tryz.underlying373 Go.Pn.ag g cur.size (by have hg':w.drew.heap[g]?=some (.cells cur 5 (0,0)):=hg;simp [World.shape?,hg']) l h0 Go.Pn.aa (by unfold maxLen at hcm;omega) ?_;intro j x hx;exact htk j x hx
 have mixed:Tryz.prog.follows Departure.mixedOrders=true:=by kernel_rfl
 go_enter Tryz.func253,Tryz.ntmps253
 go_wp2
 go_region_o
 all_goals (go_wp2;go_ret;exact ⟨rfl,(Pn.Ext.drew _ w).trans (jx _ rfl)⟩)
theorem lD (b:Nat) (p:Value) (w:World) (hbk:w.heap[b]?=some (.cells #[p,.slice none 0 0] 325 (0,0))) :
  Calls Tryz.prog 253 #[.pointer (some ⟨b,0,none⟩)] w λe w'=>e=.returned (.string ⟨#[]⟩)/\Pn.Ext Pn.No w w':=by
 have hUS:∀ (W:World) (q:Option Addr),(Builtin.unsafeString_ #[373,3] 9 #[.pointer q,.int .i64 0]).run Tryz.prog W=.ok (.string .empty) W:=λW q=>P0 W _ _ _ q;have c1:w.drew.cell? ⟨b,1,none⟩=some (.slice none 0 0):=by
  have:w.drew.heap[b]?=some (.cells #[p,.slice none 0 0] 325 (0,0)):=hbk;rw [N3 this];rfl
 have hSD:(Builtin.unsafeSliceData_ #[46] 373 #[.slice none 0 0]).run Tryz.prog w.drew=.ok (.pointer none) w.drew:=rfl;have mixed:Tryz.prog.follows Departure.mixedOrders=true:=by kernel_rfl
 go_enter Tryz.func253,Tryz.ntmps253
 go_wp2
 go_region_o
 all_goals (go_wp2;go_ret;exact ⟨rfl,Pn.Ext.drew _ w⟩)
theorem jN (b g:Nat) (p:Value) (cur:Array Value) (w:World) (hbk:w.heap[b]?=some (.cells #[p,.slice (some ⟨g,0,none⟩) 0 0] 325 (0,0))) (hg:w.heap[g]?=some (.cells cur 5 (0,0))) :
  Calls Tryz.prog 253 #[.pointer (some ⟨b,0,none⟩)] w λe w'=>e=.returned (.string ⟨#[]⟩)/\Pn.Ext Pn.No w w':=by
 have hUS:∀ (W:World) (q:Option Addr),(Builtin.unsafeString_ #[373,3] 9 #[.pointer q,.int .i64 0]).run Tryz.prog W=.ok (.string .empty) W:=λW q=>P0 W _ _ _ q;have hlt:b < w.heap.size:=(L3.1 hbk).1;have c1:w.drew.cell? ⟨b,1,none⟩=some (.slice (some ⟨g,0,none⟩) 0 0):=by
  have:w.drew.heap[b]?=some (.cells #[p,.slice (some ⟨g,0,none⟩) 0 0] 325 (0,0)):=hbk;rw [N3 this];rfl
 have hSD:(Builtin.unsafeSliceData_ #[46] 373 #[.slice (some ⟨g,0,none⟩) 0 0]).run Tryz.prog w.drew=.ok (.pointer (some ⟨w.drew.heap.size,0,none⟩)) (w.drew.alloc (.view ⟨g,0,none⟩ 5)):=
  Lib.run_unsafeSliceData_zero w.drew _ _ 5 Tryz.underlying373 ⟨g,0,none⟩ 0 (5,cur.size) (by have hg':w.drew.heap[g]?=some (.cells cur 5 (0,0)):=hg;simp [World.shape?,hg'])
 have c2:(w.drew.alloc (.view ⟨g,0,none⟩ 5)).cell? ⟨b,1,none⟩=some (.slice (some ⟨g,0,none⟩) 0 0):=by
  have:(w.drew.alloc (.view ⟨g,0,none⟩ 5)).heap[b]?=_:=(Lib.alloc_old w.drew _ b hlt).trans hbk;rw [N3 this];rfl
 have c3:(w.alloc (.view ⟨g,0,none⟩ 5)).drew.cell? ⟨b,1,none⟩=some (.slice (some ⟨g,0,none⟩) 0 0):=c2;have c0:w.cell? ⟨b,1,none⟩=some (.slice (some ⟨g,0,none⟩) 0 0):=c1;have mixed:Tryz.prog.follows Departure.mixedOrders=true:=by kernel_rfl
 go_enter Tryz.func253,Tryz.ntmps253
 go_wp2
 go_region_o
 all_goals (go_wp2;go_ret;exact ⟨rfl,(Pn.Ext.drew _ w).trans (Pn.Ext.alloc _ _ _)⟩)
theorem jM (b g cap:Nat) (p:Value) (w:World) (hc0:cap≠0) (hbk:w.heap[b]?=some (.cells #[p,.slice (some ⟨g,0,none⟩) 0 cap] 325 (0,0))) :
  Calls Tryz.prog 253 #[.pointer (some ⟨b,0,none⟩)] w λe w'=>e=.returned (.string ⟨#[]⟩)/\Pn.Ext Pn.No w w':=by
 have hUS:∀ (W:World) (q:Option Addr),(Builtin.unsafeString_ #[373,3] 9 #[.pointer q,.int .i64 0]).run Tryz.prog W=.ok (.string .empty) W:=λW q=>P0 W _ _ _ q;have c1:w.drew.cell? ⟨b,1,none⟩=some (.slice (some ⟨g,0,none⟩) 0 cap):=by
  have:w.drew.heap[b]?=some (.cells #[p,.slice (some ⟨g,0,none⟩) 0 cap] 325 (0,0)):=hbk;rw [N3 this];rfl
 have hSD:(Builtin.unsafeSliceData_ #[46] 373 #[.slice (some ⟨g,0,none⟩) 0 cap]).run Tryz.prog w.drew=.ok (.pointer (some ⟨g,0,none⟩)) w.drew:=
  Lib.run_unsafeSliceData_row _ _ _ _ _ _ hc0
 clear hc0;have mixed:Tryz.prog.follows Departure.mixedOrders=true:=by kernel_rfl
 go_enter Tryz.func253,Tryz.ntmps253
 go_wp2
 go_region_o
 all_goals (go_wp2;go_ret;exact ⟨rfl,Pn.Ext.drew _ w⟩)
theorem bu_str (b:Nat) (v:Value) (l:List UInt8) (w:World) (h:Pn.cx 325 5 b v (Lib.byteCells l) w) :
  Calls Tryz.prog 253 #[.pointer (some ⟨b,0,none⟩)] w λe w'=>e=.returned (.string ⟨l.toArray⟩)/\Pn.Ext (λk=>k=b\/v.ownBlock=some k) w w':=by
 let ⟨⟨p,_,hb⟩,ho,hne⟩:=h;rw [Lib.byteCells_length] at ho;rcases ho.2 with ⟨rfl,h0⟩ | ⟨g,cap,cur,rfl,_,hg,hnc,hcm,hcs,htk⟩
 ·obtain rfl:=NR h0;exact (lD b p w hb).mono λe w' h=>⟨h.1,h.2.no⟩
 ·cases l with
  | nil=>
   by_cases hc:cap=0
   ·subst hc;exact (jN b g p cur w hb hg).mono λe w' h=>⟨h.1,h.2.no⟩
   ·exact (jM b g cap p w hc hb).mono λe w' h=>⟨h.1,h.2.no⟩
  | cons x r=>
   refine (lC b g cap p cur (x :: r) w Go.Pn.ah hb hg hnc hcm Go.Pn.aa ?_).mono λe w' h=>⟨h.1,h.2.mono λk _ hk=>.inr (by rw [hk];rfl)⟩;intro j x hx;exact ho.cells (g:=g) rfl j (.int .u8 x.toNat) (by simp only [Lib.byteCells,L7,hx,Option.map_some])
end Go.Proofs
namespace Go.Pn
open Go Go.RowKit
section
open Go.Proofs
def QX (f:Nat) (v0 v1:QT):Option QT:=if v1.size + v0.size<=1000000000 then some (v1 ++ v0) else none
theorem QY (f n0:Nat) (v0 v1 r:QT) (hm:QX f v0 v1=some r):Cg Tryz.prog 250 [Qv (pb n0 0),Va v0] [Bw 325 5 n0 (v1)] (Rz (λx:Unit=>Dd) (λx=>[Bw 325 5 n0 (r)])):=by
 unfold QX at hm;split at hm
 case isFalse=>cases hm
 rename_i hb;obtain rfl:=Option.some.inj hm;refine qK (vs0:=λ_=>[pb n0 0,.string v0]) (R:=.tuple #[.int .i64 v0.size,.nilIface]) ag ?_ ?_
 ·intro M w vs hf
  match vs,hf with
  | [a,b],⟨⟨_,ha⟩,hb,_⟩=>rw [show a=pb n0 0 from ha,Va.str hb]
 ·intro vs v w M hf h;refine (Proofs.bu_ws n0 v (Lib.strCells v1) v0 w h (by rw [PR];omega)).mono ?_;rintro e w' ⟨rfl,h1,v',h2,h3⟩;refine ⟨rfl,h1,v',?_,h3⟩;have:Lib.strCells (v1 ++ v0)=Lib.strCells v1 ++ Lib.strCells v0:=by simp [Lib.strCells]
  rw [this];exact h2
def QZ (f:Nat) (v0:UInt8) (v1:QT):Option QT:=if v1.size + 1<=1000000000 then some (v1.push v0) else none
theorem nZ (f n0:Nat) (v0:UInt8) (v1 r:QT) (hm:QZ f v0 v1=some r):Cg Tryz.prog 251 [Qv (pb n0 0),Va v0] [Bw 325 5 n0 (v1)] (Rz (λx:Unit=>Dd) (λx=>[Bw 325 5 n0 (r)])):=by
 unfold QZ at hm;split at hm
 case isFalse=>cases hm
 rename_i hb;obtain rfl:=Option.some.inj hm;refine qK (vs0:=λ_=>[pb n0 0,.int .u8 v0.toNat]) (R:=.nilIface) ag ?_ ?_
 ·intro M w vs hf
  match vs,hf with
  | [a,b],⟨⟨_,ha⟩,hb,_⟩=>rw [show a=pb n0 0 from ha,Va.byte hb]
 ·intro vs v w M hf h;refine (Proofs.bu_wb n0 v (Lib.strCells v1) v0.toNat w h (by rw [PR];omega)).mono ?_;rintro e w' ⟨rfl,h1,v',h2,h3⟩;refine ⟨rfl,h1,v',?_,h3⟩;have:Lib.strCells (v1.push v0)=Lib.strCells v1 ++ [.int .u8 v0.toNat]:=by simp [Lib.strCells,ByteArray.push]
  rw [this];exact h2
def Q0 (f:Nat) (v0:QT):Option QT:=some v0
theorem Q1 (f n0:Nat) (v0 r:QT) (hm:Q0 f v0=some r):Cg Tryz.prog 253 [Qv (pb n0 0)] [Bw 325 5 n0 (v0)] (Rz (λx:Unit=>Va (r)) (λx=>[Dd])):=by
 obtain rfl:=Option.some.inj hm;refine ⟨ag,λvs M w Ft hM hf ho hnd hFM=>?_⟩;obtain ⟨F1,_,rfl,hown,rfl⟩:=ho;obtain ⟨v,rfl,hb⟩:=hown undef
 match vs,hf with
 | [a],⟨⟨_,ha⟩,_⟩=>
  rw [show a=pb n0 0 from ha];refine (Proofs.bu_str n0 v v0.data.toList w (by rw [← Lib.strCells_eq];exact hb)).mono ?_;rintro e w' ⟨rfl,hx⟩;refine ⟨_,[],rfl,hx.mono λk _ hk=>?_,ND,by simp,(),?_⟩
  ·rcases hk with rfl | hk
   ·simp
   ·simp [hk]
  ·exact ⟨Va.mkStr,[],[],rfl,λ_=>rfl,rfl⟩
end
section
open Go.Proofs
@[reducible] def lk:Cx->Nat->Option Ent
 | [],_=>none
 | (s,e) :: Γ,t=>match Nat.beq s t with | true=>some e | false=>lk Γ t
theorem Bu:∀ (Γ:Cx) (n:Nat),lk Γ n=Ao Γ n
 | [],_=>rfl
 | (s,e) :: Γ,t=>by
  show (match Nat.beq s t with | true=>some e | false=>lk Γ t)=(match Nat.beq s t with | true=>some e | false=>Ao Γ t)
  rw [Bu Γ t]
@[reducible] def kd:List Oper->Nat->Option Tmp
 | [],_=>none
 | o :: _,0=>o.dst
 | _ :: l,j + 1=>kd l j
theorem ip:∀ (l:List Oper) (j:Nat) (d:Tmp),kd l j=some d->(l[j]?).bind (·.dst)=some d
 | [],_,_,h=>by cases h
 | o :: l,0,d,h=>h
 | o :: l,j + 1,d,h=>by simpa using ip l j d h
class Lk (o:Option Ent) (e:outParam Ent):Prop where h:o=some e
instance {e:Ent}:Lk (some e) e:=⟨rfl⟩
@[reducible] def lk2:Cx->Cx->Nat->Option Ent
 | [],Γ,t=>lk Γ t
 | (s,e) :: Δ,Γ,t=>match Nat.beq s t with | true=>some e | false=>lk2 Δ Γ t
theorem Uh:∀ (Δ Γ:Cx) (n:Nat),lk2 Δ Γ n=lk (Δ ++ Γ) n
 | [],_,_=>rfl
 | (s,e) :: Δ,Γ,t=>by
  show (match Nat.beq s t with | true=>some e | false=>lk2 Δ Γ t)=(match Nat.beq s t with | true=>some e | false=>lk (Δ ++ Γ) t)
  rw [Uh Δ Γ t]
instance {Δ Γ:Cx} {n:Nat} {e:Ent} [h:Lk (lk2 Δ Γ n) e]:Lk (lk (Δ ++ Γ) n) e:=⟨(Uh _ _ _).symm.trans h.h⟩
class Gt (o:Option Tmp) (e:outParam Tmp):Prop where h:o=some e
instance {e:Tmp}:Gt (some e) e:=⟨rfl⟩
theorem jw {ops:Array Oper} {L:List Oper} {j d:Nat} (ho:ops.toList=L) (h:kd L j=some d):(ops[j]?).bind (·.dst)=some d:=by subst ho;have:=ip _ _ _ h;rwa [OQ] at this
@[reducible] def LK (d n:Nat):Option Unit:=match Nat.ble n d with | true=>none | false=>some ()
class Bf (b:Option Unit):Prop where h:b=some ()
instance:Bf (some ()):=⟨rfl⟩
theorem Bf.lt {d n:Nat} (h:Bf (LK d n)):Nat.blt d n=true:=by
 have h:=h.h;unfold LK at h;split at h
 ·cases h
 ·rename_i hb;cases hc:Nat.blt d n with
  | true=>rfl
  | false=>
   have h1:¬ d < n:=λhd=>by
    have:Nat.blt d n=true:=P7 hd;rw [this] at hc;cases hc
   have h2:Nat.ble n d=true:=P7 aa;rw [h2] at hb;cases hb
class AD (g:Prop) (Γ:Cx) (x:Operand) (e:outParam Ent):Prop where h:g->Od Γ x e
class AO (g:Prop) (P:Program) (op:Op) (Γ:Cx) (e:outParam Ent):Prop where h:g->∀ ty,OR P op ty Γ e
class Ug (g:Prop) (e:Ent) (e':outParam Ent):Prop where h:g->∀ F M w v,e.p F M w v->e'.p F M w v
section
variable {g:Prop} {P:Program} {Γ:Cx}
instance (priority:=low) {e:Ent}:Ug g e e:=⟨λ_ _ _ _ _ h=>h⟩
instance {b c:Bool} {e:Ent}:Ug (b=c) (Gd b c e) e:=⟨λhb _ _ _ _ h=>h.1 hb⟩
instance {b c b2 w:Bool} {e:Ent}:Ug (b=c/\b2=w) (Gd ((b == c) && (b2 == w)) true e) e:=⟨λhb _ _ _ _ h=>h.1 (g2 hb.1 hb.2)⟩
instance {n:Nat} {e e':Ent} [Lk (lk Γ n) e] [Ug g e e']:AD g Γ (.tmp n) e':=⟨λhg ρ M w r=>let ⟨F,hF⟩:=t ((Bu _ _).symm.trans Lk.h) ρ M w r;⟨F,Ug.h hg _ _ _ _ hF⟩⟩
instance {n:Int}:AD g Γ (.const (.int .i64 n)) (Va n):=⟨λ_=>ci⟩
instance {n:Bool}:AD g Γ (.const (.bool n)) (Va n):=⟨λ_=>cb⟩
instance {n:QT}:AD g Γ (.const (.string n)) (Va n):=⟨λ_=>cs⟩
instance (priority:=low) {n:Value}:AD g Γ (.const n) (Qv n):=⟨λ_=>cq⟩
instance {x:Operand} {α:Type} {_:Rep α} {y:α} [AD g Γ x (Va y)]:AO g P (.move x) Γ (Va y):=⟨λh _=>mv (AD.h h)⟩
instance {x:Operand} {α:Type} {_:Rep α} {y:α} [AD g Γ x (Va y)]:AO g P (.assign x) Γ (Va y):=⟨λh _=>sa (AD.h h)⟩
instance {x:Operand} {c:Value} [AD g Γ x (Qv c)]:AO g P (.move x) Γ (Qv c):=⟨λh _=>aD (AD.h h)⟩
instance {x:Operand} {c:Value} [AD g Γ x (Qv c)]:AO g P (.assign x) Γ (Qv c):=⟨λh _=>aL (AD.h h)⟩
instance (priority:=low) {x:Operand} {e:Ent} [AD g Γ x e] [Zf e]:AO g P (.move x) Γ e:=⟨λh _=>dm (AD.h h)⟩
instance {x y:Operand} {T T':TypeId} {m n:Int} [AD g Γ x (Va m)] [AD g Γ y (Va n)]:AO g P (.binOp .lss T x y T') Γ (Va (decide (m < n))):=⟨λh _=>lt (AD.h h) (AD.h h)⟩
instance {x y:Operand} {T T':TypeId} {m n:Int} [AD g Γ x (Va m)] [AD g Γ y (Va n)]:AO g P (.binOp .leq T x y T') Γ (Va (decide (m<=n))):=⟨λh _=>le (AD.h h) (AD.h h)⟩
instance {x y:Operand} {T T':TypeId} {m n:Int} [AD g Γ x (Va m)] [AD g Γ y (Va n)]:AO g P (.binOp .gtr T x y T') Γ (Va (decide (m > n))):=⟨λh _=>gt (AD.h h) (AD.h h)⟩
instance {x y:Operand} {T T':TypeId} {m n:Int} [AD g Γ x (Va m)] [AD g Γ y (Va n)]:AO g P (.binOp .geq T x y T') Γ (Va (decide (m>=n))):=⟨λh _=>ge (AD.h h) (AD.h h)⟩
instance {x y:Operand} {T T':TypeId} {m n:Int} [AD g Γ x (Va m)] [AD g Γ y (Va n)]:AO g P (.binOp .eql T x y T') Γ (Va (m == n)):=⟨λh _=>eq (AD.h h) (AD.h h)⟩
instance {x y:Operand} {T T':TypeId} {m n:Int} [AD g Γ x (Va m)] [AD g Γ y (Va n)]:AO g P (.binOp .neq T x y T') Γ (Va (m != n)):=⟨λh _=>ne (AD.h h) (AD.h h)⟩
instance {x y:Operand} {T T':TypeId} {m n:Int} [AD g Γ x (Va m)] [AD g Γ y (Va n)]:AO g P (.binOp .add T x y T') Γ (Va (wr (m + n))):=⟨λh _=>ad (AD.h h) (AD.h h)⟩
instance {x y:Operand} {T T':TypeId} {m n:Int} [AD g Γ x (Va m)] [AD g Γ y (Va n)]:AO g P (.binOp .sub T x y T') Γ (Va (wr (m - n))):=⟨λh _=>sb (AD.h h) (AD.h h)⟩
instance {x y:Operand} {T T':TypeId} {m n:Int} [AD g Γ x (Va m)] [AD g Γ y (Va n)]:AO g P (.binOp .mul T x y T') Γ (Va (wr (m * n))):=⟨λh _=>ml (AD.h h) (AD.h h)⟩
instance {x y:Operand} {T T':TypeId} {m n:QT} [AD g Γ x (Va m)] [AD g Γ y (Va n)]:AO g P (.binOp .eql T x y T') Γ (Va (m.toList == n.toList)):=⟨λh _=>seq (AD.h h) (AD.h h)⟩
instance {x:Operand} {T:TypeId} {b:Bool} [AD g Γ x (Va b)]:AO g P (.unOp .not T x) Γ (Va (!b)):=⟨λh _=>nt (AD.h h)⟩
instance {x:Operand} {e1 e2:Ent} [AD g Γ x (T2 e1 e2)] [Zf e1]:AO g P (.extract x 0) Γ e1:=⟨λh _=>x20 (AD.h h)⟩
instance {x:Operand} {e1 e2:Ent} [AD g Γ x (T2 e1 e2)] [Zf e2]:AO g P (.extract x 1) Γ e2:=⟨λh _=>x21 (AD.h h)⟩
instance {x:Operand} {e1 e2 e3:Ent} [AD g Γ x (T3 e1 e2 e3)] [Zf e1]:AO g P (.extract x 0) Γ e1:=⟨λh _=>Pn.x30 (AD.h h)⟩
instance {x:Operand} {e1 e2 e3:Ent} [AD g Γ x (T3 e1 e2 e3)] [Zf e2]:AO g P (.extract x 1) Γ e2:=⟨λh _=>Pn.x31 (AD.h h)⟩
instance {x:Operand} {e1 e2 e3:Ent} [AD g Γ x (T3 e1 e2 e3)] [Zf e3]:AO g P (.extract x 2) Γ e3:=⟨λh _=>Pn.x32 (AD.h h)⟩
instance {T:TypeId} {x:Operand} {α:Type} {_:Rep α} {y:α} [AD g Γ x (Pt y)] [Ty P T α]:AO g P (.load T x) Γ (Va y):=⟨λh _=>ld (AD.h h)⟩
instance {x:Operand} {b o:Nat} [AD g Γ x (Qv (pb b o))]:AO g P (.nilCheck x) Γ (Qv (pb b o)):=⟨λh _=>cw (AD.h h)⟩
instance {x y:Operand} {T':TypeId} {b c:Bool} [AD g Γ x (Va b)] [AD g Γ y (Va c)]:AO g Tryz.prog (.binOp .eql 4 x y T') Γ (Va (b == c)):=⟨λh _=>beq (AD.h h) (AD.h h) Tryz.underlying4⟩
instance {x y:Operand} {T':TypeId} {b c:Bool} [AD g Γ x (Va b)] [AD g Γ y (Va c)]:AO g Tryz.prog (.binOp .neq 4 x y T') Γ (Va (b != c)):=⟨λh _=>qL (AD.h h) (AD.h h) Tryz.underlying4⟩
instance {x:Operand} {b:QT} [AD g Γ x (Va b)]:AO g Tryz.prog (.call { callee:=.builtin .len,args:=#[x],argTypes:=#[9] }) Γ (Va (b.size:Int)):=⟨λh _=>lns (AD.h h) Tryz.underlying9⟩
class AF (P:Program) (S k:Nat) (α:Type) (hα:Rep α) (β:outParam Type) (hβ:outParam (Rep β)) (f:outParam (α->β)):Prop where h:Fd P S k f
set_option synthInstance.checkSynthOrder false in
instance {S k:Nat} {α β:Type} {hα:Rep α} {hβ:Rep β} {f:α->β} [h:Fd P S k f]:AF P S k α hα β hβ f:=⟨h⟩
instance {S k:Nat} {x:Operand} {α β:Type} {hα:Rep α} {hβ:Rep β} {f:α->β} {y:α} [AD g Γ x (Pt y)] [h:AF P S k α hα β hβ f]:AO g P (.fieldAddr S x k) Γ (Pt (f y)):=⟨λhg _=>have:=h.h;fa (AD.h hg)⟩
instance {T:TypeId} {x:Operand} {α:Type} {_:Rep α} {y:α} [AD g Γ x (Va y)]:AO g P (.box T x) Γ (Pt y):=⟨λh _=>bx (AD.h h)⟩
instance {T:TypeId} {x:Operand} {α:Type} {_:Rep α} {xs:List α} [AD g Γ x (Va xs)] [Es P T α]:AO g P (.call { callee:=.builtin .len,args:=#[x],argTypes:=#[T] }) Γ (Va (xs.length:Int)):=⟨λh _=>ln (AD.h h)⟩
instance {c:Operand} {m:Nat} {b p:Bool} [AD g Γ c (Va b)] [hx:Lk (lk Γ m) (Gd b true (Va p))]:AO g P (.pick c (.tmp m) (.const (.bool false))) Γ (Va (b && p)):=⟨λh _=>paP (AD.h h) ((Bu _ _).symm.trans hx.h)⟩
instance {c:Operand} {m:Nat} {b p:Bool} [AD g Γ c (Va b)] [hx:Lk (lk Γ m) (Gd b false (Va p))]:AO g P (.pick c (.const (.bool true)) (.tmp m)) Γ (Va (b || p)):=⟨λh _=>l6 (AD.h h) ((Bu _ _).symm.trans hx.h)⟩
class ADl (g:Prop) (Γ:Cx) (xs:List Operand) (es:List Ent):Prop where h:g->Odl Γ xs es
instance:ADl g Γ [] []:=⟨λ_=>on⟩
instance {x:Operand} {xs:List Operand} {e:Ent} {es:List Ent} [AD g Γ x e] [Zf e] [ADl g Γ xs es]:ADl g Γ (x :: xs) (e :: es):=⟨λh=>oc (AD.h h) (ADl.h h)⟩
class Rn (P:Program) (L:List Oper) (n k:Nat) (l:List Oper) (Γ:Cx) (l':outParam (List Oper)) (Γ':outParam Cx):Prop where
 h:∀ {M0 w0 a w ops Q rr},ops.toList=L->St M0 w0 n Γ a w->(∀ a w,St M0 w0 n Γ' a w->wpListIn (Fr rr) 0 P ops Q l' a w)->wpListIn (Fr rr) 0 P ops Q l a w
variable {L:List Oper} {n k:Nat}
instance {l:List Oper}:Rn P L n 0 l Γ l Γ:=⟨λ_ s h=>h _ _ s⟩
instance {op:Op} {d:Tmp} {ty:TypeId} {pos:String} {ai:Array Edge} {rest l':List Oper} {e:Ent} {Γ':Cx} [AO True P op Γ e] [hn:Bf (LK d n)] [hr:Rn P L n k rest ((d,e) :: Γ) l' Γ'] :
  Rn P L n (k + 1) (⟨some d,op,ty,pos,ai,none⟩ :: rest) Γ l' Γ':=⟨λho s h=>sq s (AO.h trivial ty) hn.lt λ_ _ s=>hr.h ho s h⟩
instance {op:Op} {d j dj:Tmp} {b want:Bool} {ty:TypeId} {pos:String} {ai:Array Edge} {rest l':List Oper} {e:Ent} {Γ':Cx} [hj:Gt (kd L j) dj] [hl:Lk (lk Γ dj) (Va b)] [AO (b=want) P op Γ e] [hn:Bf (LK d n)] [hr:Rn P L n k rest ((d,Gd b want e) :: Γ) l' Γ'] :
  Rn P L n (k + 1) (⟨some d,op,ty,pos,ai,some (j,want)⟩ :: rest) Γ l' Γ':=⟨λho s h=>sg s (jw ho hj.h) ((Bu _ _).symm.trans hl.h) (λhb=>AO.h hb ty) hn.lt λ_ _ s=>hr.h ho s h⟩
instance {op:Op} {d j dj:Tmp} {b c b2 want:Bool} {ty:TypeId} {pos:String} {ai:Array Edge} {rest l':List Oper} {e:Ent} {Γ':Cx} [hj:Gt (kd L j) dj] [hl:Lk (lk Γ dj) (Gd b c (Va b2))] [AO (b=c/\b2=want) P op Γ e] [hn:Bf (LK d n)] [hr:Rn P L n k rest ((d,Gd ((b == c) && (b2 == want)) true e) :: Γ) l' Γ'] :
  Rn P L n (k + 1) (⟨some d,op,ty,pos,ai,some (j,want)⟩ :: rest) Γ l' Γ':=⟨λho s h=>sn s (jw ho hj.h) ((Bu _ _).symm.trans hl.h) (λhb hc=>AO.h (g:=b=c/\b2=want) ⟨hb,hc⟩ ty) hn.lt λ_ _ s=>hr.h ho s h⟩
theorem ru {ops:Array Oper} {l l':List Oper} {Γ':Cx} {M0:Fm} {w0:World} {a:Act} {w:World} {Q:Exit->Act->World->Prop} {rr:Option Nat} (k:Nat) (s:St M0 w0 n Γ a w) [hr:Rn P ops.toList n k l Γ l' Γ'] (h:∀ a w,St M0 w0 n Γ' a w->wpListIn (Fr rr) 0 P ops Q l' a w):wpListIn (Fr rr) 0 P ops Q l a w:=hr.h rfl s h
end
end
section
open Go.Proofs
section
variable {rr:Option Nat} {P:Program} {M0:Fm} {w0:World} {n:Nat} {Γ:Cx} {Q:Exit->Act->World->Prop} {a:Act} {w:World} {ty:TypeId}
theorem la {c:Code} {id:Nat} {S τ:Type} {m:Nat->S->Option S} {f:Nat} {s0:S} {k:S->Option τ} {r:τ} (hm:(m f s0).bind k=some r) (I:S->Act->World->Prop) (h0:I s0 a w) (hz:∀ s,m 0 s=none)
  (hb:∀ o,k o=some r->∀ n z a w,m (n + 1) z=some o->I z a w->c.wpIn (Fr rr) 0 P (Exit.then (λa' w'=>∃ s',m n s'=some o/\I s' a' w') (Exit.inBlock id (Exit.then (I o) Q))) a w)
  (hc:∀ o,k o=some r->∀ a w,I o a w->Q .normal a w):(Code.block id (Code.loop c)).wpIn (Fr rr) 0 P Q a w:=by let ⟨o,ho,hk⟩:=bs hm;exact eI (I o) (wpIn_block (ey m o I f s0 h0 ho hz λn z a w hm s=>hb o hk n z a w hm s)) (hc o hk)
theorem lb {c:Code} {id:Nat} {S ρ τ:Type} {m:Nat->S->Option (Lo S ρ)} {f:Nat} {s0:S} {k:Lo S ρ->Option τ} {r:τ} (hm:(m f s0).bind k=some r) (I:S->Act->World->Prop) (h0:I s0 a w) (hz:∀ s,m 0 s=none)
  (hb:∀ o,k o=some r->∀ n z a w,m (n + 1) z=some o->I z a w->c.wpIn (Fr rr) 0 P (Exit.then (λa' w'=>∃ s',m n s'=some o/\I s' a' w') (Exit.inBlock id (Exit.then (λa w=>∃ z,o=.brk z/\I z a w) Q))) a w)
  (hc:∀ z,k (.brk z)=some r->∀ a w,I z a w->Q .normal a w):(Code.block id (Code.loop c)).wpIn (Fr rr) 0 P Q a w:=by let ⟨o,ho,hk⟩:=bs hm;exact kZ o I (wpIn_block (ey m o I f s0 h0 ho hz λn z a w hm s=>hb o hk n z a w hm s)) λz a w e h=>by subst e;exact hc z hk a w h
theorem R {id:Nat} {ops:Array Oper} {d:Code} {Γ':Cx} (k:Nat) (s:St M0 w0 n Γ a w) [hr:Rn P ops.toList n k ops.toList Γ [] Γ'] (h:∀ a w,St M0 w0 n Γ' a w->d.wpIn (Fr rr) 0 P Q a w):(Code.seq (Code.region id ops false) d).wpIn (Fr rr) 0 P Q a w:=
 se (rg (hr.h rfl s λ_ _ s=>nl (h _ _ s)))
theorem R0 {id:Nat} {ops:Array Oper} {Γ':Cx} (k:Nat) (s:St M0 w0 n Γ a w) [hr:Rn P ops.toList n k ops.toList Γ [] Γ'] (h:∀ a w,St M0 w0 n Γ' a w->Q .normal a w):(Code.region id ops false).wpIn (Fr rr) 0 P Q a w:=
 rg (hr.h rfl s λ_ _ s=>nl (h _ _ s))
theorem aj {t:Nat} {b:Bool} {c:Code} {ρ:Type} {x y:Option ρ} {r:ρ} (hs:St M0 w0 n Γ a w) [hl:Lk (lk Γ t) (Va b)] (hm:(bif b then x else y)=some r)
  (ht:b=true->x=some r->c.wpIn (Fr rr) 0 P Q a w) (hf:b=false->y=some r->Q .normal a w):(Code.cond (.tmp t) c .skip).wpIn (Fr rr) 0 P Q a w:=
 cm hs ((Bu _ _).symm.trans hl.h) hm ht λh1 h2=>wpIn_skip (hf h1 h2)
theorem ax {t:Nat} {b:Bool} {d:Code} {ρ:Type} {x y:Option ρ} {r:ρ} (hs:St M0 w0 n Γ a w) [hl:Lk (lk Γ t) (Va b)] (hm:(bif b then x else y)=some r)
  (ht:b=true->x=some r->Q .normal a w) (hf:b=false->y=some r->d.wpIn (Fr rr) 0 P Q a w):(Code.cond (.tmp t) .skip d).wpIn (Fr rr) 0 P Q a w:=
 cm hs ((Bu _ _).symm.trans hl.h) hm (λh1 h2=>wpIn_skip (ht h1 h2)) hf
theorem cM {t:Nat} {b:Bool} {c d:Code} {ρ:Type} {x y:Option ρ} {r:ρ} (hs:St M0 w0 n Γ a w) [hl:Lk (lk Γ t) (Va b)] (hm:(bif b then x else y)=some r)
  (ht:b=true->x=some r->c.wpIn (Fr rr) 0 P Q a w) (hf:b=false->y=some r->d.wpIn (Fr rr) 0 P Q a w):(Code.cond (.tmp t) c d).wpIn (Fr rr) 0 P Q a w:=
 cm hs ((Bu _ _).symm.trans hl.h) hm ht hf
class qO (Γ:Cx) (xs:Array Operand) (es:List Ent):Prop where h:Odl Γ xs.toList es
instance {xs:List Operand} {es:List Ent} [h:ADl True Γ xs es]:qO Γ xs.toArray es:=⟨h.h trivial⟩
theorem cB {ops:Array Oper} {rest:List Oper} {d:Nat} {f:FuncId} {A:Array TypeId} {args:Array Operand} {ps:List Ent} {pos:String} {ai:Array Edge} {ρ τ:Type} {m:Option ρ} {k:ρ->Option τ} {r:τ} {E:ρ->Ent} (hs:St M0 w0 n Γ a w) (hm:m.bind k=some r)
  (c:∀ x,m=some x->Sp P f ps (E x)) [hA:qO Γ args ps] [hn:Bf (LK d n)]
  (cont:∀ x,k x=some r->∀ a' w',St M0 w0 n ((d,E x) :: Γ) a' w'->wpListIn (Fr rr) 0 P ops Q rest a' w') :
  wpListIn (Fr rr) 0 P ops Q (⟨some d,.call { callee:=.value (.func f),args:=args,argTypes:=A },ty,pos,ai,none⟩ :: rest) a w:=
 let ⟨x,hx,hk⟩:=bs hm;sq hs (cc rfl hA.h (c x hx)) hn.lt (cont x hk)
theorem iB {ops:Array Oper} {rest:List Oper} {d T:Nat} {x i:Operand} {pos:String} {ai:Array Edge} {τ α:Type} {hα:Rep α} {xs:List α} {v:Int} {k:α->Option τ} {r:τ} (hs:St M0 w0 n Γ a w) (hm:(idx xs v).bind k=some r)
  [hx:AD True Γ x (Va xs)] [hi:AD True Γ i (Va v)] [he:Es P T α] [hn:Bf (LK d n)]
  (cont:∀ x,k x=some r->∀ a' w',St M0 w0 n ((d,Pt x) :: Γ) a' w'->wpListIn (Fr rr) 0 P ops Q rest a' w') :
  wpListIn (Fr rr) 0 P ops Q (⟨some d,.indexAddr T x i,ty,pos,ai,none⟩ :: rest) a w:=
 let ⟨_,hx',hk⟩:=bs hm;sq hs (ix (hx.h trivial) (hi.h trivial) hx') hn.lt (cont _ hk)
class Su (Γ' Γ:Cx):Prop where h:∀ t e,Ao Γ' t=some e->Ao Γ t=some e
instance:Su [] Γ:=⟨λ_ _ h=>by cases h⟩
instance {k:Nat} {e:Ent} {Γ':Cx} [h:Lk (lk Γ k) e] [h':Su Γ' Γ]:Su ((k,e) :: Γ') Γ:=⟨λt e1 he=>by
 rw [Aj] at he;unfold put at he;split at he
 ·rename_i ht;subst ht;cases he;exact (Bu _ _).symm.trans h.h
 ·exact h'.h t e1 he⟩
theorem St.fi {Γ':Cx} (s:St M0 w0 n Γ a w) [h:Su Γ' Γ]:St M0 w0 n Γ' a w:=StF.less s h.h
end
section
variable {P:Program} {M0:Fm} {w0:World} {n:Nat} {Γ:Cx} {a:Act} {w:World}
@[reducible] def j5 (k d:Nat):Option Unit:=match Nat.beq k d with | true=>none | false=>some ()
theorem fK {k d:Nat} (h:Bf (j5 k d)):Nat.beq k d=false:=by have h:=h.h;unfold j5 at h;split at h;cases h;assumption
class AG (Γ:Cx) (b:Nat) (K:outParam Nat) (e:outParam Ent):Prop where h:Ao Γ K=some e
instance {α:Type} {_:Rep α} {K b:Nat} {x:α}:AG ((K,Mg b x) :: Γ) b K (Mg b x):=⟨by simp [Ao]⟩
instance (priority:=low) {K k b:Nat} {e e':Ent} [h:AG Γ b K e] [hn:Bf (j5 k K)]:AG ((k,e') :: Γ) b K e:=⟨by
 have:=fK hn;show (match Nat.beq k K with | true=>some e' | false=>Ao Γ K)=some e
 rw [this];exact h.h⟩
instance {K b:Nat} {e:Ent} [h:AG Γ b K e]:AG ([] ++ Γ) b K e:=⟨h.h⟩
instance {K b:Nat} {p:Nat×Ent} {Δ:Cx} {e:Ent} [h:AG (p :: (Δ ++ Γ)) b K e]:AG ((p :: Δ) ++ Γ) b K e:=⟨h.h⟩
class AC (Γ:Cx) (c:Value) (K:outParam Nat) (e:outParam Ent):Prop where h:Ao Γ K=some (At c e)
instance {K:Nat} {c:Value} {e:Ent}:AC ((K,At c e) :: Γ) c K e:=⟨by simp [Ao]⟩
class RC (P:Program) (Γ:Cx) (r:ResultVar) (e:Ent):Prop where h:RS P Γ r e
instance {t:Nat} {e:Ent} [h:Lk (lk Γ t) e] [Zf e]:RC P Γ (.tmp t) e:=⟨rt ((Bu _ _).symm.trans h.h)⟩
instance {t m:Nat} {α:Type} {_:Rep α} [h:Lk (lk Γ t) (Qv (.slice none 0 m))]:RC P Γ (.tmp t) (Va ([]:List α)):=⟨ro (eX (Pn.t ((Bu _ _).symm.trans h.h)))⟩
instance {t T K b:Nat} {α:Type} {_:Rep α} {x:α} [h:Lk (lk Γ t) (Qv (pb b 0))] [h2:AG Γ b K (Mg b x)] [Ty P T α]:RC P Γ (.cell t T) (Va x):=⟨rc ((Bu _ _).symm.trans h.h) h2.h⟩
class kp (P:Program) (Γ:Cx) (rs:Array ResultVar) (e:Ent):Prop where h:RV P Γ rs e
instance {r:ResultVar} {e:Ent} [h:RC P Γ r e]:kp P Γ #[r] e:=⟨rv1 h.h⟩
instance {r1 r2:ResultVar} {e1 e2:Ent} [h1:RC P Γ r1 e1] [h2:RC P Γ r2 e2]:kp P Γ #[r1,r2] (T2 e1 e2):=⟨rv2 h1.h h2.h⟩
instance {r1 r2 r3:ResultVar} {e1 e2 e3:Ent} [h1:RC P Γ r1 e1] [h2:RC P Γ r2 e2] [h3:RC P Γ r3 e3]:kp P Γ #[r1,r2,r3] (T3 e1 e2 e3):=⟨rv3 h1.h h2.h h3.h⟩
theorem rT {fn:Func} {rr:Option Nat} {Q:Exit->Act->World->Prop} {e:Ent} {r1:ResultVar} (hD:M0.ds=[]) (hs:St M0 w0 n Γ a w) (hq:eK P fn (cU M0 w0 e) .ret a w=Q .ret a w) (hr:fn.results=#[r1]) [h:kp P Γ #[r1] e]:Code.ret.wpIn (Fr rr) 0 P Q a w:=wpIn_ret (hq ▸ rn hD hs hr h.h)
theorem rU {fn:Func} {rr:Option Nat} {Q:Exit->Act->World->Prop} {e:Ent} {r1 r2:ResultVar} (hD:M0.ds=[]) (hs:St M0 w0 n Γ a w) (hq:eK P fn (cU M0 w0 e) .ret a w=Q .ret a w) (hr:fn.results=#[r1,r2]) [h:kp P Γ #[r1,r2] e]:Code.ret.wpIn (Fr rr) 0 P Q a w:=wpIn_ret (hq ▸ rn hD hs hr h.h)
theorem rV {fn:Func} {rr:Option Nat} {Q:Exit->Act->World->Prop} {e:Ent} {r1 r2 r3:ResultVar} (hD:M0.ds=[]) (hs:St M0 w0 n Γ a w) (hq:eK P fn (cU M0 w0 e) .ret a w=Q .ret a w) (hr:fn.results=#[r1,r2,r3]) [h:kp P Γ #[r1,r2,r3] e]:Code.ret.wpIn (Fr rr) 0 P Q a w:=wpIn_ret (hq ▸ rn hD hs hr h.h)
end
end
section
set_option synthInstance.checkSynthOrder false
class Kw (g:Prop) {ρ:Type} (m:Option ρ) (x:outParam ρ):Prop where h:g->m=some x
theorem Kw.e {ρ:Type} {m:Option ρ} {x:ρ} (h:Kw True m x):m=some x:=h.h trivial
theorem bk {α β:Type} {o:Option α} {f:α->Option β} {r:β} (h:o.bind f=some r):∃ x,Kw True o x/\f x=some r:=let ⟨x,h1,h2⟩:=bs h;⟨x,⟨λ_=>h1⟩,h2⟩
theorem gk {α ρ:Type} [Inhabited α] {B c:Bool} {o:Option α} {k:α->Option ρ} {r:ρ} (h:B=c->o.bind k=some r):∃ x,Kw (B=c) o x/\(B=c->k x=some r):=let ⟨x,h1,h2⟩:=gx h;⟨x,⟨h1⟩,h2⟩
class Kf (g:Prop) {ρ:Type} (m:Option ρ) (x:outParam ρ):Prop where h:g->m=some x
section
variable {g:Prop} {ρ:Type} {m:Option ρ} {x:ρ}
instance [h:Kw g m x]:Kf g m x:=⟨h.h⟩
end
class Pa (b p:Bool) (r:outParam Bool):Prop where
 h:b=true->p=r
 z:b=false->r=false
class Po (b p:Bool) (r:outParam Bool):Prop where
 h:b=false->p=r
 z:b=true->r=true
theorem bK {b p r:Bool} (h:b=true->some p=some r) (e:b=false->some false=some r):Pa b p r:=⟨λx=>si (h x),λx=>(si (e x)).symm⟩
theorem cD {b p r:Bool} (h:b=false->some p=some r) (e:b=true->some true=some r):Po b p r:=⟨λx=>si (h x),λx=>(si (e x)).symm⟩
class Cn (P:Program) (f:FuncId) {ρ:outParam Type} (m:outParam (Option ρ)) (ps:outParam (List Ent)) (E:outParam (ρ->Ent)):Prop where h:∀ x,m=some x->Sp P f ps (E x)
section
variable {g:Prop} {P:Program} {Γ:Cx}
class AX (g:Prop) (Γ:Cx) (x:Operand) (e:Ent):Prop where h:g->Od Γ x e
instance {x:Operand} {e:Ent} [h:AD g Γ x e]:AX g Γ x e:=⟨h.h⟩
instance (priority:=low) {x:Operand} {K:Nat} {c:Value} {e:Ent} [h:AD g Γ x (Qv c)] [h2:AC Γ c K e]:AX g Γ x e:=⟨λhg=>ta (h.h hg) h2.h⟩
class mH (g:Prop) (Γ:Cx) (xs:List Operand) (es:List Ent):Prop where h:g->Odl Γ xs es
instance:mH g Γ [] []:=⟨λ_=>on⟩
instance {x:Operand} {xs:List Operand} {e:Ent} {es:List Ent} [h:AX g Γ x e] [Zf e] [h':mH g Γ xs es]:mH g Γ (x :: xs) (e :: es):=⟨λhg=>oc (h.h hg) (h'.h hg)⟩
instance {f:FuncId} {ρ:Type} {m:Option ρ} {ps:List Ent} {E:ρ->Ent} {xs:List Operand} {A:Array TypeId} {x:ρ} [hc:Cn P f m ps E] [hA:mH g Γ xs ps] [hk:Kf g m x] :
  AO g P (.call { callee:=.value (.func f),args:=xs.toArray,argTypes:=A }) Γ (E x):=⟨λhg _=>cc rfl (hA.h hg) (hc.h x (hk.h hg))⟩
instance {T:TypeId} {x i:Operand} {α:Type} {hα:Rep α} {xs:List α} {v:Int} {y:α} [hx:AD g Γ x (Va xs)] [hi:AX g Γ i (Va v)] [he:Es P T α] [hk:Kf g (idx xs v) y] :
  AO g P (.indexAddr T x i) Γ (Pt y):=⟨λhg _=>ix (hx.h hg) (hi.h hg) (hk.h hg)⟩
instance (priority:=high) {c:Operand} {m:Nat} {b p r:Bool} [hc:AD g Γ c (Va b)] [hx:Lk (lk Γ m) (Gd b true (Va p))] [hp:Pa b p r]:AO g P (.pick c (.tmp m) (.const (.bool false))) Γ (Va r):=⟨λh _=>pa (hc.h h) ((Bu _ _).symm.trans hx.h) hp.h hp.z⟩
instance (priority:=high) {c:Operand} {m:Nat} {b p r:Bool} [hc:AD g Γ c (Va b)] [hx:Lk (lk Γ m) (Gd b false (Va p))] [hp:Po b p r]:AO g P (.pick c (.const (.bool true)) (.tmp m)) Γ (Va r):=⟨λh _=>po (hc.h h) ((Bu _ _).symm.trans hx.h) hp.h hp.z⟩
instance {c:Operand} {m:Nat} {B w b p:Bool} [hc:AD (B=w) Γ c (Va b)] [hx:Lk (lk Γ m) (Gd ((B == w) && (b == true)) true (Va p))]:AO (B=w) P (.pick c (.tmp m) (.const (.bool false))) Γ (Va (b && p)):=⟨λh _=>pG (hc.h h) ((Bu _ _).symm.trans hx.h) λe=>g2 h e⟩
instance {c:Operand} {m:Nat} {B w b p:Bool} [hc:AD (B=w) Γ c (Va b)] [hx:Lk (lk Γ m) (Gd ((B == w) && (b == false)) true (Va p))]:AO (B=w) P (.pick c (.const (.bool true)) (.tmp m)) Γ (Va (b || p)):=⟨λh _=>pE (hc.h h) ((Bu _ _).symm.trans hx.h) λe=>g2 h e⟩
instance {x y:Operand} {T T':TypeId} {m n:Int} [hx:AD g Γ x (Va m)] [hy:AD g Γ y (Va n)]:AO g P (.call { callee:=.builtin .max,args:=#[x,y],argTypes:=#[T,T'] }) Γ (Va (if n > m then n else m)):=⟨λh _=>mx (hx.h h) (hy.h h)⟩
instance {K b:Nat} {cs:QS}:AG ((K,Mr b cs) :: Γ) b K (Mr b cs):=⟨by simp [Ao]⟩
instance {T K b:Nat} {x:Operand} {α:Type} {_:Rep α} {y:α} [hx:AD g Γ x (Qv (pb b 0))] [hk:AG Γ b K (Mg b y)] [Ty P T α]:AO g P (.load T x) Γ (Va y):=⟨λh _=>lm (hx.h h) hk.h⟩
class qN (α:Type) (hα:Rep α) (off:Nat) (β:outParam Type) (hβ:outParam (Rep β)) (f:outParam (α->β)):Prop where h:DF f off
instance {off:Nat} {α β:Type} {hα:Rep α} {hβ:Rep β} {f:α->β} [h:DF f off]:qN α hα off β hβ f:=⟨h⟩
instance (priority:=low) {T K b off:Nat} {x:Operand} {α β:Type} {hα:Rep α} {hβ:Rep β} {y:α} {f:α->β} [hx:AD g Γ x (Qv (pb b off))] [hk:AG Γ b K (Mg b y)] [hf:qN α hα off β hβ f] [Ty P T β]:AO g P (.load T x) Γ (Va (f y)):=⟨λh _=>have:=hf.h;lf (hx.h h) hk.h⟩
class Fo (P:Program) (S k:Nat) (off:outParam Nat):Prop where h:∃ m,Sk P S k=some (off,m + 1)
class Pq (o off:Nat) (q:outParam Nat):Prop where h:o + off=q
instance {o:Nat}:Pq 0 o o:=⟨Nat.zero_add o⟩
instance (priority:=low) {o:Nat}:Pq o 0 o:=⟨rfl⟩
instance {S k b o off q:Nat} {x:Operand} [hx:AD g Γ x (Qv (pb b o))] [hf:Fo P S k off] [hq:Pq o off q]:AO g P (.fieldAddr S x k) Γ (Qv (pb b q)):=⟨λh _=>let ⟨_,e⟩:=hf.h;aH (hx.h h) e hq.h⟩
@[reducible] def et:QS->Nat->Option Value
 | [],_=>none
 | c :: _,0=>some c
 | _ :: l,j + 1=>et l j
theorem EH:∀ (l:QS) (j:Nat),et l j=l[j]?
 | [],_=>rfl
 | _ :: _,0=>rfl
 | _ :: l,j + 1=>by simpa [et] using EH l j
class Nt (o:Option Value) (c:outParam Value):Prop where h:o=some c
instance {c:Value}:Nt (some c) c:=⟨rfl⟩
instance (priority:=low) {T K b off:Nat} {x:Operand} {β:Type} {_:Rep β} {cs:QS} {c:Value} [hx:AD g Γ x (Qv (pb b off))] [hk:AG Γ b K (Mr b cs)] [hc:Nt (et cs off) c] [Ty P T (List β)]:AO g P (.load T x) Γ (Qv c):=⟨λh _=>bD (List β) (hx.h h) hk.h ((EH _ _).symm.trans hc.h) rfl rfl⟩
instance (priority:=low) {T K b off:Nat} {x:Operand} {cs:QS} {c:Value} [hx:AD g Γ x (Qv (pb b off))] [hk:AG Γ b K (Mr b cs)] [hc:Nt (et cs off) c] [Ty P T Int]:AO g P (.load T x) Γ (Qv c):=⟨λh _=>bD Int (hx.h h) hk.h ((EH _ _).symm.trans hc.h) rfl rfl⟩
class AR (Γ:Cx) (c:Value) (K ei:outParam Nat) (α:outParam Type) (hα:outParam (Rep α)) (xs:outParam (List α)):Prop where h:Ao Γ K=some (Ow ei c xs)
instance {K ei:Nat} {c:Value} {α:Type} {hα:Rep α} {xs:List α}:AR ((K,Ow ei c xs) :: Γ) c K ei α hα xs:=⟨by simp [Ao]⟩
instance (priority:=low) {K k ei:Nat} {c:Value} {e':Ent} {α:Type} {hα:Rep α} {xs:List α} [h:AR Γ c K ei α hα xs] [hn:Bf (j5 k K)]:AR ((k,e') :: Γ) c K ei α hα xs:=⟨by
 have:=fK hn;show (match Nat.beq k K with | true=>some e' | false=>Ao Γ K)=some (Ow ei c xs)
 rw [this];exact h.h⟩
instance {K ei:Nat} {c:Value} {α:Type} {hα:Rep α} {xs:List α} [h:AR Γ c K ei α hα xs]:AR ([] ++ Γ) c K ei α hα xs:=⟨h.h⟩
instance {K ei:Nat} {c:Value} {p:Nat×Ent} {Δ:Cx} {α:Type} {hα:Rep α} {xs:List α} [h:AR (p :: (Δ ++ Γ)) c K ei α hα xs]:AR ((p :: Δ) ++ Γ) c K ei α hα xs:=⟨h.h⟩
instance {T K e:Nat} {x i:Operand} {c:Value} {α:Type} {hα:Rep α} {xs:List α} {m:Int} {y:α} [hx:AD g Γ x (Qv c)] [hk:AR Γ c K e α hα xs] [hi:AX g Γ i (Va m)] [he:Ea P T e α] [h:Kf g (idx xs m) y]:AO g P (.indexAddr T x i) Γ (Pe c (m.toNat * Rep.sz α)):=⟨λhg _=>bN (hx.h hg) hk.h (hi.h hg) (h.h hg)⟩
instance {T K e:Nat} {x:Operand} {c:Value} {α:Type} {hα:Rep α} {xs:List α} {m:Int} {y:α} [hx:AD g Γ x (Pe c (m.toNat * Rep.sz α))] [hk:AR Γ c K e α hα xs] [Ty P T α] [h:Kf g (idx xs m) y]:AO g P (.load T x) Γ (Va y):=⟨λhg _=>lq (hx.h hg) hk.h (Dh (h.h hg))⟩
instance {T K e:Nat} {x:Operand} {c:Value} {α:Type} {hα:Rep α} {xs:List α} [hx:AD g Γ x (Qv c)] [hk:AR Γ c K e α hα xs] [he:Ea P T e α]:AO g P (.call { callee:=.builtin .len,args:=#[x],argTypes:=#[T] }) Γ (Va (xs.length:Int)):=⟨λhg _=>qE (hx.h hg) hk.h⟩
class Smz (α:Type) [Rep α]:Prop where h:Nat.ble (Rep.sz α) 1000000=true
theorem Smz.le {α:Type} [Rep α] [h:Smz α] {k:Nat} (hk:Nat.ble k 16=true):Nat.ble (k * Rep.sz α) 16777216=true:=by have h1:=L6 h.h;have h2:=L6 hk;refine P7 ?_;exact NA (PN h2 h1) (by decide)
instance {T e:Nat} {α:Type} {_:Rep α} [Ea P T e α] [Smz α] {x:Operand} {y:α} [hx:AX g Γ x (Va y)]:AO g P (.buildSlice T 1 #[(0,x)]) Γ (Va [y]):=⟨λhg _=>cf (o1 (hx.h hg) o0) rfl rfl (Smz.le rfl)⟩
instance {T e:Nat} {α:Type} {_:Rep α} [Ea P T e α] [Smz α] {x x2:Operand} {y y2:α} [hx:AX g Γ x (Va y)] [hx2:AX g Γ x2 (Va y2)]:AO g P (.buildSlice T 2 #[(0,x),(1,x2)]) Γ (Va [y,y2]):=⟨λhg _=>cf (o1 (hx.h hg) (o1 (hx2.h hg) o0)) rfl rfl (Smz.le rfl)⟩
theorem Vr {ks:QR} {t:Nat} {Δ Γ:Cx} (ht:t∈ks):Ao (By ks Δ ++ Γ) t=Ao (Δ ++ Γ) t:=by
 induction Δ with
 | nil=>rfl
 | cons p Δ ih=>
  let ⟨s,e⟩:=p;show Ao ((match ks.contains s with | true=>(s,e) :: By ks Δ | false=>By ks Δ) ++ Γ) t=(match Nat.beq s t with | true=>some e | false=>Ao (Δ ++ Γ) t)
  split
  ·show (match Nat.beq s t with | true=>some e | false=>Ao (By ks Δ ++ Γ) t)=_
   rw [ih]
  ·rename_i hc;split
   ·rename_i hb;have:=N1 hb;subst this;simp at hc;exact absurd ht hc
   ·exact ih
class Ot (op:Op) (n:Nat):Prop where h:n∈Au op
class Ml (n:Nat) (xs:List Operand):Prop where h:Operand.tmp n∈xs
instance {n:Nat} {xs:List Operand}:Ml n (.tmp n :: xs):=⟨by simp⟩
instance (priority:=low) {n:Nat} {x:Operand} {xs:List Operand} [h:Ml n xs]:Ml n (x :: xs):=⟨by simp [h.h]⟩
instance {n:Nat}:Ot (.move (.tmp n)) n:=⟨by simp [Au,Op.operands]⟩
instance {n:Nat} {o:BinOp} {T T':TypeId} {y:Operand}:Ot (.binOp o T (.tmp n) y T') n:=⟨by simp [Au,Op.operands]⟩
instance {n:Nat} {o:BinOp} {T T':TypeId} {x:Operand}:Ot (.binOp o T x (.tmp n) T') n:=⟨by simp [Au,Op.operands]⟩
instance {n k:Nat}:Ot (.extract (.tmp n) k) n:=⟨by simp [Au,Op.operands]⟩
instance {n T:Nat}:Ot (.load T (.tmp n)) n:=⟨by simp [Au,Op.operands]⟩
instance {n:Nat}:Ot (.nilCheck (.tmp n)) n:=⟨by simp [Au,Op.operands]⟩
instance {n S k:Nat}:Ot (.fieldAddr S (.tmp n) k) n:=⟨by simp [Au,Op.operands]⟩
instance {n T:Nat} {y:Operand}:Ot (.indexAddr T (.tmp n) y) n:=⟨by simp [Au,Op.operands]⟩
instance {n T:Nat} {x:Operand}:Ot (.indexAddr T x (.tmp n)) n:=⟨by simp [Au,Op.operands]⟩
instance {n:Nat} {x y:Operand}:Ot (.pick (.tmp n) x y) n:=⟨by simp [Au,Op.operands]⟩
instance {n:Nat} {x y:Operand}:Ot (.pick x (.tmp n) y) n:=⟨by simp [Au,Op.operands]⟩
instance {n:Nat} {x y:Operand}:Ot (.pick x y (.tmp n)) n:=⟨by simp [Au,Op.operands]⟩
instance {n T i:Nat}:Ot (.buildSlice T 1 #[(i,.tmp n)]) n:=⟨by simp [Au,Op.operands]⟩
instance {n T i j:Nat} {y:Operand}:Ot (.buildSlice T 2 #[(i,.tmp n),(j,y)]) n:=⟨by simp [Au,Op.operands]⟩
instance {n T i j:Nat} {x:Operand}:Ot (.buildSlice T 2 #[(i,x),(j,.tmp n)]) n:=⟨by simp [Au,Op.operands]⟩
instance {n:Nat} {f:FuncId} {xs:List Operand} {A:Array TypeId} [h:Ml n xs]:Ot (.call { callee:=.value (.func f),args:=xs.toArray,argTypes:=A }) n:=⟨by simp only [Au,Op.operands,Call.operands,O1];exact ⟨.tmp n,by simp [h.h],rfl⟩⟩
instance {n:Nat} {f:Builtin} {xs:List Operand} {A:Array TypeId} [h:Ml n xs]:Ot (.call { callee:=.builtin f,args:=xs.toArray,argTypes:=A }) n:=⟨by simp only [Au,Op.operands,Call.operands,O1];exact ⟨.tmp n,by simp [h.h],rfl⟩⟩
instance {op:Op} {Δ:Cx} {n:Nat} {e:Ent} [hl:Lk (lk2 Δ Γ n) e] [ho:Ot op n]:Lk (lk (By (Au op) Δ ++ Γ) n) e:=⟨by
 rw [Bu];have h1:=hl.h;rw [Uh,Bu] at h1;exact (Vr ho.h).trans h1⟩
class Nk (Δ:Cx) (K:Nat):Prop where h:Ao Δ K=none
instance {K:Nat}:Nk [] K:=⟨rfl⟩
instance {Δ:Cx} {K k:Nat} {e:Ent} [hn:Bf (j5 k K)] [h:Nk Δ K]:Nk ((k,e) :: Δ) K:=⟨by
 have:=fK hn;show (match Nat.beq k K with | true=>some e | false=>Ao Δ K)=none
 rw [this];exact h.h⟩
theorem Kz {Δ Γ:Cx} {K:Nat} (h:Ao Δ K=none):Ao (Δ ++ Γ) K=Ao Γ K:=by
 induction Δ with
 | nil=>rfl
 | cons p Δ ih=>
  let ⟨k,e⟩:=p;have h':(match Nat.beq k K with | true=>some e | false=>Ao Δ K)=none:=h
  show (match Nat.beq k K with | true=>some e | false=>Ao (Δ ++ Γ) K)=Ao Γ K
  split at h'
  ·cases h'
  ·exact ih h'
theorem Hp {Δ:Cx} {ks:QR} {K:Nat} (h:Ao Δ K=none):Ao (By ks Δ) K=none:=by
 cases hl:Ao (By ks Δ) K with
 | none=>rfl
 | some e=>exact absurd (Bt hl).2 (by rw [h];simp)
instance {Δ:Cx} {ks:QR} {b K:Nat} {e:Ent} [h:AG Γ b K e] [hn:Nk Δ K]:AG (By ks Δ ++ Γ) b K e:=⟨(Kz (Hp hn.h)).trans h.h⟩
instance {Δ:Cx} {ks:QR} {c:Value} {K ei:Nat} {α:Type} {hα:Rep α} {xs:List α} [h:AR Γ c K ei α hα xs] [hn:Nk Δ K]:AR (By ks Δ ++ Γ) c K ei α hα xs:=⟨(Kz (Hp hn.h)).trans h.h⟩
class Fs (P:Program) (L:List Oper) (k:Nat) (l:List Oper) (i:Nat) (Γ Δ:Cx) (Δ':outParam Cx) (l':outParam (List Oper)):Prop where
 h:∀ {ops:Array Oper},ops.toList=L->L.drop i=l->Fl P ops Γ i Δ->Fl P ops Γ (i + k) Δ'/\L.drop (i + k)=l'
variable {L:List Oper} {k i:Nat} {Δ Δ':Cx} {l':List Oper}
instance {l:List Oper}:Fs P L 0 l i Γ Δ Δ l:=⟨λ_ h2 h=>⟨h,h2⟩⟩
theorem iw {ops:Array Oper} {L l:List Oper} {o:Oper} {i:Nat} (h:ops.toList=L) (hd:L.drop i=o :: l):ops[i]?=some o/\L.drop (i + 1)=l:=by subst h;constructor;rw [← OQ,← List.head?_drop,hd];rfl;rw [← List.drop_drop,hd];rfl
instance {l:List Oper} {op:Op} {d:Tmp} {ty:TypeId} {pos:String} {ai:Array Edge} {e:Ent} [ho:AO True P op (By (Au op) Δ ++ Γ) e] [hr:Fs P L k l (i + 1) Γ ((d,e) :: Δ) Δ' l'] :
  Fs P L (k + 1) (⟨some d,op,ty,pos,ai,none⟩ :: l) i Γ Δ Δ' l':=⟨λh1 h2 h=>by
 have h3:=iw h1 h2;have:=hr.h h1 h3.2 (.cons h h3.1 (ho.h trivial ty))
 rwa [Nat.add_right_comm] at this⟩
instance {l:List Oper} {op:Op} {d j dj:Tmp} {b want:Bool} {ty:TypeId} {pos:String} {ai:Array Edge} {e:Ent} [hj:Gt (kd L j) dj] [hl:Lk (lk Δ dj) (Va b)] [ho:AO (b=want) P op (By (Au op) Δ ++ Γ) e] [hr:Fs P L k l (i + 1) Γ ((d,Gd b want e) :: Δ) Δ' l'] :
  Fs P L (k + 1) (⟨some d,op,ty,pos,ai,some (j,want)⟩ :: l) i Γ Δ Δ' l':=⟨λh1 h2 h=>by
 have h3:=iw h1 h2;have:=hr.h h1 h3.2 (.cong h h3.1 (jw h1 hj.h) ((Bu _ _).symm.trans hl.h) λhb=>ho.h hb ty)
 rwa [Nat.add_right_comm] at this⟩
theorem fW {n id:Nat} {M0:Fm} {w0:World} [hmx:Mx P] {rr:Option Nat} {ops:Array Oper} {Q:Exit->Act->World->Prop} {a:Act} {w:World} (m:Nat) (hs:St M0 w0 n Γ a w) [hfl:Fs P ops.toList m ops.toList 0 Γ [] Δ l'] (hf:Lc ops m=true)
  (hdj:Δ.all (λx=>(Ao Γ x.1).isNone)=true) (hn:Δ.all (λx=>Nat.blt x.1 n)=true)
  (K:∀ a' w',St M0 w0 n (Δ ++ Γ) a' w'->wpListIn (Fr rr) 0 P ops Q l' a' w'):(Code.region id ops true).wpIn (Fr rr) 0 P Q a w:=by have:=hfl.h rfl rfl .nil;rw [NW] at this;exact Fi (m:=m) hs this.1 hf hdj hn λa' w' s=>by rw [this.2];exact K a' w' s
class Zc (P:Program) (T:TypeId) (cs:outParam QS):Prop where h:∀ ty Γ,OR P (.alloc T) ty Γ (MR cs)
theorem aR {n:Nat} {M0:Fm} {w0:World} {rr:Option Nat} {Q:Exit->Act->World->Prop} {a:Act} {w:World} {ops:Array Oper} {rest:List Oper} {d T:Nat} {ty:TypeId} {pos:String} {ai:Array Edge} {cs:QS} (K:Nat)
  (hs:St M0 w0 n Γ a w) [hz:Zc P T cs] [hn:Bf (LK d n)] [hdk:Bf (j5 d K)]
  (k:∀ b a' w',St M0 w0 n ((d,Qv (pb b 0)) :: (K,Mr b cs) :: (d,MR cs) :: Γ) a' w'->wpListIn (Fr rr) 0 P ops Q rest a' w'):wpListIn (Fr rr) 0 P ops Q (⟨some d,.alloc T,ty,pos,ai,none⟩ :: rest) a w:=
 br K hs (hz.h ty Γ) hn.lt (fK hdk) k
theorem sW {n:Nat} {M0:Fm} {w0:World} {rr:Option Nat} {Q:Exit->Act->World->Prop} {a:Act} {w:World} {ops:Array Oper} {rest:List Oper} {T K b:Nat} {x y:Operand} {ty:TypeId} {pos:String} {ai:Array Edge} {α:Type} {_:Rep α} [Ty P T α] {v:α} {cs:QS}
  (hs:St M0 w0 n Γ a w) [hx:AD True Γ x (Qv (pb b 0))] [hk:AG Γ b K (Mr b cs)] [hy:AD True Γ y (Va v)] (hl:cs.length=Rep.sz α)
  (k:∀ w',St M0 w0 n ((K,Mg b v) :: Γ) a w'->wpListIn (Fr rr) 0 P ops Q rest a w'):wpListIn (Fr rr) 0 P ops Q (⟨none,.store T x y,ty,pos,ai,none⟩ :: rest) a w:=
 co hs (hx.h trivial) hk.h (hy.h trivial) hl k
end
end
section
@[reducible] def bn:Cx->Cx->Cx
 | [],Γ=>Γ
 | p :: l,Γ=>p :: bn l Γ
class Pj (Γ:Cx) (ks:QR) (Γ':outParam Cx):Prop where h:∀ t e,Ao Γ' t=some e->Ao Γ t=some e
instance {Γ:Cx}:Pj Γ [] []:=⟨λ_ _ h=>by cases h⟩
instance {Γ Γ':Cx} {k:Nat} {ks:QR} {e:Ent} [h:Lk (lk Γ k) e] [h':Pj Γ ks Γ']:Pj Γ (k :: ks) ((k,e) :: Γ'):=⟨λt e1 he=>by
 rw [Aj] at he;unfold put at he;split at he
 ·rename_i ht;subst ht;cases he;exact (Bu _ _).symm.trans h.h
 ·exact h'.h t e1 he⟩
theorem St.pj {M0:Fm} {w0:World} {n:Nat} {Γ Γ':Cx} {a:Act} {w:World} (s:St M0 w0 n Γ a w) (ks:QR) [h:Pj Γ ks Γ']:St M0 w0 n Γ' a w:=StF.less s h.h
section
variable {rr:Option Nat} {P:Program} {M0:Fm} {w0:World} {nn:Nat} {Γ Γ0:Cx} {Q:Exit->Act->World->Prop} {a:Act} {w:World}
theorem lA {c:Code} {id:Nat} {S τ:Type} {m:Nat->S->Option S} {f:Nat} {s0:S} {k:S->Option τ} {r:τ} (hm:(m f s0).bind k=some r) (ks:QR) (s:St M0 w0 nn Γ a w) [Pj Γ ks Γ0] (C:S->Cx) (h0:St M0 w0 nn (bn (C s0) Γ0) a w) (hz:∀ s,m 0 s=none)
  (hb:∀ o,k o=some r->∀ n z a w,m (n + 1) z=some o->St M0 w0 nn (bn (C z) Γ0) a w->c.wpIn (Fr rr) 0 P (Exit.then (λa' w'=>∃ s',m n s'=some o/\St M0 w0 nn (bn (C s') Γ0) a' w') (Exit.inBlock id (Exit.then (λa w=>St M0 w0 nn (bn (C o) Γ0) a w) Q))) a w)
  (hc:∀ o,k o=some r->∀ a w,St M0 w0 nn (bn (C o) Γ0) a w->Q .normal a w):(Code.block id (Code.loop c)).wpIn (Fr rr) 0 P Q a w:=
 la hm (λz a w=>St M0 w0 nn (bn (C z) Γ0) a w) h0 hz hb hc
theorem bI {c:Code} {id:Nat} {S τ:Type} {m:Nat->S->Option S} {f:Nat} {s0:S} {k:S->Option τ} {r:τ} (hm:(m f s0).bind k=some r) (ks:QR) (s:St M0 w0 nn Γ a w) [Pj Γ ks Γ0] (C:S->Value->Cx) (h0:∃ v,St M0 w0 nn (bn (C s0 v) Γ0) a w) (hz:∀ s,m 0 s=none)
  (hb:∀ o,k o=some r->∀ n z a w,m (n + 1) z=some o->(∃ v,St M0 w0 nn (bn (C z v) Γ0) a w)->c.wpIn (Fr rr) 0 P (Exit.then (λa' w'=>∃ s',m n s'=some o/\∃ v,St M0 w0 nn (bn (C s' v) Γ0) a' w') (Exit.inBlock id (Exit.then (λa w=>∃ v,St M0 w0 nn (bn (C o v) Γ0) a w) Q))) a w)
  (hc:∀ o,k o=some r->∀ a w,(∃ v,St M0 w0 nn (bn (C o v) Γ0) a w)->Q .normal a w):(Code.block id (Code.loop c)).wpIn (Fr rr) 0 P Q a w:=
 la hm (λz a w=>∃ v,St M0 w0 nn (bn (C z v) Γ0) a w) h0 hz hb hc
theorem lB {c:Code} {id:Nat} {S ρ τ:Type} {m:Nat->S->Option (Lo S ρ)} {f:Nat} {s0:S} {k:Lo S ρ->Option τ} {r:τ} (hm:(m f s0).bind k=some r) (ks:QR) (s:St M0 w0 nn Γ a w) [Pj Γ ks Γ0] (C:S->Cx) (h0:St M0 w0 nn (bn (C s0) Γ0) a w) (hz:∀ s,m 0 s=none)
  (hb:∀ o,k o=some r->∀ n z a w,m (n + 1) z=some o->St M0 w0 nn (bn (C z) Γ0) a w->c.wpIn (Fr rr) 0 P (Exit.then (λa' w'=>∃ s',m n s'=some o/\St M0 w0 nn (bn (C s') Γ0) a' w') (Exit.inBlock id (Exit.then (λa w=>∃ z,o=.brk z/\St M0 w0 nn (bn (C z) Γ0) a w) Q))) a w)
  (hc:∀ z,k (.brk z)=some r->∀ a w,St M0 w0 nn (bn (C z) Γ0) a w->Q .normal a w):(Code.block id (Code.loop c)).wpIn (Fr rr) 0 P Q a w:=
 lb hm (λz a w=>St M0 w0 nn (bn (C z) Γ0) a w) h0 hz hb hc
theorem lB1 {c:Code} {id:Nat} {S ρ τ:Type} {m:Nat->S->Option (Lo S ρ)} {f:Nat} {s0:S} {k:Lo S ρ->Option τ} {r:τ} (hm:(m f s0).bind k=some r) (ks:QR) (s:St M0 w0 nn Γ a w) [Pj Γ ks Γ0] (C:S->Value->Cx) (h0:∃ v,St M0 w0 nn (bn (C s0 v) Γ0) a w) (hz:∀ s,m 0 s=none)
  (hb:∀ o,k o=some r->∀ n z a w,m (n + 1) z=some o->(∃ v,St M0 w0 nn (bn (C z v) Γ0) a w)->c.wpIn (Fr rr) 0 P (Exit.then (λa' w'=>∃ s',m n s'=some o/\∃ v,St M0 w0 nn (bn (C s' v) Γ0) a' w') (Exit.inBlock id (Exit.then (λa w=>∃ z,o=.brk z/\∃ v,St M0 w0 nn (bn (C z v) Γ0) a w) Q))) a w)
  (hc:∀ z,k (.brk z)=some r->∀ a w,(∃ v,St M0 w0 nn (bn (C z v) Γ0) a w)->Q .normal a w):(Code.block id (Code.loop c)).wpIn (Fr rr) 0 P Q a w:=
 lb hm (λz a w=>∃ v,St M0 w0 nn (bn (C z v) Γ0) a w) h0 hz hb hc
theorem mz {c:Code} {id:Nat} {S ρ τ:Type} {m:Nat->S->Option (Lo S ρ)} {f:Nat} {s0:S} {k:Lo S ρ->Option τ} {r:τ} (hm:(m f s0).bind k=some r) (ks:QR) (s:St M0 w0 nn Γ a w) [Pj Γ ks Γ0] (C:S->Value->Value->Cx) (h0:∃ v u,St M0 w0 nn (bn (C s0 v u) Γ0) a w) (hz:∀ s,m 0 s=none)
  (hb:∀ o,k o=some r->∀ n z a w,m (n + 1) z=some o->(∃ v u,St M0 w0 nn (bn (C z v u) Γ0) a w)->c.wpIn (Fr rr) 0 P (Exit.then (λa' w'=>∃ s',m n s'=some o/\∃ v u,St M0 w0 nn (bn (C s' v u) Γ0) a' w') (Exit.inBlock id (Exit.then (λa w=>∃ z,o=.brk z/\∃ v u,St M0 w0 nn (bn (C z v u) Γ0) a w) Q))) a w)
  (hc:∀ z,k (.brk z)=some r->∀ a w,(∃ v u,St M0 w0 nn (bn (C z v u) Γ0) a w)->Q .normal a w):(Code.block id (Code.loop c)).wpIn (Fr rr) 0 P Q a w:=
 lb hm (λz a w=>∃ v u,St M0 w0 nn (bn (C z v u) Γ0) a w) h0 hz hb hc
theorem cP {c:Code} (ks:QR) (s:St M0 w0 nn Γ a w) [Pj Γ ks Γ0] (C:Cx) (h:c.wpIn (Fr rr) 0 P (Exit.then (λa w=>St M0 w0 nn (bn C Γ0) a w) Q) a w) (h':∀ a w,St M0 w0 nn (bn C Γ0) a w->Q .normal a w):c.wpIn (Fr rr) 0 P Q a w:=eI _ h h'
theorem dH {c:Code} (ks:QR) (s:St M0 w0 nn Γ a w) [Pj Γ ks Γ0] (C:Value->Cx) (h:c.wpIn (Fr rr) 0 P (Exit.then (λa w=>∃ v,St M0 w0 nn (bn (C v) Γ0) a w) Q) a w) (h':∀ a w,(∃ v,St M0 w0 nn (bn (C v) Γ0) a w)->Q .normal a w):c.wpIn (Fr rr) 0 P Q a w:=eI _ h h'
end
end
section
section
variable {Γ:Cx} {x:Operand} {α:Type} [Rep α]
theorem pv {y:α} (h:Od Γ x (Pt y)):Od Γ x (Va (some y)):=λρ M w r=>by
 let ⟨F,hF,b,o,hv,hp⟩:=h ρ M w r;exact ⟨F,hF,[.pointer (some ⟨b,o,none⟩)],hv,b,o,rfl,hp⟩
theorem vp {y:α} {o:Option α} (h:Od Γ x (Va o)) (e:o=some y):Od Γ x (Pt y):=λρ M w r=>by
 subst e;obtain ⟨F,hF,cs,hv,b,o,rfl,hp⟩:=h ρ M w r;exact ⟨F,hF,b,o,hv,hp⟩
theorem pnl (h:Od Γ x (Qv (.pointer none))):Od Γ x (Va (none:Option α)):=λρ M w r=>by
 let ⟨F,hF,hv⟩:=h ρ M w r;exact ⟨F,hF,[.pointer none],hv,rfl⟩
theorem pH {k:Nat} {c:Value} {o:Option α} (h:Ao Γ k=some (At c (Va o))):Oc Γ c:=λρ M w r=>by
 let ⟨F,_,cs,hv,hr⟩:=r.tmp _ _ h;cases o with
 | none=>have hr:cs=_:=hr;subst hr;rw [hv];rfl
 | some y=>obtain ⟨b,o,rfl,_⟩:=hr;rw [hv];rfl
end
end
end Go.Pn
set_option maxRecDepth 100000
namespace Go.Pn
open Go Go.RowKit
section
open Go.Proofs
instance:Fo Tryz.prog 32 0 0:=⟨0,ag⟩
instance:Fo Tryz.prog 32 2 2:=⟨0,ag⟩
instance:Fo Tryz.prog 32 4 4:=⟨0,ag⟩
instance:Fo Tryz.prog 35 0 0:=⟨4,ag⟩
instance:Fo Tryz.prog 35 1 5:=⟨0,ag⟩
instance:Fo Tryz.prog 43 0 0:=⟨0,ag⟩
instance:Fo Tryz.prog 43 1 1:=⟨0,ag⟩
instance:Fo Tryz.prog 58 0 0:=⟨0,ag⟩
instance:Fo Tryz.prog 58 1 1:=⟨0,ag⟩
instance:Fo Tryz.prog 58 2 2:=⟨0,ag⟩
instance:Fo Tryz.prog 58 3 3:=⟨0,ag⟩
instance:Fo Tryz.prog 58 4 4:=⟨0,ag⟩
instance:Fo Tryz.prog 64 0 0:=⟨0,ag⟩
instance:Fo Tryz.prog 69 0 0:=⟨0,ag⟩
instance:Fo Tryz.prog 69 1 1:=⟨0,ag⟩
instance:Fo Tryz.prog 103 1 2:=⟨0,ag⟩
instance:Fo Tryz.prog 113 0 0:=⟨0,ag⟩
instance:Fo Tryz.prog 113 1 1:=⟨0,ag⟩
instance:Fo Tryz.prog 113 2 2:=⟨2,ag⟩
instance:Fo Tryz.prog 113 3 5:=⟨2,ag⟩
instance:Fo Tryz.prog 113 4 8:=⟨0,ag⟩
instance:Fo Tryz.prog 113 5 9:=⟨0,ag⟩
instance:Fo Tryz.prog 120 0 0:=⟨0,ag⟩
instance:Fo Tryz.prog 120 1 1:=⟨0,ag⟩
instance:Fo Tryz.prog 144 0 0:=⟨0,ag⟩
instance:Fo Tryz.prog 144 1 1:=⟨0,ag⟩
instance:Fo Tryz.prog 263 0 0:=⟨4,ag⟩
instance:Fo Tryz.prog 343 0 0:=⟨4,ag⟩
instance:Fo Tryz.prog 343 1 5:=⟨0,ag⟩
instance:Fo Tryz.prog 343 2 6:=⟨2,ag⟩
instance:Fo Tryz.prog 372 0 0:=⟨4,ag⟩
instance:Fo Tryz.prog 372 1 5:=⟨4,ag⟩
instance:Fo Tryz.prog 372 2 10:=⟨0,ag⟩
instance:Fo Tryz.prog 403 0 0:=⟨0,ag⟩
instance:Fo Tryz.prog 403 1 1:=⟨0,ag⟩
instance:Fo Tryz.prog 434 0 0:=⟨0,ag⟩
instance:Fo Tryz.prog 434 1 1:=⟨0,ag⟩
instance:Fo Tryz.prog 434 2 2:=⟨0,ag⟩
instance:Zc Tryz.prog 30 [(.slice none 0 0)]:=⟨λ_ _=>aT (z:=(.slice none 0 0)) ag rfl rfl⟩
instance:Zc Tryz.prog 32 [(.int .i64 (0:Int)),(.slice none 0 0),(.slice none 0 0),(.slice none 0 0),(.slice none 0 0)]:=⟨λ_ _=>aT (z:=.agg #[(.int .i64 (0:Int)),(.slice none 0 0),(.slice none 0 0),(.slice none 0 0),(.slice none 0 0)]) ag rfl rfl⟩
instance:Zc Tryz.prog 35 [(.int .i64 (0:Int)),(.slice none 0 0),(.slice none 0 0),(.slice none 0 0),(.slice none 0 0),(.slice none 0 0)]:=⟨λ_ _=>aT (z:=.agg #[(.int .i64 (0:Int)),(.slice none 0 0),(.slice none 0 0),(.slice none 0 0),(.slice none 0 0),(.slice none 0 0)]) ag rfl rfl⟩
instance:Zc Tryz.prog 43 [(.slice none 0 0),(.slice none 0 0)]:=⟨λ_ _=>aT (z:=.agg #[(.slice none 0 0),(.slice none 0 0)]) ag rfl rfl⟩
instance:Zc Tryz.prog 58 [(.slice none 0 0),(.slice none 0 0),(.slice none 0 0),(.slice none 0 0),(.slice none 0 0)]:=⟨λ_ _=>aT (z:=.agg #[(.slice none 0 0),(.slice none 0 0),(.slice none 0 0),(.slice none 0 0),(.slice none 0 0)]) ag rfl rfl⟩
instance:Zc Tryz.prog 64 [(.slice none 0 0),(.int .i64 (0:Int))]:=⟨λ_ _=>aT (z:=.agg #[(.slice none 0 0),(.int .i64 (0:Int))]) ag rfl rfl⟩
instance:Zc Tryz.prog 103 [(.int .i64 (0:Int)),(.slice none 0 0),(.slice none 0 0)]:=⟨λ_ _=>aT (z:=.agg #[(.int .i64 (0:Int)),(.slice none 0 0),(.slice none 0 0)]) ag rfl rfl⟩
instance:Zc Tryz.prog 110 [(.int .i64 (0:Int)),(.int .i64 (0:Int)),(.slice none 0 0)]:=⟨λ_ _=>aT (z:=.agg #[(.int .i64 (0:Int)),(.int .i64 (0:Int)),(.slice none 0 0)]) ag rfl rfl⟩
instance:Zc Tryz.prog 113 [(.string ByteArray.empty),(.int .i64 (0:Int)),(.int .i64 (0:Int)),(.int .i64 (0:Int)),(.slice none 0 0),(.int .i64 (0:Int)),(.int .i64 (0:Int)),(.slice none 0 0),(.int .i64 (0:Int)),(.bool false)]:=⟨λ_ _=>aT (z:=.agg #[(.string ByteArray.empty),(.int .i64 (0:Int)),(.int .i64 (0:Int)),(.int .i64 (0:Int)),(.slice none 0 0),(.int .i64 (0:Int)),(.int .i64 (0:Int)),(.slice none 0 0),(.int .i64 (0:Int)),(.bool false)]) ag rfl rfl⟩
instance:Zc Tryz.prog 120 [(.slice none 0 0),(.slice none 0 0)]:=⟨λ_ _=>aT (z:=.agg #[(.slice none 0 0),(.slice none 0 0)]) ag rfl rfl⟩
instance:Zc Tryz.prog 144 [(.slice none 0 0),(.slice none 0 0)]:=⟨λ_ _=>aT (z:=.agg #[(.slice none 0 0),(.slice none 0 0)]) ag rfl rfl⟩
instance:Zc Tryz.prog 177 [(.int .i64 (0:Int)),(.int .i64 (0:Int))]:=⟨λ_ _=>aT (z:=.agg #[(.int .i64 (0:Int)),(.int .i64 (0:Int))]) ag rfl rfl⟩
instance:Zc Tryz.prog 265 [.nilFunc,.nilFunc,.nilFunc]:=⟨λ_ _=>aT (z:=.agg #[.nilFunc,.nilFunc,.nilFunc]) ag rfl rfl⟩
instance:Zc Tryz.prog 298 [(.map none)]:=⟨λ_ _=>aT (z:=(.map none)) ag rfl rfl⟩
instance:Zc Tryz.prog 431 [.nilFunc,.nilFunc,.nilFunc]:=⟨λ_ _=>aT (z:=.agg #[.nilFunc,.nilFunc,.nilFunc]) ag rfl rfl⟩
instance:Smz Int:=⟨rfl⟩
instance:Smz Bool:=⟨rfl⟩
instance:Smz QT:=⟨rfl⟩
instance:Smz Ad:=⟨rfl⟩
instance:Smz Af:=⟨rfl⟩
instance:Smz Expr:=⟨rfl⟩
instance:Smz Ae:=⟨rfl⟩
instance {α:Type} [Rep α]:Smz (List α):=⟨rfl⟩
end
section
variable {rr:Option Nat}
section
variable {P:Program} {ops:Array Oper} {Γ:Cx}
def Zi (ops:Array Oper) (m k:Nat):Bool:=
 decide (m<=k) && decide (k<=ops.size) &&
 (List.range ops.size).all (λi=>match ops[i]? with
  | none=>false
  | some o=>
   o.after.all (λe=>!Region.binds .any e || decide (e.on < i)) &&
   (if i < m then
    o.dst.isSome && (match o.guard with | some (j,_)=>decide (j < i) | none=>true) &&
    (List.range m).all (λj=>match (ops[j]?).bind (·.dst) with
     | some d=>(!(Az ops o).contains d || (decide (j < i) && cO o j)) && (i == j || o.dst != some d)
     | none=>false)
   else (List.range (min i k)).all (λj=>Fp ops ops.size i j)) &&
   (if i < k then true else (List.range ops.size).all (λj=>decide (j < k) || match (ops[j]?).bind (·.dst) with
     | some d=>(!(Au o.op).contains d || cO o j) && (i == j || o.dst != some d)
     | none=>false)))
structure mG (ops:Array Oper) (m k:Nat):Prop where
 mk_:m<=k
 ks:k<=ops.size
 w:eR ops m
 lt:∀ {i:Nat} {o:Oper},ops[i]?=some o->∀ e∈o.after,Region.binds .any e=true->e.on < i
 ord:∀ {i:Nat},m<=i->i < ops.size->∀ j,j < i->j < k->Fp ops ops.size i j=true
 fl:∀ {i:Nat} {o:Oper},ops[i]?=some o->k<=i->∀ j,k<=j->j < ops.size->∃ d,(ops[j]?).bind (·.dst)=some d/\(d∈Au o.op->cO o j=true)/\(i≠j->o.dst≠some d)
theorem jI {m k:Nat} (h:Zi ops m k=true):mG ops m k:=by
 unfold Zi at h;simp only [L1,L5,L4,decide_eq_true_eq] at h;let ⟨⟨h1,h2⟩,h3⟩:=h;have one:∀ {i:Nat} {o:Oper},ops[i]?=some o->(∀ e∈o.after,Region.binds .any e=true->e.on < i) /\
   (i < m->o.dst.isSome=true/\(∀ j want,o.guard=some (j,want)->j < i)/\∀ j,j < m->∃ d,(ops[j]?).bind (·.dst)=some d/\(d∈Az ops o->j < i/\cO o j=true)/\(i≠j->o.dst≠some d)) /\
   (m<=i->∀ j,j < i->j < k->Fp ops ops.size i j=true) /\
   (k<=i->∀ j,k<=j->j < ops.size->∃ d,(ops[j]?).bind (·.dst)=some d/\(d∈Au o.op->cO o j=true)/\(i≠j->o.dst≠some d)):=by
  intro i o ho;have hi:i < ops.size:=(L3.1 ho).1;have h4:=h3 i hi;simp only [ho,L1] at h4;let ⟨⟨a1,a3⟩,a4⟩:=h4;refine ⟨λe he hb=>?_,λhm=>?_,λhm j hj hk=>?_,λhk j hj hjs=>?_⟩
  ·have:=(PM.1 a1) e he;simp [hb] at this;exact this
  ·rw [if_pos hm] at a3;simp only [L1,L5,L4] at a3;refine ⟨a3.1.1,λj want hg=>?_,λj hj=>?_⟩
   ·have:=a3.1.2;simp [hg] at this;exact this
   ·have h3:=a3.2 j hj;split at h3
    ·rename_i d hd;simp only [L1,OE,M9,decide_eq_true_eq,bne_iff_ne,beq_iff_eq] at h3;refine ⟨d,hd,λhn=>?_,λhne hd'=>?_⟩
     ·rcases h3.1 with h | h
      ·simp at h;exact absurd hn h
      ·exact h
     ·rcases h3.2 with h | h
      ·exact hne h
      ·exact h hd'
    ·cases h3
  ·rw [if_neg aa] at a3;simp only [L5,L4] at a3;exact a3 j aa
  ·rw [if_neg aa] at a4;simp only [L5,L4] at a4;have h3:=a4 j hjs;simp only [OE,decide_eq_true_eq] at h3;rcases h3 with h3 | h3
   ·omega
   ·split at h3
    ·rename_i d hd;simp only [L1,OE,M9,bne_iff_ne,beq_iff_eq] at h3;refine ⟨d,hd,λhn=>?_,λhne hd'=>?_⟩
     ·rcases h3.1 with h | h
      ·simp at h;exact absurd hn h
      ·exact h
     ·rcases h3.2 with h | h
      ·exact hne h
      ·exact h hd'
    ·cases h3
 exact ⟨h1,h2,⟨by omega,λho=>let ⟨a,b,c,_⟩:=one ho;⟨a,b,λhm j hj=>c hm j aa aa⟩⟩,λho=>(one ho).1,λ{i} hm hi j hj hk=>(one (NO hi)).2.2.1 hm j hj hk,λho hk j h1 h2=>(one ho).2.2.2 hk j h1 h2⟩
def HP (ops:Array Oper) (k:Nat) (listed:Array Bool):Prop:=listed.size=ops.size/\(∀ i,i < k->listed.getD i false=true)/\(∀ i,k<=i->i < ops.size->listed.getD i true=false)
theorem HP.cl {m x k:Nat} {listed:Array Bool} (hd:mG ops m x) (h:HP ops k listed):∀ i o,ops[i]?=some o->listed.getD i false=true->∀ e∈o.after,Region.binds .any e=true->listed.getD e.on false=true:=by (intro i o ho hl e he hb;have hi:i < ops.size:=(L3.1 ho).1;have hik:i < k:=by (rcases M7 i k with h6 | h6);exact h6;have:=h.2.2 i h6 hi;simp [LY,h.1,hi] at this hl;rw [this] at hl;cases hl);exact h.2.1 _ (Nat.lt_trans (hd.lt ho e he hb) hik)
theorem HP.no {k i:Nat} {listed:Array Bool} (h:HP ops k listed) (hk:k<=i) (hi:i < ops.size):listed.getD i false=false:=by have:=h.2.2 i hk hi;simp [LY,h.1,hi] at this ⊢;exact this
theorem HP.nr {k i:Nat} {listed:Array Bool} (h:HP ops k listed) (hi:i < ops.size) (h2:listed.getD i true=false):k<=i:=by refine Nat.le_of_not_lt λhk=>?_;have:=h.2.1 i hk;simp [LY,h.1,hi] at this h2;rw [this] at h2;cases h2
theorem HP.next {k:Nat} {listed:Array Bool} (h:HP ops k listed) (hk:k < ops.size):HP ops (k + 1) (listed.setIfInBounds k true):=by refine ⟨by simp [h.1],λj hj=>?_,λj hj hj'=>?_⟩;by_cases hji:j=k;subst hji;simp [LY,h.1,hk];have:=h.2.1 j aa;simpa [LY,MV (Ne.symm hji)] using this;have:=h.2.2 j aa hj';simpa [LY,MV (show k≠j by omega)] using this
theorem DP {F:Fence} {n:Nat} {o:Oper} {a:Act} {w:World} {K D:Act->World->Prop} {Q:Exit->Act->World->Prop} (h:o.wpIn F n P a w K (Exit.then D Q)):o.wpIn F n P a w K Q:=by
 unfold Oper.wpIn at *;refine ⟨h.1,?_⟩;have h:=h.2;generalize (o.semAt F.round a.eval).run P w=r at *;cases r with
 | ok x w'=>cases x <;> exact h
 | halt x w'=>cases x <;> exact h
theorem HC {m x:Nat} (hf:mG ops m x) {D:Act->World->Prop} {Q:Exit->Act->World->Prop}
  (hD:∀ (fuel:Nat) (listed:Array Bool) (a:Act) (w:World),ops.size - x<=fuel->HP ops x listed->D a w->wpAnyIn (Fr rr) 0 P .any ops Q fuel listed a w) :
  ∀ (r k fuel:Nat) (listed:Array Bool) (a:Act) (w:World),r=x - k->k<=x->m<=k->ops.size - k<=fuel->HP ops k listed ->
  wpListIn (Fr rr) 0 P ops (Exit.then D Q) ((ops.toList.drop k).take r) a w->wpAnyIn (Fr rr) 0 P .any ops Q fuel listed a w
 | 0,k,fuel,listed,a,w,hr,hk,hmk,hfu,hU,h=>by
  obtain rfl:k=x:=by omega
  rw [O7] at h;exact hD fuel listed a w hfu hU h
 | r + 1,k,fuel,listed,a,w,hr,hk,hmk,hfu,hU,h=>by
  have hxs:=hf.ks;have hlt:k < ops.size:=by omega
  have hready:∀ i,i∈Region.ready .any ops listed->i=k:=by
   intro i hi;let ⟨h1,h2,o,ho,h3⟩:=Ba.1 hi;rcases OW i k with h' | h' | h'
   ·have:=hU.nr h1 h2;omega
   ·exact h'
   ·exfalso;have h4:=hf.ord (i:=i) aa h1 k h' aa;have:=Bz (hU.cl hf) ops.size i k o ho h3 h4;rw [hU.no (MG _) aa] at this;cases this
  have ho:ops[k]?=some ops[k]:=NO hlt;have hdrop:(ops.toList.drop k).take (r + 1)=ops[k] :: (ops.toList.drop (k + 1)).take r:=by
   rw [MN (by simpa using hlt)];simp
  have hin:k∈Region.ready .any ops listed:=Ba.2 ⟨hlt,hU.2.2 k (MG _) hlt,_,ho,λe he hb=>hU.2.1 _ (hf.lt ho e he hb)⟩;cases fuel with
  | zero=>omega
  | succ fuel=>
   refine ⟨λhnil=>by rw [hnil] at hin;simp at hin,λi hi=>?_⟩;obtain rfl:=hready i hi;have ih:=λa' w'=>HC hf hD r (i + 1) fuel (listed.setIfInBounds i true) a' w' aa aa aa aa (hU.next hlt);rw [hdrop] at h;unfold wpOpIn;simp only [ho];unfold wpListIn at h;split
   ·rename_i hw;rw [if_pos hw] at h;exact DP (Oper.wpIn_mono (λa' w'=>ih a' w') h)
   ·rename_i hw;rw [if_neg hw] at h;exact ⟨λ_ _=>trivial,ih _ _ h.2⟩
inductive F3 (P:Program) (ops:Array Oper) (Γ:Cx) (k:Nat):Nat->Cx->Prop
 | nil:F3 P ops Γ k k []
 | cons {i d:Nat} {Δ:Cx} {op:Op} {ty:TypeId} {pos:String} {ai:Array Edge} {e:Ent} (h:F3 P ops Γ k i Δ)
   (ho:ops[i]?=some ⟨some d,op,ty,pos,ai,none⟩) (hr:OR P op ty (By (Au op) Δ ++ Γ) e):F3 P ops Γ k (i + 1) ((d,e) :: Δ)
theorem F3.ge {k i:Nat} {Δ:Cx} (h:F3 P ops Γ k i Δ):k<=i:=by
 induction h with
 | nil=>exact MG _
 | cons _ _ _ ih=>omega
theorem F3.key {k i:Nat} {Δ:Cx} (h:F3 P ops Γ k i Δ):∀ t e,Ao Δ t=some e->∃ j,k<=j/\j < i/\Bg ops j=some t:=by
 induction h with
 | nil=>intro t e h;cases h
 | cons h ho hr ih=>
  rename_i i d Δ op ty pos ai e;intro t e' he;rw [Aj] at he;unfold put at he;split at he
  ·rename_i ht;subst ht;exact ⟨i,h.ge,by omega,by simp [Bg,ho]⟩
  ·let ⟨j,a,b,c⟩:=ih t e' he;exact ⟨j,a,by omega,c⟩
theorem F3.at_ {k N:Nat} {Δ:Cx} (h:F3 P ops Γ k N Δ) (hu:∀ i j,k<=i->i < N->k<=j->j < N->i≠j->∀ d,Bg ops i=some d->Bg ops j≠some d):∀ i,k<=i->i < N->∃ d op ty pos ai e Δi,ops[i]?=some ⟨some d,op,ty,pos,ai,none⟩/\OR P op ty (By (Au op) Δi ++ Γ) e/\Ao Δ d=some e/\(∀ t e',Ao Δi t=some e'->Ao Δ t=some e'):=by
 induction h with
 | nil=>intro i h1 h2;omega
 | cons h ho hr ih=>
  rename_i n d Δ op ty pos ai e;intro i h1 h2;have keep:∀ t e',Ao Δ t=some e'->Ao ((d,e) :: Δ) t=some e':=λt e' he=>by
   let ⟨j,b1,b2,b3⟩:=h.key t e' he;have hne:t≠d:=λhh=>by
    subst hh;exact hu j n b1 aa h.ge aa aa t b3 (by simp [Bg,ho])
   rw [Aj];unfold put;rw [if_neg hne];exact he
  by_cases hin:i=n
  ·subst hin;exact ⟨d,op,ty,pos,ai,e,Δ,ho,hr,by rw [Aj];unfold put;rw [if_pos rfl],keep⟩
  ·let ⟨d',op',ty',pos',aft',e',Δi,a1,a2,a3,a4⟩:=ih (λi j p1 p2 p3 p4 p5 d hd=>hu i j p1 aa p3 aa p5 d hd) i h1 aa;exact ⟨d',op',ty',pos',aft',e',Δi,a1,a2,keep _ _ a3,λt x hx=>keep _ _ (a4 t x hx)⟩
open Classical in
noncomputable def gC (ops:Array Oper) (Γ Δ:Cx) (k:Nat) (listed:Array Bool):Mp:=λt=>if ∃ j,k<=j/\listed.getD j false=true/\Bg ops j=some t then Ao Δ t else Ao Γ t
theorem HN {m k n:Nat} {Δ:Cx} {M0:Fm} {w0:World} (hf:mG ops m k) (h3:F3 P ops Γ k ops.size Δ) (hdj:∀ x∈Δ,Ao Γ x.1=none) (hn:∀ x∈Δ,x.1 < n) {Q:Exit->Act->World->Prop}
  (K:∀ a' w',St M0 w0 n (Δ ++ Γ) a' w'->Q .normal a' w') :
  ∀ (fuel:Nat) (listed:Array Bool) (a:Act) (w:World),listed.toList.count false<=fuel->listed.size=ops.size->(∀ i,i < k->listed.getD i false=true) ->
   (∀ i o,ops[i]?=some o->listed.getD i false=true->∀ e∈o.after,Region.binds .any e=true->listed.getD e.on false=true)->StF M0 w0 n (gC ops Γ Δ k listed) a w->wpAnyIn (Fr rr) 0 P .any ops Q fuel listed a w:=by
 have hu:∀ i j,k<=i->i < ops.size->k<=j->j < ops.size->i≠j->∀ d,Bg ops i=some d->Bg ops j≠some d:=λi j h1 h2 h4 h5 hne d hd hd'=>by
  let ⟨d2,a1,_,a3⟩:=hf.fl (NO h2) h1 j h4 h5;rw [show Bg ops j=some d2 from a1] at hd';obtain rfl:=Option.some.inj hd';refine a3 hne ?_;simpa [Bg,NO h2] using hd
 have hAt:=h3.at_ hu;have hin:∀ {t e},Ao Δ t=some e->Ao Γ t=none/\t < n:=λ{t e} he=>by
  obtain ⟨x,hx,hxt⟩:∃ x∈Δ,x.1=t:=by
   clear hAt h3 hdj hn K
   induction Δ with
   | nil=>cases he
   | cons p Δ ih=>
    let ⟨s,e'⟩:=p;rw [Aj] at he;unfold put at he;split at he
    ·rename_i ht;exact ⟨(s,e'),by simp,ht.symm⟩
    ·let ⟨x,hx,hxt⟩:=ih he;exact ⟨x,M8 _ hx,hxt⟩
  exact ⟨hxt ▸ hdj x hx,hxt ▸ hn x hx⟩
 have fin:∀ (listed:Array Bool) (a:Act) (w:World),(∀ i,i < ops.size->listed.getD i false=true)->StF M0 w0 n (gC ops Γ Δ k listed) a w->Q .normal a w:=λlisted a w hall hs=>by
  refine K a w (hs.less λt e he=>?_)
  classical
  unfold gC;rcases Ff he with h | h
  ·let ⟨j,b1,b2,b3⟩:=h3.key t e h;rw [if_pos ⟨j,b1,hall j b2,b3⟩];exact h
  ·split
   ·rename_i hj;let ⟨j,b1,_,b3⟩:=hj;have hjs:j < ops.size:=by
     unfold Bg at b3;cases ho:ops[j]? with
     | none=>rw [ho] at b3;cases b3
     | some o=>exact (L3.1 ho).1
    let ⟨d,op,ty,pos,ai,e',Δi,c1,_,c3,_⟩:=hAt j b1 hjs;have:d=t:=by simpa [Bg,c1] using b3
    subst this;rw [(hin c3).1] at h;cases h
   ·exact h
 intro fuel
 induction fuel with
 | zero=>
  intro listed a w h1 h2 _ _ h4;have hall:∀ i,i < ops.size->listed.getD i false=true:=λi hi=>by
   cases hb:listed.getD i false
   ·exfalso;have hi':i < listed.size:=by omega
    have h5:listed[i]=false:=by simpa [LY,hi'] using hb
    have h6:false∈listed.toList:=by rw [← h5];exact Array.getElem_mem_toList hi'
    have:=PX.2 h6;omega
   ·rfl
  refine ⟨?_,fin listed a w hall h4⟩;cases hrd:Region.ready .any ops listed with
  | nil=>rfl
  | cons x xs=>
   have hx:x∈Region.ready .any ops listed:=by rw [hrd];exact NL ..
   let ⟨b1,b2,_⟩:=Ba.1 hx;have:=hall x b1;simp [LY,h2,b1] at this b2;rw [this] at b2;cases b2
 | succ fuel ih=>
  intro listed a w h1 h2 hk hcl h4;refine ⟨λhnil=>?_,λi hi=>?_⟩
  ·refine fin listed a w ?_ h4;intro i
   induction i using Nat.strongRecOn with
   | _ i ihi=>
    intro hio;cases hb:listed.getD i false
    ·exfalso;have ho:ops[i]?=some ops[i]:=NO hio;have hin:i∈Region.ready .any ops listed:=Ba.2 ⟨hio,by simpa [LY,h2,hio] using hb,_,ho,λe he hb'=>by
      have:=hf.lt ho e he hb';exact ihi _ this aa⟩
     rw [hnil] at hin;simp at hin
    ·rfl
  ·let ⟨hio,hil,o,ho,hdeps⟩:=Ba.1 hi;have hil':listed.getD i false=false:=by simpa [LY,h2,hio] using hil
   have hki:k<=i:=by
    refine Nat.le_of_not_lt λhlt=>?_;rw [hk i hlt] at hil';cases hil'
   let ⟨d,op,ty,pos,ai,e,Δi,c1,c2,c3,c4⟩:=hAt i hki hio;obtain rfl:=Option.some.inj (ho.symm.trans c1);have hdi:Bg ops i=some d:=by simp [Bg,ho]
   have his:i < listed.size:=by omega
   have hg:∀ j,(listed.setIfInBounds i true).getD j false=if j=i then true else listed.getD j false:=λj=>by
    by_cases hji:j=i
    ·subst hji;simp [LY,his]
    ·rw [if_neg hji];simp [LY,MV (Ne.symm hji)]
   let ⟨M,φ,hst⟩:=h4;have rd:Rd (Ao (By (Au op) Δi ++ Γ)) M w a.eval:=by
    refine ⟨λt x hx=>hst.rd.tmp t x ?_,hst.rd.con,hst.rd.fn,hst.rd.bd,hst.rd.glo⟩
    classical
    unfold gC;rcases Ff hx with h5 | h5
    ·let ⟨h6,h7⟩:=Bt h5;have h8:=c4 t x h7;let ⟨j,b1,b2,b3⟩:=h3.key t x h8;let ⟨d2,q1,q2,_⟩:=hf.fl ho hki j b1 b2;rw [show Bg ops j=some d2 from q1] at b3;obtain rfl:=Option.some.inj b3;have hdp:=q2 h6;have hlj:listed.getD j false=true:=by
      unfold cO at hdp;simp only [PT,L1,beq_iff_eq] at hdp;obtain ⟨ed,h9,h10,rfl⟩:=hdp;exact hdeps ed h9 h10
     rw [if_pos ⟨j,b1,hlj,q1⟩];exact h8
    ·split
     ·rename_i hj;let ⟨j,b1,_,b3⟩:=hj;have hjs:j < ops.size:=by
       unfold Bg at b3;cases ho:ops[j]? with
       | none=>rw [ho] at b3;cases b3
       | some o=>exact (L3.1 ho).1
      let ⟨d',_,_,_,_,_,_,c1',_,c3',_⟩:=hAt j b1 hjs;have:d'=t:=by simpa [Bg,c1'] using b3
      subst this;rw [(hin c3').1] at h5;cases h5
     ·exact h5
   unfold wpOpIn;simp only [ho];simp only [Region.wanted,if_true];refine (Bk.upon ((c2 _ _ _ _ a.eval M w rd).mono λv w' hgv=>?_));refine ih _ _ _ ?_ (by simp [h2]) (λj hj=>?_) (λj oj hoj hlj ed he hb=>?_) ?_
   ·have hgi0:listed[i]=false:=by simpa [LY,his] using hil'
    have hlt:i < listed.toList.length:=by simpa using his
    have hgi:listed.toList[i]=false:=by simpa using hgi0
    have hpos:0 < listed.toList.count false:=PX.2 (by rw [← hgi];exact MA _);rw [PU,List.count_set hlt,hgi];rw [show ((true:Bool) == false)=false from rfl,show ((false:Bool) == false)=true from rfl];rw [if_pos rfl,if_neg (by decide)];omega
   ·rw [hg];split
    ·rfl
    ·exact hk j hj
   ·rw [hg];split
    ·rfl
    ·rw [hg] at hlj;split at hlj
     ·rename_i hji;subst hji;rw [ho] at hoj;cases hoj
      exact hdeps ed he hb
     ·exact hcl j oj hoj hlj ed he hb
   ·have h5:=hst.gives hgv (hin c3).2;refine StF.less h5 λt e' he'=>?_
    classical
    unfold gC at he' ⊢;unfold put;replace he':(if ∃ j,k<=j/\(listed.setIfInBounds i true).getD j false=true/\Bg ops j=some t then Ao Δ t else Ao Γ t)=some e':=he'
    by_cases htd:t=d
    ·subst htd;rw [if_pos rfl];rw [if_pos ⟨i,hki,by rw [hg,if_pos rfl],hdi⟩,c3] at he';exact he'
    ·rw [if_neg htd];show (if ∃ j,k<=j/\listed.getD j false=true/\Bg ops j=some t then Ao Δ t else Ao Γ t)=some e'
     by_cases hls:∃ j,k<=j/\listed.getD j false=true/\Bg ops j=some t
     ·rw [if_pos hls];let ⟨j,r1,r3,r4⟩:=hls;rw [if_pos ⟨j,r1,by rw [hg]; split <;> simp_all,r4⟩] at he'
      exact he'
     ·rw [if_neg hls];rw [if_neg] at he'
      ·exact he'
      ·rintro ⟨j,r1,r3,r4⟩;rw [hg] at r3;split at r3
       ·rename_i hji;subst hji;rw [hdi] at r4;exact htd (Option.some.inj r4).symm
       ·exact hls ⟨j,r1,r3,r4⟩
def qM (P:Program) (ops:Array Oper) (k:Nat) (M0:Fm) (w0:World) (n:Nat) (Q:Exit->Act->World->Prop) (a:Act) (w:World):Prop:=
 ∃ Γ Δ:Cx,St M0 w0 n Γ a w/\F3 P ops Γ k ops.size Δ/\Δ.all (λx=>(Ao Γ x.1).isNone)=true/\Δ.all (λx=>Nat.blt x.1 n)=true/\∀ a w,St M0 w0 n (Δ ++ Γ) a w->Q .normal a w
theorem lg {m n id:Nat} {Δ:Cx} {M0:Fm} {w0:World} [hmx:Mx P] {Q:Exit->Act->World->Prop} {a:Act} {w:World} (k:Nat) (hs:St M0 w0 n Γ a w) (hfl:Fl P ops Γ m Δ) (hf:Zi ops m k=true)
  (hdj:Δ.all (λx=>(Ao Γ x.1).isNone)=true) (hn:Δ.all (λx=>Nat.blt x.1 n)=true)
  (K:∀ a' w',St M0 w0 n (Δ ++ Γ) a' w'->wpListIn (Fr rr) 0 P ops (Exit.then (qM P ops k M0 w0 n Q) Q) ((ops.toList.drop m).take (k - m)) a' w'):(Code.region id ops true).wpIn (Fr rr) 0 P Q a w:=by
 have hd:=jI hf;have hmx':=hd.mk_;have hxs:=hd.ks;refine wpIn_region_any hmx.mixed (CU hd.w hfl (λx hx=>by simpa using L5.1 hdj x hx) (λx hx=>?_) (λfuel listed a w h1 h2 h3 h4 h5=>HC hd (λfuel listed a w g1 g2 g3=>?_) _ m fuel listed a w rfl aa (MG _) h1 ⟨h2,h4,h3⟩ (K a w h5)) ops.size _ a _ ?_ ah (λi _ hi=>by simp [LY,hi]) (λi o ho hl=>?_) ?_)
 ·have:=L5.1 hn x hx;exact L6 this
 ·let ⟨Γ',Δ',b1,b2,b3,b4,b5⟩:=g3;have hc:listed.toList.count false<=ops.size - k:=by
   have e1:listed.toList=listed.toList.take k ++ listed.toList.drop k:=(P6 _ _).symm;rw [e1,List.count_append];have e2:(listed.toList.take k).count false=0:=by
    refine QM.2 λhm=>?_;let ⟨i,hi,he⟩:=List.mem_take_iff_getElem.1 hm;have hi':i < listed.size:=by simp at hi;omega
    have h6:=g2.2.1 i (by simp at hi;omega);have h7:listed[i]=false:=by simpa using he
    simp [LY,hi',h7] at h6
   have e3:(listed.toList.drop k).count false<=ops.size - k:=by
    refine NA PP ?_;simp [g2.1]
   omega
  refine HN hd b2 (λx hx=>by simpa using L5.1 b3 x hx) (λx hx=>?_) b5 fuel listed a w aa g2.1 g2.2.1 (g2.cl hd) (StF.less b1 λt e he=>?_)
  ·have:=L5.1 b4 x hx;exact L6 this
  ·classical
   unfold gC at he;rw [if_neg] at he
   ·exact he
   ·rintro ⟨j,r1,r3,r4⟩;have hjs:j < ops.size:=by
     unfold Bg at r4;cases ho:ops[j]? with
     | none=>rw [ho] at r4;cases r4
     | some o=>exact (L3.1 ho).1
    rw [g2.no r1 hjs] at r3;cases r3
 ·have:((Array.replicate ops.size false).toList.take m).count false<=m:=by
   refine NA PP ?_;simp;omega
  have hm:m<=ops.size:=by omega
  omega
 ·have hi:i < ops.size:=(L3.1 ho).1;simp [LY,hi] at hl
 ·have hmle:m<=ops.size:=by omega
  rw [AJ hfl.ds λi hi=>by simp [LY,show i < ops.size by omega]];let ⟨M,φ,h⟩:=hs;refine ⟨M,φ,λt e he=>Ent.st _ (h.holds t e he) (Ext.drawn _ _ _ (OZ _ _)),h.own,h.apart,h.sub,h.bd,h.fr.trans (Ext.drawn _ _ _ (OZ _ _)),h.sz,h.df⟩
theorem d3 {k n:Nat} {Δ:Cx} {M0:Fm} {w0:World} {Q:Exit->Act->World->Prop} {a:Act} {w:World} (hs:St M0 w0 n Γ a w) (h:F3 P ops Γ k ops.size Δ) (h1:Δ.all (λx=>(Ao Γ x.1).isNone)=true) (h2:Δ.all (λx=>Nat.blt x.1 n)=true)
  (K:∀ a w,St M0 w0 n (Δ ++ Γ) a w->Q .normal a w):wpListIn (Fr rr) 0 P ops (Exit.then (qM P ops k M0 w0 n Q) Q) [] a w:=⟨Γ,Δ,hs,h,h1,h2,K⟩
end
end
theorem I.{u} {α : Sort u} {a : α} : a = a := rfl
end Go.Pn
set_option linter.defProp false
namespace Go.Pn
open Go Go.RowKit
section
abbrev ic (n:Int):Go.Value:=.int .i64 n
theorem bkd {α β:Type} {o:Option α} {f:α→Option β} {r:β} {p:Prop} (h:o.bind f=some r) (k:∀ x,Kw True o x→f x=some r→p):p:=let ⟨x,a,b⟩:=bk h;k x a b
theorem aE {α β:Type} {o:Option α} {f:α→Option β} {r:β} {p:Prop} (h:o.bind f=some r) (k:∀ x,o=some x→f x=some r→p):p:=let ⟨x,a,b⟩:=bs h;k x a b
theorem K_ {p:Prop} (h:p:=by repeat (first | exact kn | refine kc rfl ?_)):p:=h
theorem V_ {p:Prop} (h:p:=by first | exact rv0 | exact rv1 (rt rfl) | exact rv2 (rt rfl) (rt rfl) | exact rv3 (rt rfl) (rt rfl) (rt rfl)):p:=h
section
variable {P:Program} {M0:Fm} {w0:World} {n:Nat} {Γ:Cx} {a:Act} {w:World} {k:Nat} {e:Ent} {es:List Ent} {ks:QR}
class KP (Γ:Cx) (e:Ent) (k:outParam Nat):Prop
instance (priority:=low) {x:Nat×Ent} [KP Γ e k]:KP (x :: Γ) e k:=⟨⟩
instance:KP ((k,e) :: Γ) e k:=⟨⟩
instance (priority:=low) {A:Cx} [KP Γ e k]:KP (A ++ Γ) e k:=⟨⟩
instance {A:Cx} [KP A e k]:KP (A ++ Γ) e k:=⟨⟩
class KF (Γ:Cx) (e:Ent) (k:outParam Nat):Prop where h:Ao Γ k=some e
instance [KP Γ e k] [h:Lk (lk Γ k) e]:KF Γ e k:=⟨(Bu _ _).symm.trans h.h⟩
class KL (Γ:Cx) (es:List Ent) (ks:outParam QR):Prop where h:Kg (Ao Γ) ks es
instance:KL Γ [] []:=⟨kn⟩
instance [h:KF Γ e k] [Gh e] [h':KL Γ es ks]:KL Γ (e :: es) (k :: ks):=⟨kc h.h h'.h⟩
theorem zz {fn:Func} {rs:Array ResultVar} {X:Type} {eo:X→Ent} {G:X→List Ent} (x:X) (hM:Bd M0 w0) (hD:M0.ds=[]) (hs:St M0 w0 n Γ a w) [hk:KL Γ (G x) ks] (hr:fn.results=rs:=by exact rfl) (h:RV P Γ rs (eo x):=by exact V_) (hd:be ks=true:=by exact rfl):eK P fn (cU M0 w0 (Rz eo G)) .ret a w:=rz ks x hM hD hs hr h hk.h hd
theorem zw {fn:Func} {rs:Array ResultVar} {X:Type} {eo:X→Ent} {G:X→List Ent} (x:X) (hM:Bd M0 w0) (hD:M0.ds=[]) (hs:St M0 w0 n Γ a w) (hr:fn.results=rs) (h:RV P Γ rs (eo x)) [hk:KL Γ (G x) ks] (hd:be ks=true:=by exact rfl):eK P fn (cU M0 w0 (Rz eo G)) .ret a w:=rz ks x hM hD hs hr h hk.h hd
theorem ze {fn:Func} {rs:Array ResultVar} {X:Type} {eo:X→Ent} {G:X→List Ent} (x:X) (hM:Bd M0 w0) (hD:M0.ds=[]) (hs:St M0 w0 n Γ a w) [hk:KL Γ (G x) ks] (hr:fn.results=rs:=by exact rfl) (h:RV P Γ rs (eo x):=by exact V_) (hd:be ks=true:=by exact rfl):eK P fn (cU M0 w0 (Rz eo G)) .normal a w:=rze ks x hM hD hs hr h hk.h hd
end
theorem L_ {p:Prop} (h:p:=by first | exact rT H s rfl rfl | exact rU H s rfl rfl | exact rV H s rfl rfl | exact wpIn_ret (zz () A H s) | exact ze () A H s):p:=h
theorem E_ {p:Prop} (h:p:=by first | exact ⟨_,c,s.fi⟩ | exact ⟨_,(si c).symm,s.fi⟩ | (cases c;exact L_) | (cases c;exact s.fi) | (cases c;replace c:=k1;(try dsimp only at c);cases c;exact L_) | (cases c;replace c:=k2;(try dsimp only at c);cases c;exact L_) | (cases c;replace c:=k3;(try dsimp only at c);cases c;exact L_) | (cases c;replace c:=k2;(try dsimp only at c);cases c;replace c:=k1;(try dsimp only at c);cases c;exact L_) | ((try dsimp only at c);cases c;exact L_)):p:=h
theorem y_ {Γ:Cx} {d:Nat} {e:Ent} [h:Lk (lk Γ d) e]:Od Γ (.tmp d) e:=t ((Bu _ _).symm.trans h.h)
theorem D_ {p:Prop} (h:p:=by exact ⟨λ_=>rfl,rfl,by first | exact .inl rfl | exact .inr ⟨by repeat (first | exact bi | refine aQ rfl ?_ | refine eU (K:=300) rfl rfl ?_ | refine eU (K:=306) rfl rfl ?_ | refine eU (K:=307) rfl rfl ?_ | refine eU (K:=302) rfl rfl ?_),by repeat (first | exact sb0 | refine sb1 rfl ?_),by repeat (first | exact sn0 | refine sn2 rfl ?_ | refine sn1 rfl ?_)⟩⟩):p:=h
section
variable {rr:Option Nat} {P:Program} {M0:Fm} {w0:World} {n:Nat} {Γ Γf Δ:Cx} {ops:Array Oper} {ts:QR} {Q:Exit→Act→World→Prop} {ue ul ld:QR} {is:List (Nat×QR)} {dn:QR} {a:Act} {w:World}
theorem bb {Θ:Cx→Cx} {i:Nat} {gs:QR} {o:Oper} (ho:ops[i]?=some o)
  (h:∀ {Ψ:Cx} {a w},St M0 w0 n (Θ (By gs Δ ++ Ψ)) a w→wpListIn (Fr rr) 0 P ops (Exit.then (λa' w'=>∃ Θ',TP (rr:=rr) P M0 w0 n ops Q Γf Δ ts ue ul ld is (gs ++ dn) Θ'∧St M0 w0 n (Θ' Ψ) a' w') Q) [o] a w)
  (h1:dK Γf Δ ue ul ld Θ dn:=by exact D_)
  (h2:(gs.all λd=>ld.contains d && ((List.range ops.size).any λj=>!ts.contains j && ((ops[j]?).bind (·.dst) == some d)) && (List.range ops.size).all λj=>ts.contains j || !((ops[j]?).bind (·.dst) == some d) || Fp ops ops.size i j)=true:=by kernel_rfl):TP (rr:=rr) P M0 w0 n ops Q Γf Δ ts ue ul ld ((i,gs) :: is) dn Θ:=
 ⟨h1,h2,o,ho,λ_ _ _ s=>h s⟩
theorem bz {Θ:Cx→Cx} (h:∀ {a w},St M0 w0 n (Θ (By ld Δ)) a w→Q .normal a w) (h1:dK Γf Δ ue ul ld Θ dn:=by exact D_):TP (rr:=rr) P M0 w0 n ops Q Γf Δ ts ue ul ld [] dn Θ:=⟨h1,λ_ _ s=>h s⟩
theorem nx {Γ' Φ Ψ:Cx} (s:St M0 w0 n Γ' a w) [e:Pf Γ' Φ Ψ] (h:TP (rr:=rr) P M0 w0 n ops Q Γf Δ ts ue ul ld is dn (λΨ=>Φ ++ Ψ)):wpListIn (Fr rr) 0 P ops (Exit.then (λa' w'=>∃ Θ',TP (rr:=rr) P M0 w0 n ops Q Γf Δ ts ue ul ld is dn Θ'∧St M0 w0 n (Θ' Ψ) a' w') Q) [] a w:=nl (bM Ψ s h)
end
section
variable {rr:Option Nat} {P:Program} {M0:Fm} {w0:World} {n:Nat} {Γ:Cx} {ops:Array Oper} {Q:Exit→Act→World→Prop} {a:Act} {w:World}
theorem uu {l l':List Oper} {Γ':Cx} (k:Nat) [hr:Rn P ops.toList n k l Γ l' Γ'] (h:∀ {a w},St M0 w0 n Γ' a w→wpListIn (Fr rr) 0 P ops Q l' a w) (s:St M0 w0 n Γ a w):wpListIn (Fr rr) 0 P ops Q l a w:=hr.h rfl s λ_ _=>h
theorem qq {rest:List Oper} {d:Nat} {op:Op} {ty:TypeId} {pos:String} {ai:Array Edge} {e:Ent} (ho:OR P op ty Γ e) (hn:Nat.blt d n=true) (k:∀ {a w},St M0 w0 n ((d,e) :: Γ) a w→wpListIn (Fr rr) 0 P ops Q rest a w) (s:St M0 w0 n Γ a w):wpListIn (Fr rr) 0 P ops Q (⟨some d,op,ty,pos,ai,none⟩ :: rest) a w:=sq s ho hn λ_ _=>k
theorem ui {l l':List Oper} {Γ':Cx} (k:Nat) (s:St M0 w0 n Γ a w) [hr:Rn P ops.toList n k l Γ l' Γ'] (h:∀ {a w},St M0 w0 n Γ' a w→wpListIn (Fr rr) 0 P ops Q l' a w):wpListIn (Fr rr) 0 P ops Q l a w:=hr.h rfl s λ_ _=>h
theorem qj {rest:List Oper} {d:Nat} {op:Op} {ty:TypeId} {pos:String} {ai:Array Edge} {e:Ent} (s:St M0 w0 n Γ a w) (ho:OR P op ty Γ e) (hn:Nat.blt d n=true) (k:∀ {a w},St M0 w0 n ((d,e) :: Γ) a w→wpListIn (Fr rr) 0 P ops Q rest a w):wpListIn (Fr rr) 0 P ops Q (⟨some d,op,ty,pos,ai,none⟩ :: rest) a w:=sq s ho hn λ_ _=>k
theorem Ri {id:Nat} {d:Code} {Γ':Cx} (k:Nat) (s:St M0 w0 n Γ a w) [hr:Rn P ops.toList n k ops.toList Γ [] Γ'] (h:∀ {a w},St M0 w0 n Γ' a w→d.wpIn (Fr rr) 0 P Q a w):(Code.seq (Code.region id ops false) d).wpIn (Fr rr) 0 P Q a w:=R k s λ_ _=>h
theorem Rj {id:Nat} {Γ':Cx} (k:Nat) (s:St M0 w0 n Γ a w) [hr:Rn P ops.toList n k ops.toList Γ [] Γ'] (h:∀ {a w},St M0 w0 n Γ' a w→Q .normal a w):(Code.region id ops false).wpIn (Fr rr) 0 P Q a w:=R0 k s λ_ _=>h
end
def Fg.c:=@Fg.cons
def Fg.l:=@Fg.late
def Fg.s:=@Fg.skip
def Fl.c:=@Fl.cons
def F3.c:=@F3.cons
section
variable {Δ Γ:Cx} {n:Nat} {e:Ent}
@[reducible] def kO:QR→Nat→Option Unit
 | [],_=>none
 | s :: l,t=>match Nat.beq s t with | true=>some () | false=>kO l t
theorem jl:∀ {l:QR} {n:Nat},kO l n=some ()→l.contains n=true
 | [],_,h=>by cases h
 | s :: l,n,h=>by
  unfold kO at h
  cases hb:Nat.beq s n
  ·rw [hb] at h;have:=jl (l:=l) h;simp at this ⊢;exact .inr this
  ·have:=N1 hb;subst this;simp
theorem Pm {ks:QR}:∀ {Γ:Cx},ks.contains n=true→Ao Γ n=some e→Ao (By ks Γ) n=some e
 | [],_,h=>by cases h
 | (s,e') :: Γ,hk,h=>by
  rw [Aj] at h;unfold put at h;unfold By
  split at h
  ·rename_i hh;subst hh;rw [hk];show Ao ((n,e') :: By ks Γ) n=_;rw [Aj];unfold put;rw [if_pos rfl];exact h
  ·rename_i hh
   cases ks.contains s
   ·exact Pm hk h
   ·show Ao ((s,e') :: By ks Γ) n=_;rw [Aj];unfold put;rw [if_neg hh];exact Pm hk h
instance {ks:QR} [h:Lk (lk Δ n) e] [hc:Bf (kO ks n)]:Lk (lk (By ks Δ) n) e:=⟨(Bu _ _).trans (Pm (jl hc.h) ((Bu _ _).symm.trans h.h))⟩
@[reducible] def l7:QR→Nat→Option Unit
 | [],_=>some ()
 | s :: l,t=>match Nat.beq s t with | true=>none | false=>l7 l t
theorem kM:∀ {l:QR} {n:Nat},l7 l n=some ()→l.contains n=false
 | [],_,_=>rfl
 | s :: l,n,h=>by
  unfold l7 at h
  cases hb:Nat.beq s n
  ·rw [hb] at h
   have h2:=kM (l:=l) h
   have:s≠n:=λe=>by subst e;simp at hb
   simp at h2 ⊢;exact ⟨λe=>this e.symm,h2⟩
  ·rw [hb] at h;cases h
theorem AA {ks:QR} (hk:ks.contains n=false):∀ {Γ Δ:Cx},Ao (By ks Γ ++ Δ) n=Ao Δ n
 | [],_=>rfl
 | (s,e') :: Γ,Δ=>by
  unfold By
  cases hc:ks.contains s
  ·exact AA hk
  ·show Ao ((s,e') :: (By ks Γ ++ Δ)) n=_
   rw [Aj];unfold put
   rw [if_neg (λe=>by subst e;rw [hk] at hc;cases hc)]
   exact AA hk
instance {ks:QR} [h:Lk (lk Δ n) e] [hc:Bf (kO ks n)]:Lk (lk2 (By ks Δ) Γ n) e:=⟨by
 rw [Uh,Bu];exact Dy (Pm (jl hc.h) ((Bu _ _).symm.trans h.h))⟩
instance (priority:=low) {ks:QR} [hc:Bf (l7 ks n)] [h:Lk (lk Γ n) e]:Lk (lk2 (By ks Δ) Γ n) e:=⟨by
 rw [Uh,Bu,AA (kM hc.h),← Bu];exact h.h⟩
instance {A B:Cx} [h:Lk (lk2 A (B ++ Γ) n) e]:Lk (lk2 (A ++ B) Γ n) e:=⟨by have:=h.h;rw [Uh] at this ⊢;rw [MP];exact this⟩
end
section
variable {rr:Option Nat} {P:Program} {Q:Exit→Act→World→Prop} {a:Act} {w:World}
theorem sr {id:Nat} {ops:Array Oper} {d:Code} (h:wpListIn (Fr rr) 0 P ops (Exit.then (d.wpIn (Fr rr) 0 P Q) Q) ops.toList a w):(Code.seq (Code.region id ops false) d).wpIn (Fr rr) 0 P Q a w:=se (rg h)
end
theorem O {p:Prop} (h:p:=by kernel_rfl):p:=h
def J:=@se
def Z:=@Ri
def B:=@bkd
def N:=@nl
def Y:=@E_
def U:=@uu
def P:=@ui
def C:=@qq
def o:=@oc
def i:=@si
def p:=@K_
def wT:=@wpIn_ret
def wB:=@wpIn_block
def wX:=@wpIn_exit
def wK:=@wpIn_skip
end
section
open Go.Proofs Go.Proofs.Tryz
variable (f:Nat)
def Ua (v:Ai):Nat->Int->Option (Lo (Int) (Bool))
 | 0,_=>none
 | n+1,z1=>(bif decide (z1 < (v.Steps.length:Int)) then (idx v.Steps z1).bind λx3=>(bif decide ((x3.Strokes.length:Int) > 40) then some (.ret false) else Ua v n (wr (z1 + 1))) else some (.brk z1))
def kU (v:Ai):Option (Bool):=(bif decide ((v.Steps.length:Int) > 128) then some false else (Ua v f 0).bind λo2=>match o2 with | .brk o2s=>some true | .ret r=>some r)
theorem s50 (v:Ai) (r:Bool) (c:kU f v=some r):Sp prog 50 [Va v] (Va r):=
 am func50 O I ntmps50 I I λM W a A H s=>Z 2 s λs=>J (Z 4 s λs=>aj s c (λhb c=>Z 1 s λs=>Y) λhb c=>J (Z 1 s λs=>lB c [0,1,2] s (λz1=>[(3,Va z1)]) s.fi (λ_=>I) (λo2 k1 n z1 a w c s=>J (Z 5 s λs=>ax s c (λhb c=>J (wB (sr (P 3 s λs=>iB s c λx3 c a w=>U 4 λs=>N (aj s c (λhb c=>Z 1 s λs=>Y) λhb c=>Rj 3 s λs=>Y))))) λhb c=>wX Y)) λo2s c a w s=>Z 1 s λs=>Y))
instance {f:Nat} {v:Ai}:Cn prog 50 (kU f v) [Va v] (λr:Bool=>(Va r)):=⟨s50 f v⟩
def Q2 (f:Nat) (v:Int):Option (Bool):=some (decide (v>=0) && decide (v < 6))
theorem oC (v:Int) (r:Bool) (c:Q2 f v=some r):Sp prog 203 [Va v] (Va r):=
 am func203 O I ntmps203 I I λM W a A H s=>Z 1 s λs=>Z 7 s λs=>Y
def Q3 (f:Nat) (v:Int):Option (Bool):=some (decide (v>=0) && decide (v<=1000000))
theorem oB (v:Int) (r:Bool) (c:Q3 f v=some r):Sp prog 204 [Va v] (Va r):=
 am func204 O I ntmps204 I I λM W a A H s=>Z 1 s λs=>Z 7 s λs=>Y
def Mz (v:Step):Nat->Int->Option (Lo (Int) (Int))
 | 0,_=>none
 | n+1,z1=>(bif decide (z1 < (v.Strokes.length:Int)) then (idx v.Strokes z1).bind λx3=>(Q2 f x3.Actuator).bind λx4=>(bif !x4 then some (.ret 2) else (bif decide (z1 > 0) then (idx v.Strokes z1).bind λx5=>(idx v.Strokes (wr (z1 - 1))).bind λx6=>some (x5.Actuator == x6.Actuator) else some false).bind λr7=>bif r7 then some (.ret 7) else (bif decide (z1 > 0) then (idx v.Strokes z1).bind λx8=>(idx v.Strokes (wr (z1 - 1))).bind λx9=>some (decide (x8.Actuator < x9.Actuator)) else some false).bind λr10=>bif r10 then some (.ret 9) else Mz v n (wr (z1 + 1))) else some (.brk z1))
def Q4 (v:Step):Option (Int):=(bif (v.Strokes.length:Int) == 0 then some 13 else bif decide ((v.Strokes.length:Int) > 6) then some 5 else (Mz f v f 0).bind λo2=>match o2 with | .brk o2s=>(Q3 f v.Wait).bind λx11=>bif !x11 then some 2 else some 0 | .ret r=>some r)
theorem pt (v:Step) (r:Int) (c:Q4 f v=some r):Sp prog 123 [Va v] (Va r):=
 am func123 O I ntmps123 I I λM W a A H s=>Z 2 s λs=>J (Z 4 s λs=>aj s c (λhb c=>Z 1 s λs=>Y) λhb c=>J (Z 4 s λs=>aj s c (λhb c=>Z 1 s λs=>Y) λhb c=>J (Z 1 s λs=>lB c [0,1,2] s (λz1=>[(3,Va z1)]) s.fi (λ_=>I) (λo2 k1 n z1 a w c s=>J (Z 5 s λs=>ax s c (λhb c=>J (wB (J (sr (P 3 s λs=>iB s c λx3 c a w=>U 2 λs=>cB s c (oC f _) λx4 c a w=>U 1 λs=>N (aj s c (λhb c=>Z 1 s λs=>Y) λhb c=>J (aE c λr7 hr7 c=>by have gr7:=gT hr7;have er7:=gF hr7;obtain ⟨x5,hx5,gr7⟩:=gk gr7;obtain ⟨x6,hx6,gr7⟩:=gk gr7;have:=bK gr7 er7;exact J (fW 18 s O I I λa w s=>N (aj s c (λhb c=>Z 1 s λs=>Y) λhb c=>aE c λr10 hr10 c=>by have gr10:=gT hr10;have er10:=gF hr10;obtain ⟨x8,hx8,gr10⟩:=gk gr10;obtain ⟨x9,hx9,gr10⟩:=gk gr10;have:=bK gr10 er10;exact J (fW 18 s O I I λa w s=>N (aj s c (λhb c=>Z 1 s λs=>Y) λhb c=>Rj 3 s λs=>Y))))))))))) λhb c=>wX Y)) λo2s c a w s=>J (sr (P 2 s λs=>cB s c (oB f _) λx11 c a w=>U 1 λs=>N (aj s c (λhb c=>Z 1 s λs=>Y) λhb c=>Z 1 s λs=>Y))))))
def My (v:Step) (b:QQ):Nat->Int->Option (Lo (Int) (Bool))
 | 0,_=>none
 | n+1,z1=>(bif decide (z1 < (v.Strokes.length:Int)) then (idx v.Strokes z1).bind λx3=>(bif decide (x3.Actuator>=(b.length:Int)) then some true else (idx b x3.Actuator).bind λx5=>some (x5 == x3.Out)).bind λr6=>(bif r6 then some (.ret false) else My v b n (wr (z1 + 1))) else some (.brk z1))
def Q5 (v:Step) (b:QQ):Option (Bool):=((My v b f 0).bind λo2=>match o2 with | .brk o2s=>some true | .ret r=>some r)
theorem pq (v:Step) (b:QQ) (r:Bool) (c:Q5 f v b=some r):Sp prog 124 [Va v,Va b] (Va r):=
 am func124 O I ntmps124 I I λM W a A H s=>Z 2 s λs=>J (Z 1 s λs=>lB c [0,1,2,4] s (λz1=>[(5,Va z1)]) s.fi (λ_=>I) (λo2 k1 n z1 a w c s=>J (Z 5 s λs=>ax s c (λhb c=>J (wB (sr (P 3 s λs=>iB s c λx3 c a w=>U 1 λs=>bG 300 s (al (z:=(⟨(0:Int),false⟩:Ab))) I I λb4 a w s=>sw (K:=300) s (t I) I (t I) I λw s=>N (aE c λr6 hr6 c=>by have gr6:=gF hr6;have er6:=gT hr6;obtain ⟨x5,hx5,gr6⟩:=gk gr6;have:=cD gr6 er6;exact J (fW 15 s O I I λa w s=>N (aj s c (λhb c=>Z 1 s λs=>Y) λhb c=>Rj 3 s λs=>Y))))))) λhb c=>wX Y)) λo2s c a w s=>Z 1 s λs=>Y)
def Mw (v:Step):Nat->(Int×QQ)->Option (Int×QQ)
 | 0,_=>none
 | n+1,z4=>(bif decide (z4.1 < (v.Strokes.length:Int)) then (idx v.Strokes z4.1).bind λx6=>(idx v.Strokes z4.1).bind λx7=>(idx z4.2 x6.Actuator).bind λx8=>Mw v n ((wr (z4.1 + 1)),(z4.2.set x6.Actuator.toNat x7.Out)) else some (z4.1,z4.2))
def Q6 (v:Step) (b:QQ):Option (QQ):=(app ([]:QQ) b).bind λx2=>(Mw v f (0,x2)).bind λo5s=>some o5s.2
theorem pp (v:Step) (b r:QQ) (c:Q6 f v b=some r):Sp prog 125 [Va v,Va b] (Va r):=
 am func125 O I ntmps125 I I λM W a A H s=>Z 2 s λs=>B c λx2 hx2 c=>sr (dY 300 s (cR (o0 (α:=Bool)) I I O) I I λc1 a w=>U 1 λs=>aC (α:=Bool) (k:=300) s (t I) I (t I) hx2.e I I λc3 a w=>U 1 λs=>N (J (Z 1 s λs=>lA c [0,1,2,4,5] s (λz4=>[(6,Va z4.1),(300,Ow 4 c3 z4.2)]) s.fi (λ_=>I) (λo5s k1 n z4 a w c s=>J (Z 5 s λs=>ax s c (λhb c=>J (wB (B c λx6 hx6 c=>B c λx7 hx7 c=>B c λx8 hx8 c=>fW 14 s O I I λa w s=>bm (k:=300) s (t I) I (Dh hx8.e) (t I) λw s=>N (Rj 3 s λs=>Y)))) λhb c=>wX Y)) λo5s c a w s=>Z 2 s λs=>by cases c;exact aw (α:=Bool) (k:=300) A s I λs=>wT (rn H s I (rv1 (ro (ta (k:=300) (t I) I)))))))
def Tw (v:Ai) (o4s:QQ×Int):Nat->Int->Option (Lo (Int) (Int))
 | 0,_=>none
 | n+1,z13=>(bif decide (z13 < v.Actuators) then (idx o4s.1 z13).bind λx15=>(bif x15 then some (.ret 9) else Tw v o4s n (wr (z13 + 1))) else some (.brk z13))
def Tx (v:Ai) (x5:Step):Nat->Int->Option (Lo (Int) (Int))
 | 0,_=>none
 | n+1,z8=>(bif decide (z8 < (x5.Strokes.length:Int)) then (idx x5.Strokes z8).bind λx10=>(bif decide (x10.Actuator>=v.Actuators) then some (.ret 6) else Tx v x5 n (wr (z8 + 1))) else some (.brk z8))
def Tz (v:Ai):Nat->(QQ×Int)->Option (Lo (QQ×Int) (Int))
 | 0,_=>none
 | n+1,z3=>(bif decide (z3.2 < (v.Steps.length:Int)) then (idx v.Steps z3.2).bind λx5=>(Q4 f x5).bind λx7=>(bif x7 != 0 then some (.ret x7) else (Tx v x5 f 0).bind λo9=>match o9 with | .brk o9s=>(Q5 f x5 z3.1).bind λx11=>bif !x11 then some (.ret 14) else (Q6 f x5 z3.1).bind λx12=>Tz v n (x12,(wr (z3.2 + 1))) | .ret r=>some (.ret r)) else some (.brk (z3.1,z3.2)))
def mr (v:Ai):Option (Int):=(cy false v.Actuators).bind λx1=>(Tz f v f (x1,0)).bind λo4=>match o4 with | .brk o4s=>((Tw v o4s f 0).bind λo14=>match o14 with | .brk o14s=>some 0 | .ret r=>some r) | .ret r=>some r
theorem s51 (v:Ai) (r:Int) (c:mr f v=some r):Sp prog 51 [Va v] (Va r):=
 am func51 O I ntmps51 I I λM W a A H s=>Z 2 s λs=>B c λx1 hx1 c=>sr (P 2 s λs=>dY 300 s (dQ (t I) (t I) hx1.e) I I λc2 a w=>U 1 λs=>N (J (Z 1 s λs=>aw (α:=Bool) (k:=300) A s I λs=>by replace s:=tv (d:=3) s (ta (k:=300) (t I) I);exact lB c [0,1,2] s (λz3=>[(3,Va z3.1),(4,Va z3.2)]) s.fi (λ_=>I) (λo4 k1 n z3 a w c s=>J (Z 5 s λs=>ax s c (λhb c=>J (wB (sr (P 3 s λs=>iB s c λx5 c a w=>U 1 λs=>aR 301 s λb6 a w s=>sW s I λw s=>N (J (sr (P 1 s λs=>cB s c (pt f _) λx7 c a w=>U 1 λs=>N (Z 2 s λs=>aj s c (λhb c=>Z 2 s λs=>Y) λhb c=>J (Z 1 s λs=>lB c [0,1,2,3,4,5,6,301] s (λz8=>[(7,Va z8)]) s.fi (λ_=>I) (λo9 k2 n z8 a w c s=>J (Z 5 s λs=>ax s c (λhb c=>J (wB (B c λx10 hx10 c=>J (fW 9 s O I I λa w s=>N (aj s c (λhb c=>Z 1 s λs=>Y) λhb c=>Rj 3 s λs=>Y))))) λhb c=>wX Y)) λo9s c a w s=>J (sr (P 2 s λs=>cB s c (pq f _ _) λx11 c a w=>U 1 λs=>N (aj s c (λhb c=>Z 1 s λs=>Y) λhb c=>rg (P 2 s λs=>cB s c (pp f _ _) λx12 c a w=>U 1 λs=>N (Rj 3 s λs=>Y)))))))))))))) λhb c=>wX Y)) λo4s c a w s=>J (Z 1 s λs=>lB c [0,1,2,3,4] s (λz13=>[(8,Va z13)]) s.fi (λ_=>I) (λo14 k3 n z13 a w c s=>J (Z 4 s λs=>ax s c (λhb c=>J (wB (sr (P 2 s λs=>iB s c λx15 c a w=>U 1 λs=>N (aj s c (λhb c=>Z 1 s λs=>Y) λhb c=>Rj 3 s λs=>Y))))) λhb c=>wX Y)) λo14s c a w s=>Z 1 s λs=>Y))))
def Mv (v:Step) (b:Int):Nat->Int->Option (Lo (Int) (Int))
 | 0,_=>none
 | n+1,z1=>(bif decide (z1 < (v.Strokes.length:Int)) then (idx v.Strokes z1).bind λx3=>(bif x3.Actuator == b then (idx v.Strokes z1).bind λx4=>(bif x4.Out then some (.ret 1) else some (.ret (-1))) else Mv v b n (wr (z1 + 1))) else some (.brk z1))
def Q7 (v:Step) (b:Int):Option (Int):=((Mv v b f 0).bind λo2=>match o2 with | .brk o2s=>some 0 | .ret r=>some r)
theorem Q8 (v:Step) (b r:Int) (c:Q7 f v b=some r):Sp prog 126 [Va v,Va b] (Va r):=
 am func126 O I ntmps126 I I λM W a A H s=>Z 2 s λs=>J (Z 1 s λs=>lB c [0,1,2,4] s (λz1=>[(5,Va z1)]) s.fi (λ_=>I) (λo2 k1 n z1 a w c s=>J (Z 5 s λs=>ax s c (λhb c=>J (wB (sr (P 3 s λs=>iB s c λx3 c a w=>U 4 λs=>N (aj s c (λhb c=>J (sr (P 3 s λs=>iB s c λx4 c a w=>U 2 λs=>N (aj s c (λhb c=>Z 1 s λs=>Y) λhb c=>Z 1 s λs=>Y)))) λhb c=>Rj 3 s λs=>Y))))) λhb c=>wX Y)) λo2s c a w s=>Z 1 s λs=>Y)
instance {f:Nat} {v:Step} {b:Int}:Cn prog 126 (Q7 f v b) [Va v,Va b] (λr:Int=>(Va r)):=⟨Q8 f v b⟩
def Tv (v:Ai) (b:Int):Nat->Int->Option (Lo (Int) (Bool))
 | 0,_=>none
 | n+1,z1=>(bif decide (z1 < (v.Steps.length:Int)) then (idx v.Steps z1).bind λx3=>(Q7 f x3 b).bind λx4=>(bif x4 != 0 then some (.ret true) else Tv v b n (wr (z1 + 1))) else some (.brk z1))
def mq (v:Ai) (b:Int):Option (Bool):=((Tv f v b f 0).bind λo2=>match o2 with | .brk o2s=>some false | .ret r=>some r)
theorem s52 (v:Ai) (b:Int) (r:Bool) (c:mq f v b=some r):Sp prog 52 [Va v,Va b] (Va r):=
 am func52 O I ntmps52 I I λM W a A H s=>Z 2 s λs=>J (Z 1 s λs=>lB c [0,1,2,4] s (λz1=>[(5,Va z1)]) s.fi (λ_=>I) (λo2 k1 n z1 a w c s=>J (Z 5 s λs=>ax s c (λhb c=>J (wB (sr (P 3 s λs=>iB s c λx3 c a w=>U 2 λs=>cB s c (Q8 f _ _) λx4 c a w=>U 1 λs=>N (aj s c (λhb c=>Z 1 s λs=>Y) λhb c=>Rj 3 s λs=>Y))))) λhb c=>wX Y)) λo2s c a w s=>Z 1 s λs=>Y)
def Ue (v:Ai):Nat->Int->Option (Lo (Int) (Int))
 | 0,_=>none
 | n+1,z2=>(bif decide (z2 < v.Actuators) then (mq f v z2).bind λx4=>(bif !x4 then some (.ret 13) else Ue v n (wr (z2 + 1))) else some (.brk z2))
def ju (v:Ai):Option (Int):=(bif decide (v.Actuators < 1) || decide (v.Actuators > 6) then some 2 else bif (v.Steps.length:Int) == 0 then some 13 else bif decide ((v.Steps.length:Int) > 64) then some 5 else (mr f v).bind λx1=>bif x1 != 0 then some x1 else (Ue f v f 0).bind λo3=>match o3 with | .brk o3s=>some 0 | .ret r=>some r)
theorem qy (v:Ai) (r:Int) (c:ju f v=some r):Sp prog 10 [Va v] (Va r):=
 am func10 O I ntmps10 I I λM W a A H s=>Z 2 s λs=>J (Z 8 s λs=>aj s c (λhb c=>Z 1 s λs=>Y) λhb c=>J (Z 4 s λs=>aj s c (λhb c=>Z 1 s λs=>Y) λhb c=>J (Z 4 s λs=>aj s c (λhb c=>Z 1 s λs=>Y) λhb c=>J (sr (P 1 s λs=>cB s c (s51 f _) λx1 c a w=>U 1 λs=>N (Z 2 s λs=>aj s c (λhb c=>Z 2 s λs=>Y) λhb c=>J (Z 1 s λs=>lB c [0,1,2,3] s (λz2=>[(4,Va z2)]) s.fi (λ_=>I) (λo3 k1 n z2 a w c s=>J (Z 4 s λs=>ax s c (λhb c=>J (wB (sr (P 2 s λs=>cB s c (s52 f _ _) λx4 c a w=>U 1 λs=>N (aj s c (λhb c=>Z 1 s λs=>Y) λhb c=>Rj 3 s λs=>Y))))) λhb c=>wX Y)) λo3s c a w s=>Z 1 s λs=>Y)))))))
instance {f:Nat} {v:Ai}:Cn prog 10 (ju f v) [Va v] (λr:Int=>(Va r)):=⟨qy f v⟩
def m9 (v:Ai):Option (Bool):=(kU f v).bind λx1=>(bif x1 then (bif decide ((v.Steps.length:Int)<=10) && decide (v.Actuators<=4) then some true else (ju f v).bind λx2=>some (x2 != 0)).bind λr3=>some r3 else some false).bind λr4=>some r4
theorem s9 (v:Ai) (r:Bool) (c:m9 f v=some r):Sp prog 9 [Va v] (Va r):=
 am func9 O I ntmps9 I I λM W a A H s=>Z 2 s λs=>B c λx1 hx1 c=>aE c λr4 hr4 c=>by have gr4:=gT hr4;have er4:=gF hr4;obtain ⟨r3,hr3,gr4⟩:=gx gr4;have gr3:=mB hr3;have er3:=mA hr3;obtain ⟨x2,hx2,gr3⟩:=gk gr3;have:=bK gr4 er4;exact sr (P 14 s λs=>sn s I I (λhb hc=>(cc I (o (tg I (g2 hb hc)) on) (qy f _ _ (hx2.h (g2 hb hc))))) I λa w=>U 1 λs=>sg s I I (λhb=>(kH (tg I hb) I (λh=>g2 hb h) (λh=>i (gr3 (g2 hb h))) (λh=>(i (er3 hb h)).symm))) I λa w=>U 2 λs=>N Y)
instance {f:Nat} {v:Ai}:Cn prog 9 (m9 f v) [Va v] (λr:Bool=>(Va r)):=⟨s9 f v⟩
def BQ (v b:QP):Nat->Int->Option (Lo (Int) (Bool))
 | 0,_=>none
 | n+1,z1=>(bif decide (z1 < (v.length:Int)) then (idx v z1).bind λx3=>(idx b z1).bind λx4=>(bif x3 != x4 then some (.ret false) else BQ v b n (wr (z1 + 1))) else some (.brk z1))
def e9 (v b:QP):Option (Bool):=(bif (v.length:Int) != (b.length:Int) then some false else (BQ v b f 0).bind λo2=>match o2 with | .brk o2s=>some true | .ret r=>some r)
theorem s49 (v b:QP) (r:Bool) (c:e9 f v b=some r):Sp prog 49 [Va v,Va b] (Va r):=
 am func49 O I ntmps49 I I λM W a A H s=>Z 1 s λs=>J (Z 5 s λs=>aj s c (λhb c=>Z 1 s λs=>Y) λhb c=>J (Z 3 s λs=>lB c [0,1,4,12] s (λz1=>[(13,Va z1)]) s.fi (λ_=>I) (λo2 k1 n z1 a w c s=>Z 1 s λs=>J (ax s c (λhb c=>J (wB (Z 2 s λs=>B c λx3 hx3 c=>B c λx4 hx4 c=>J (fW 9 s O I I λa w s=>N (aj s c (λhb c=>Z 1 s λs=>Y) λhb c=>Rj 2 s λs=>Y))))) λhb c=>wX Y)) λo2s c a w s=>Z 1 s λs=>Y))
instance {f:Nat} {v b:QP}:Cn prog 49 (e9 f v b) [Va v,Va b] (λr:Bool=>(Va r)):=⟨s49 f v b⟩
def Q9 (f:Nat) (v:Aa):Option (Int):=some (wr ((wr (2 * v.Actuators)) + (v.Inputs.length:Int)))
theorem RA (v:Aa) (r:Int) (c:Q9 f v=some r):Sp prog 242 [Va v] (Va r):=
 am func242 O I ntmps242 I I λM W a A H s=>Z 2 s λs=>Z 8 s λs=>Y
instance {f:Nat} {v:Aa}:Cn prog 242 (Q9 f v) [Va v] (λr:Int=>(Va r)):=⟨RA f v⟩
def RD (f:Nat) (v:Expr):Option (Bool):=some (((v.Op == 0) && (v.Index == 0)) && ((v.Args.length:Int) == 0))
theorem RF (v:Expr) (r:Bool) (c:RD f v=some r):Sp prog 309 [Va v] (Va r):=
 am func309 O I ntmps309 I I λM W a A H s=>Z 2 s λs=>Z 15 s λs=>Y
def RG (f:Nat) (v:Expr):Option (Expr):=some v
theorem RH (v r:Expr) (c:RG f v=some r):Sp prog 325 [Va v] (Rz (λx:Value=>Qv (fv 346 [] [x])) (λx=>[At x (Pt r)])):=
 am func325 O I ntmps325 I I λM W a A H s=>Z 2 s λs=>sr (cv (d:=1) 300 s I I λc1=>C (bR I I qn (qc (t I) qn)) I<|U 1 λs=>N (by cases c;exact wT (zz c1 A H s)))
def Gi {σ:Type} (g347:Expr->Int->σ->Option (Bool×σ)) (v:Expr) (b:Int):Nat->(Int×σ)->Option (Lo (Int×σ) (Bool×σ))
 | 0,_=>none
 | n+1,z3=>(bif decide (z3.1 < (v.Args.length:Int)) then (idx v.Args z3.1).bind λx5=>bif decide (b<=16) then (g347 x5 (wr (b + 1)) z3.2).bind λx7=>(bif bif decide (b<=16) then !x7.1 else false then some (.ret (false,x7.2)) else Gi g347 v b n ((wr (z3.1 + 1)),x7.2)) else (bif false then some (.ret (false,z3.2)) else Gi g347 v b n ((wr (z3.1 + 1)),z3.2)) else some (.brk (z3.1,z3.2)))
def RJ {σ:Type} (gy:(Int×Expr)->σ->Option (Bool×σ)):Nat->Expr->Int->σ->Option (Bool×σ)
 | 0,_,_,_=>none
 | f+1,v,b,g=>(gy (b,v) g).bind λx1=>bif !x1.1 then some (false,x1.2) else (Gi (RJ gy f) v b f (0,x1.2)).bind λo4=>match o4 with | .brk o4s=>some (true,o4s.2) | .ret r=>some r
theorem nj {σ:Type} (E:σ->Ent) [hE:∀ s,Gh (E s)] (n2:Nat) (gy:(Int×Expr)->σ->Option (Bool×σ)) (ihy:∀ x s r,gy x s=some r->Cy prog n2 [Va x.1,Va x.2] [E s] (Rz (λ_:Unit=>Va r.1) λ_=>[E r.2])):∀ (f:Nat) (n0:Nat) (n1:Nat) (v:Expr) (b:Int) (g:σ) (r:Bool×σ),RJ gy f v b g=some r->Cg prog 347 [Va v,Va b,Qv (pb n0 0),Qv (pb n1 0)] [Mr n0 [(yv n2)],E g,Mr n1 [(fv 347 [] [(pb n0 0),(pb n1 0)])]] (Rz (λx:Unit=>Va r.1) (λx=>[Mr n0 [(yv n2)],E r.2,Mr n1 [(fv 347 [] [(pb n0 0),(pb n1 0)])]])):=by
 intro f
 induction f with
 | zero=>intro n0 n1 v b g r c;cases c
 | succ f ih=>
 intro n0 n1 v b g r c;unfold RJ at c;refine aX func347 O I ntmps347 I I λM W a A H s=>?_;refine Z 2 s λs=>?_;refine J ?_;obtain ⟨x1,hx1,c⟩:=bk c;refine sr (qj s (cY (K:=300) (t I) I I O) I<|U 2 λs=>kh [301] [301] A s (t I) I (o (t I) (o (t I) on)) (ihy _ _ _ hx1.e) p I (λ_=>I) I I I λy2 a w=>U 1 λs=>N ?_);refine aj s c (λhb c=>?_) λhb c=>?_
 ·refine Z 1 s λs=>?_;cases c;refine wT ?_;exact zz () A H s
 ·refine J (Z 4 s λs=>?_);refine lB c [0,1,2,3,4,6,15,16,300,302] s (λz3=>[(17,Va z3.1),(301,E z3.2)]) s.fi (λ_=>I) (λo4 k1 n z3 a w c s=>?_) λo4s c a w s=>?_
  ·unfold Gi at c;refine Z 1 s λs=>?_;refine J (ax s c (λhb c=>?_) λhb c=>?_)
   ·refine J (wB ?_);refine sr (iB s c λx5 c a w=>U 1 λs=>aR 303 s λb6 a w s=>sW s I λw s=>N ?_);rcases cT c with ⟨hb0,c⟩ | ⟨hb0,c⟩
    ·obtain ⟨x7,hx7,c⟩:=bk c;refine sr (P 3 s λs=>cj s I I hb0 <| qj s (cY (K:=302) (t I) I I O) I λs=>cj s I I hb0 <| qj s (lm (K:=303) (t I) I) I λs=>cj s I I hb0 <| qj s (mv (t I)) I λs=>cj s I I hb0 <| qj s (ad (t I) ci) I λs=>cj s I I hb0 <| aM [300,301,302] [300,301,302] A s (t I) I (o (t I) (o (t I) on)) vn (vq (vq vn)) (ih n0 n1 _ _ _ _ hx7.e) p I (λ_=>I) I I I λy8 a w s=>cj s I I hb0 <| qj s (nt (t I)) I<|C (pk (t I) (t I) cb) I λs=>N ?_);refine aj s c (λhb c=>?_) λhb c=>?_
     ·refine Z 1 s λs=>?_;cases c;replace c:=k1;dsimp only at c;cases c;refine wT ?_;exact zz () A H s
     ·refine Rj 2 s λs=>?_;exact Y
    ·refine sr (P 3 s λs=>Sh s I I hb0 I λa w s=>Sh s I I hb0 I λa w s=>Sh s I I hb0 I λa w s=>Sh s I I hb0 I λa w s=>Sh s I I hb0 I λa w s=>Sh s I I hb0 I λa w=>C (pF (t I) hb0 cb) I λs=>N ?_);refine aj s c (λhb c=>?_) λhb c=>?_
     ·refine Z 1 s λs=>?_;cases c;replace c:=k1;dsimp only at c;cases c;refine wT ?_;exact zz () A H s
     ·refine Rj 2 s λs=>?_;exact Y
   ·refine wX ?_;exact Y
  ·dsimp only at c;refine Z 1 s λs=>?_;cases c;refine wT ?_;exact zz () A H s
def RK {σ:Type} (gy:(Int×Expr)->σ->Option (Bool×σ)) (f:Nat) (v:Expr) (b:σ):Option (σ):=(RJ gy f v 1 b).bind λx3=>some x3.2
theorem RL {σ:Type} (E:σ->Ent) [hE:∀ s,Gh (E s)] (n0:Nat) (gy:(Int×Expr)->σ->Option (Bool×σ)) (ihy:∀ x s r,gy x s=some r->Cy prog n0 [Va x.1,Va x.2] [E s] (Rz (λ_:Unit=>Va r.1) λ_=>[E r.2])) (f:Nat) (v:Expr) (b r:σ) (c:RK gy f v b=some r):Cg prog 346 [Qv (yv n0),Pt v] [E b] (Rz (λx:Unit=>Dd) (λx=>[E r])):=
 aX func346 O I ntmps346 I I λM W a A H s=>sr (br 301 s (lz (t I) (bl I)) I I λb1 a w s=>N (sr (br 302 s (aT (cs:=[.nilFunc]) (z:=.nilFunc) O I I) I I λb2 a w s=>N (sr (qj s (bR I I qn (qc (t I) (qc (t I) qn))) I λs=>bU (K:=302) (cs':=[(fv 347 [] [(pb b1 0),(pb b2 0)])]) s (t I) I (t I) O (bl I) I I λw s=>N (B c λx3 hx3 c=>rg (qj s (cY (K:=302) (t I) I I O) I<|U 1 λs=>aM [301,300,302] [301,300,302] A s (t I) I (o (t I) (o ci on)) vn (vq (vq vn)) (nj E n0 gy ihy f b1 b2 _ _ _ _ hx3.e) p I (λ_=>I) I I I λy4 a w s=>N Y)))))))
def Eq :(Int×Expr)->(Int×Int)×Nat->Option (Bool×((Int×Int)×Nat)):=λu10 z8=>match z8 with
 | (z8,0)=>(bif decide ((wr (z8.1 + 1)) > 256) || decide (u10.1 > 16) then some (false,(((wr (z8.1 + 1)),(if u10.1 > z8.2 then u10.1 else z8.2)),1)) else some (true,(((wr (z8.1 + 1)),(if u10.1 > z8.2 then u10.1 else z8.2)),0)))
 | (_,_ + 1)=>none
def RM (v:Expr):Option (Int×Int×Bool):=(RG f v).bind λx6=>(RK Eq f x6 ((0,0),0)).bind λo11=>bif o11.2 == 0 then some (o11.1.1,o11.1.2,true) else bif o11.2 == 1 then some (0,0,false) else none
theorem nC (v:Expr) (r:Int×Int×Bool) (c:RM f v=some r):Sp prog 324 [Va v] (T3 (Va r.1) (Va r.2.1) (Va r.2.2)):=by
 unfold RM at c;refine am func324 O I ntmps324 I I λM W a A H s=>?_;refine sr (P 1 s λs=>bG 300 s (al (z:=(0:Int))) I I λb1 a w s=>bG 301 s (al (z:=(0:Int))) I I λb2 a w s=>bG 302 s (al (z:=false)) I I λb3 a w s=>N ?_);refine sr (bG 303 s (al (z:=(0:Int))) I I λb4 a w s=>bG 304 s (al (z:=(0:Int))) I I λb5 a w s=>sw (K:=303) s (t I) I ci I λw s=>sw (K:=304) s (t I) I ci I λw s=>N ?_);refine J ?_;obtain ⟨x6,hx6,c⟩:=bk c;refine sr (P 1 s λs=>bh [305] A s (cc I (o (t I) on) (RH f _ _ hx6.e)) (λ_=>I) I I λy7 a w s=>N ?_);refine wB ?_;obtain ⟨o11,ho11,k1⟩:=bs c;refine j2 (α:=Int×Expr) (X:=Unit) (σ:=Int×Int) (pe:=λx=>[Va x.1,Va x.2]) (gb:=(Eq)) (r:=o11) [(2,Qv (pb b1 0)),(3,Qv (pb b2 0)),(4,Qv (pb b3 0)),(5,Qv (pb b4 0)),(6,Qv (pb b5 0))] [.ret] (λz8 n9=>[Mg b1 ((0:Int)),Mg b2 ((0:Int)),Mg b3 false,Mg b4 z8.1,Mg b5 z8.2]) ((0:Int),(0:Int)) () 308 306 307 [300,301,302,303,304] A s (t I) vn (va (k:=305) I vn) p I (λ_ _=>I) (λ_ _ h=>Br (l:=[2,3,4,5,6]) h) (cZ (cZ (cZ (cZ (cZ jX))))) I I I (λE _ l ihy=>RL E l Eq ihy f _ _ _ ho11) (λl fn D tm htm u10 z8 r c=>?_) (λd12 a w n13 s=>?_)
 ·rcases z8 with ⟨z8,_ | j⟩
  ·unfold Eq at c;dsimp only at c;refine Cy.mk (KL:=306) (KT:=307) [300,301,302,303,304] [10,11] z8 htm I I I I I I (λ_=>I) λM W a n9 TB A H hTB s=>?_;refine Rj 1 s λs=>?_;refine kl (K:=306) s I I λRB w hRB s=>?_;refine wB (sr (P 2 s λs=>sw (K:=303) s (t I) I (t I) I λw s=>N ?_));refine sr (P 3 s λs=>sw (K:=304) s (t I) I (t I) I λw s=>N ?_);refine Z 6 s λs=>?_;refine aj s c (λhb c=>?_) λhb c=>?_
   ·refine sr (sw (K:=300) s (t I) I ci I λw s=>sw (K:=301) s (t I) I ci I λw s=>sw (K:=302) s (t I) I cb I λw s=>N ?_);cases c;refine wT ?_;exact ec (KL:=306) (KT:=307) [300,301,302,303,304] (some (.ret)) 1 false ((wr (z8.1 + 1)),(if u10.1 > z8.2 then u10.1 else z8.2)) () A s I I hRB hTB p I I I I
   ·cases c;exact ec (KL:=306) (KT:=307) [300,301,302,303,304] none 0 true ((wr (z8.1 + 1)),(if u10.1 > z8.2 then u10.1 else z8.2)) () A s I I hRB hTB p I I I I
  ·unfold Eq at c;cases c
 ·replace c:=k1;rcases cT c with ⟨hj,c⟩ | ⟨hj,c⟩
  ·refine af0 hj ?_;refine J (Bb [(6,Qv (pb b5 0)),(304,Mg b5 o11.1.2)] [0] [23] [] [] [24] [(2,[]),(3,[24]),(4,[])] s (.s (.s (.s (.l (.c .nil I I (lm (K:=303) (t I) I)) I I (lm (K:=304) (t I) I)) I) I) I) O O I I (aQ I (aQ I bi)) I (by decide) I I ?_);refine bb I λs=>sw (K:=300) s (t I) I (t I) I λw s=>N ?_;refine bM _ s ?_;refine bb I λs=>sw (K:=301) s (t I) I (t I) I λw s=>N ?_;refine bM _ s ?_;refine bb I λs=>sw (K:=302) s (t I) I cb I λw s=>N ?_;refine bM _ s ?_;refine bz λs=>?_;replace s:=s.pj [0,1,2,3,4,5,6,9,300,301,302,303,304,305,308];cases c;refine wT (fh (KD:=308) s I I I λa w ha s=>?_);rw [← ha];exact rn H s I (rv3 (rc (K:=300) I I) (rc (K:=301) I I) (rc (K:=302) I I))
  ·rcases cT c with ⟨hj,c⟩ | ⟨hj,c⟩
   ·refine af1 (k:=0) hj I ?_;cases c;refine wT (fh (KD:=308) s I I I λa w ha s=>?_);rw [← ha];exact rn H s I (rv3 (rc (K:=300) I I) (rc (K:=301) I I) (rc (K:=302) I I))
   ·cases c
def RN (f:Nat) (v:Bool):Option (Bool):=some v
theorem RO (v r:Bool) (c:RN f v=some r):Sp prog 348 [Va v] (Rz (λx:Value=>Qv (fv 360 [] [x])) (λx=>[At x (Pt r)])):=
 am func348 O I ntmps348 I I λM W a A H s=>Z 2 s λs=>sr (cv (d:=1) 300 s I I λc1=>C (bR I I qn (qc (t I) qn)) I<|U 1 λs=>N (by cases c;exact wT (zz c1 A H s)))
def RP:Option (Int×Int×Int×Int×Int×Int×Int×Int×Int×Int×Bool×Bool):=(RN f false).bind λx2=>(RN f true).bind λx4=>some (0,0,0,0,1,1,2,256,2,256,x2,x4)
theorem RQ (r:Int×Int×Int×Int×Int×Int×Int×Int×Int×Int×Bool×Bool) (c:RP f =some r):Sp prog 327 [] (Rz (λx:Value×Value=>Qa [(ic r.1),(ic r.2.1),.nilFunc,(ic r.2.2.1),(ic r.2.2.2.1),.nilFunc,(ic r.2.2.2.2.1),(ic r.2.2.2.2.2.1),(fv 360 [] [x.1]),(ic r.2.2.2.2.2.2.1),(ic r.2.2.2.2.2.2.2.1),(fv 360 [] [x.2]),(ic r.2.2.2.2.2.2.2.2.1),(ic r.2.2.2.2.2.2.2.2.2.1),(fv 349 [] [])]) (λx=>[At x.1 (Pt r.2.2.2.2.2.2.2.2.2.2.1),At x.2 (Pt r.2.2.2.2.2.2.2.2.2.2.2)])):=
 am func327 O I ntmps327 I I λM W a A H s=>sr (br 300 s (aT (cs:=[(ic 0),(ic 0),.nilFunc,(ic 0),(ic 0),.nilFunc,(ic 0),(ic 0),.nilFunc,(ic 0),(ic 0),.nilFunc,(ic 0),(ic 0),.nilFunc]) (z:=.agg #[(ic 0),(ic 0),.nilFunc,(ic 0),(ic 0),.nilFunc,(ic 0),(ic 0),.nilFunc,(ic 0),(ic 0),.nilFunc,(ic 0),(ic 0),.nilFunc]) O I I) I I λb1 a w s=>N (B c λx2 hx2 c=>B c λx4 hx4 c=>sr (qj s (bA (L:=[(0,1),(1,1),(2,1)]) (z:=[(ic 0),(ic 0),.nilFunc]) (res:=[(ic 0),(ic 0),.nilFunc]) I O O bt I I) I<|C (bA (L:=[(0,1),(1,1),(2,1)]) (z:=[(ic 0),(ic 0),.nilFunc]) (res:=[(ic 0),(ic 0),.nilFunc]) I O O bt I I) I λs=>bh [301] A s (cc I (o cb on) (RO f _ _ hx2.e)) (λ_=>I) I I λy3 a w=>C (bA (L:=[(0,1),(1,1),(2,1)]) (z:=[(ic 0),(ic 0),.nilFunc]) (res:=[(ic (1:Int)),(ic (1:Int)),(fv 360 [] [y3])]) I O O (aS (iq ci) (bl I) (aS (iq ci) (bl I) (aS (t I) (bl I) bt))) I I) I λs=>bh [302] A s (cc I (o cb on) (RO f _ _ hx4.e)) (λ_=>I) I I λy5 a w=>C (bA (L:=[(0,1),(1,1),(2,1)]) (z:=[(ic 0),(ic 0),.nilFunc]) (res:=[(ic (2:Int)),(ic (256:Int)),(fv 360 [] [y5])]) I O O (aS (iq ci) (bl I) (aS (iq ci) (bl I) (aS (t I) (bl I) bt))) I I) I λs=>qj s (bA (L:=[(0,1),(1,1),(2,1)]) (z:=[(ic 0),(ic 0),.nilFunc]) (res:=[(ic (2:Int)),(ic (256:Int)),(fv 349 [] [])]) I O O (aS (iq ci) (bl I) (aS (iq ci) (bl I) (aS qf (bl I) bt))) I I) I<|C (pX (e:=403) (len:=5) (sz:=3) (z:=[(ic 0),(ic 0),.nilFunc,(ic 0),(ic 0),.nilFunc,(ic 0),(ic 0),.nilFunc,(ic 0),(ic 0),.nilFunc,(ic 0),(ic 0),.nilFunc]) (css:=[[(ic 0),(ic 0),.nilFunc],[(ic 0),(ic 0),.nilFunc],[(ic (1:Int)),(ic (1:Int)),(fv 360 [] [y3])],[(ic (2:Int)),(ic (256:Int)),(fv 360 [] [y5])],[(ic (2:Int)),(ic (256:Int)),(fv 349 [] [])]]) (cs:=[(ic 0),(ic 0),.nilFunc,(ic 0),(ic 0),.nilFunc,(ic (1:Int)),(ic (1:Int)),(fv 360 [] [y3]),(ic (2:Int)),(ic (256:Int)),(fv 360 [] [y5]),(ic (2:Int)),(ic (256:Int)),(fv 349 [] [])]) I (ca1 (t I) (ca1 (t I) (ca1 (t I) (ca1 (t I) (ca1 (t I) ca0))))) O O O I I I) I λs=>aN (K:=300) (m:=[(ic 0),(ic 0),.nilFunc,(ic 0),(ic 0),.nilFunc,(ic (1:Int)),(ic (1:Int)),(fv 360 [] [y3]),(ic (2:Int)),(ic (256:Int)),(fv 360 [] [y5]),(ic (2:Int)),(ic (256:Int)),(fv 349 [] [])]) (cs':=[(ic 0),(ic 0),.nilFunc,(ic 0),(ic 0),.nilFunc,(ic (1:Int)),(ic (1:Int)),(fv 360 [] [y3]),(ic (2:Int)),(ic (256:Int)),(fv 360 [] [y5]),(ic (2:Int)),(ic (256:Int)),(fv 349 [] [])]) s (t I) I (t I) O I I I λw s=>N (by cases c;exact wT (zw (y3,y5) A H s I (rv1 (j3 (K:=300) I I O I O)))))))
def RR (v:Expr) (b:Int):Option (Int):=(bif decide (v.Op < 0) || decide (v.Op>=5) then some 1 else (RP f).bind λx1=>(idx (List.range 5) v.Op).bind λx4=>bif decide ((v.Args.length:Int) < (([x1.1,x1.2.2.1,x1.2.2.2.2.1,x1.2.2.2.2.2.2.1,x1.2.2.2.2.2.2.2.2.1]:QP).getD x4 0)) || decide ((v.Args.length:Int) > (([x1.2.1,x1.2.2.2.1,x1.2.2.2.2.2.1,x1.2.2.2.2.2.2.2.1,x1.2.2.2.2.2.2.2.2.2.1]:QP).getD x4 0)) then some 3 else (bif v.Op == 0 then some 1 else (bif v.Op == 1 then some (wr (b - 1)) else some 0).bind λz6=>some z6).bind λz5=>bif decide (v.Index < 0) || decide (v.Index > z5) then some 2 else some 0)
theorem nB (v:Expr) (b r:Int) (c:RR f v b=some r):Sp prog 326 [Va v,Va b] (Va r):=
 am func326 O I ntmps326 I I λM W a A H s=>Z 2 s λs=>J (Z 8 s λs=>aj s c (λhb c=>Z 1 s λs=>Y) λhb c=>B c λx1 hx1 c=>B c λx4 hx4 c=>J (Bb [] [0,1,2] [15,16,17] [] [] [5] [(3,[]),(5,[5])] s (.s (.l (.s (.c (.c (.c .nil I I (cc I on (RQ f _ hx1.e))) I I (fa (f:=Expr.Op) (t I))) I I (ld (t I))) I) I I (aT (cs:=[(ic 0),(ic 0),.nilFunc]) (z:=.agg #[(ic 0),(ic 0),.nilFunc]) O I I)) I) O O I I bi I (by decide) I I (bb I λs=>bL (d:=15) [302,303] s I (λ_=>I) I λy3=>C (gM (e:=403) (len:=5) (sz:=3) (cols:=[[(ic x1.1),(ic x1.2.2.1),(ic x1.2.2.2.2.1),(ic x1.2.2.2.2.2.2.1),(ic x1.2.2.2.2.2.2.2.2.1)],[(ic x1.2.1),(ic x1.2.2.2.1),(ic x1.2.2.2.2.2.1),(ic x1.2.2.2.2.2.2.2.1),(ic x1.2.2.2.2.2.2.2.2.2.1)],[.nilFunc,.nilFunc,(fv 360 [] [y3.1]),(fv 360 [] [y3.2]),(fv 349 [] [])]]) (t I) (t I) O O O I hx4.e) I λs=>nx s (bb I λs=>dk (d:=5) 304 s I I λb2 s=>aN (K:=304) (m:=[(Sy x4 [(ic x1.1),(ic x1.2.2.1),(ic x1.2.2.2.2.1),(ic x1.2.2.2.2.2.2.1),(ic x1.2.2.2.2.2.2.2.2.1)]),(Sy x4 [(ic x1.2.1),(ic x1.2.2.2.1),(ic x1.2.2.2.2.2.1),(ic x1.2.2.2.2.2.2.2.1),(ic x1.2.2.2.2.2.2.2.2.2.1)]),(Sy x4 [.nilFunc,.nilFunc,(fv 360 [] [y3.1]),(fv 360 [] [y3.2]),(fv 349 [] [])])]) (cs':=[(Sy x4 [(ic x1.1),(ic x1.2.2.1),(ic x1.2.2.2.2.1),(ic x1.2.2.2.2.2.2.1),(ic x1.2.2.2.2.2.2.2.2.1)]),(Sy x4 [(ic x1.2.1),(ic x1.2.2.2.1),(ic x1.2.2.2.2.2.1),(ic x1.2.2.2.2.2.2.2.1),(ic x1.2.2.2.2.2.2.2.2.2.1)]),(Sy x4 [.nilFunc,.nilFunc,(fv 360 [] [y3.1]),(fv 360 [] [y3.2]),(fv 349 [] [])])]) s (t I) I (t I) O I I I λw s=>nx s (bz λs=>by replace s:=s.pj [0,1,2,4,5,304,302,303];exact J (sr (P 5 s<|C (lt (t I) (qB (xs:=([x1.1,x1.2.2.1,x1.2.2.2.2.1,x1.2.2.2.2.2.2.1,x1.2.2.2.2.2.2.2.2.1]:QP)) (t I) I (dC hx4.e).1)) I<|U 6 λs=>sg s I I (λhb=>(gt (tg I hb) (qB (xs:=([x1.2.1,x1.2.2.2.1,x1.2.2.2.2.2.1,x1.2.2.2.2.2.2.2.1,x1.2.2.2.2.2.2.2.2.2.1]:QP)) (tg I hb) I (dC hx4.e).1))) I λa w=>U 1 λs=>N (aj s c (λhb c=>Z 1 s λs=>Y) λhb c=>Z 1 s λs=>J (Z 2 s λs=>wB (Z 2 s λs=>by obtain ⟨z5,hz5,hkz5⟩:=bs c;exact cP [0,1,2,4,5,34,304,302,303] s [(6,Va z5)] (cm s I hz5 (λhb c=>Rj 1 s λs=>Y) (λhb c=>Z 2 s λs=>by obtain ⟨z6,hz6,hkz6⟩:=bs c;exact cP [0,1,2,4,5,34,304,302,303] s [(6,Va z6)] (cm s I hz6 (λhb c=>Rj 3 s λs=>Y) (λhb c=>wK Y)) λa w s=>by replace c:=hkz6;cases c;exact s.fi)) λa w s=>by replace c:=hkz5;exact J (Z 9 s λs=>aj s c (λhb c=>Z 1 s λs=>Y) λhb c=>Z 1 s λs=>Y)))))))))))
def Er (b:Int):(Int×Expr)->(Int)×Nat->Option (Bool×((Int)×Nat)):=λu7 z5=>match z5 with
 | (z5,0)=>(RR f u7.2 b).bind λx9=>bif x9 != 0 then some (false,(x9,1)) else some (true,(z5,0))
 | (_,_ + 1)=>none
def RT (v:Expr) (b:Int):Option (Int):=(bif decide (b < 0) || decide (b > 256) then some 2 else (RM f v).bind λx2=>bif !x2.2.2 then some 5 else (RG f v).bind λx3=>(RK (Er f b) f x3 (0,0)).bind λo10=>bif o10.2 == 0 then some 0 else bif o10.2 == 1 then some o10.1 else none)
theorem RU (v:Expr) (b r:Int) (c:RT f v b=some r):Sp prog 292 [Va v,Va b] (Va r):=by
 unfold RT at c;refine am func292 O I ntmps292 I I λM W a A H s=>?_;refine sr (P 2 s λs=>bG 300 s (al (z:=(0:Int))) I I λb1 a w s=>N ?_);refine J (Z 6 s λs=>?_);refine aj s c (λhb c=>?_) λhb c=>?_
 ·refine sr (sw (K:=300) s (t I) I ci I λw s=>N ?_);cases c;exact rT H s I I
 ·refine J (sr (P 1 s λs=>cB s c (nC f _) λx2 c a w=>U 7 λs=>N ?_));refine Z 2 s λs=>?_;refine aj s c (λhb c=>?_) λhb c=>?_
  ·refine sr (sw (K:=300) s (t I) I ci I λw s=>N ?_);cases c;exact rT H s I I
  ·refine J ?_;obtain ⟨x3,hx3,c⟩:=bk c;refine sr (P 1 s λs=>bh [301] A s (cc I (o (t I) on) (RH f _ _ hx3.e)) (λ_=>I) I I λy4 a w s=>N ?_);refine wB ?_;obtain ⟨o10,ho10,k1⟩:=bs c;refine j2 (α:=Int×Expr) (X:=Unit) (σ:=Int) (pe:=λx=>[Va x.1,Va x.2]) (gb:=(Er f b)) (r:=o10) [(3,Pt b),(4,Qv (pb b1 0))] [.ret] (λz5 n6=>[Mg b1 z5]) (0:Int) () 304 302 303 [300] A s (t I) vn (va (k:=301) I vn) p I (λ_ _=>I) (λ_ _ h=>Br (l:=[3,4]) h) (cZ (cZ jX)) I I I (λE _ l ihy=>RL E l (Er f b) ihy f _ _ _ ho10) (λl fn D tm htm u7 z5 r c=>?_) (λd11 a w n12 s=>?_)
   ·rcases z5 with ⟨z5,_ | j⟩
    ·unfold Er at c;dsimp only at c;refine Cy.mk (KL:=302) (KT:=303) [300] [27,28] z5 htm I I I I I I (λ_=>I) λM W a n6 TB A H hTB s=>?_;refine rg (br 305 s (aT (cs:=[(ic 0),(ic 0),nz]) (z:=.agg #[(ic 0),(ic 0),nz]) O I I) I I λb8 a w s=>co (K:=305) s (t I) I (t I) I λw s=>N ?_);refine kl (K:=302) s I I λRB w hRB s=>?_;refine wB (sr (P 2 s λs=>cB s c (nB f _ _) λx9 c a w=>U 1 λs=>N ?_));refine Z 2 s λs=>?_;refine aj s c (λhb c=>?_) λhb c=>?_
     ·refine sr (P 1 s λs=>sw (K:=300) s (t I) I (t I) I λw s=>N ?_);cases c;refine wT ?_;exact ec (KL:=302) (KT:=303) [300] (some (.ret)) 1 false x9 () A s I I hRB hTB p I I I I
     ·cases c;exact ec (KL:=302) (KT:=303) [300] none 0 true z5 () A s I I hRB hTB p I I I I
    ·unfold Er at c;cases c
   ·replace c:=k1;rcases cT c with ⟨hj,c⟩ | ⟨hj,c⟩
    ·refine af0 hj ?_;refine sr (sw (K:=300) s (t I) I ci I λw s=>N ?_);cases c;refine wT (fh (KD:=304) s I I I λa w ha s=>?_);rw [← ha];exact rn H s I (rv1 (rc (K:=300) I I))
    ·rcases cT c with ⟨hj,c⟩ | ⟨hj,c⟩
     ·refine af1 (k:=0) hj I ?_;cases c;refine wT (fh (KD:=304) s I I I λa w ha s=>?_);rw [← ha];exact rn H s I (rv1 (rc (K:=300) I I))
     ·cases c
def RW (v:Aa):Option (Int):=(Q9 f v).bind λx1=>some (wr (x1 + (v.Signals.length:Int)))
theorem RX (v:Aa) (r:Int) (c:RW f v=some r):Sp prog 175 [Va v] (Va r):=
 am func175 O I ntmps175 I I λM W a A H s=>Z 2 s λs=>B c λx1 hx1 c=>J (fW 6 s O I I λa w=>U 1 λs=>N Y)
instance {f:Nat} {v:Aa}:Cn prog 175 (RW f v) [Va v] (λr:Int=>(Va r)):=⟨RX f v⟩
def RY (v:Aa) (b:Int):Option QT:=(Q9 f v).bind λx1=>(bif decide (b < (wr (2 * v.Actuators))) then (cz (El (Ik.toI (Ik.ofI (Ik.toI (wr (97 + (wr (b.tdiv 2))))):Kd .i32))) (El (Ik.toI (Ik.ofI (Ik.toI (wr (48 + (b.tmod 2)))):Kd .i32)))).bind λx2=>some x2 else bif decide (b < x1) then (idx v.Inputs (wr (b - (wr (2 * v.Actuators))))).bind λx3=>some x3 else (idx v.Signals (wr (b - x1))).bind λx4=>some x4.Name)
theorem nR (v:Aa) (b:Int) (r:QT) (c:RY f v b=some r):Sp prog 269 [Va v,Va b] (Va r):=
 am func269 O I ntmps269 I I λM W a A H s=>Z 2 s λs=>sr (P 1 s λs=>cB s c (RA f _) λx1 c a w=>U 1 λs=>N (wB (Z 6 s λs=>cM s c (λhb c=>B c λx2 hx2 c=>sr (P 1 s<|C (qu (t I) ci (by decide)) I λs=>P 1 s<|C (kg (t I) O O) I λs=>qj s (qI (t I) O O) I<|C (mv (t I)) I λs=>qj s (rm (t I) ci (by decide)) I<|C (ad ci (t I)) I λs=>qj s (kg (t I) O O) I<|C (qI (t I) O O) I λs=>qj s (ct (t I) (t I) hx2.e) I<|C (sa (t I)) I λs=>N Y)) λhb c=>Z 4 s λs=>cM s c (λhb c=>sr (P 7 s λs=>iB s c λx3 c a w=>U 2 λs=>N Y)) λhb c=>sr (P 5 s λs=>iB s c λx4 c a w=>U 3 λs=>N Y))))
def RZ (f:Nat) (v:UInt8):Option (Bool):=some ((((decide ((v.toNat:Int)>=(UInt8.ofNat 97).toNat) && decide ((v.toNat:Int)<=(UInt8.ofNat 122).toNat)) || (decide ((v.toNat:Int)>=(UInt8.ofNat 65).toNat) && decide ((v.toNat:Int)<=(UInt8.ofNat 90).toNat))) || (decide ((v.toNat:Int)>=(UInt8.ofNat 48).toNat) && decide ((v.toNat:Int)<=(UInt8.ofNat 57).toNat))) || ((v.toNat:Int) == (UInt8.ofNat 95).toNat))
theorem nD (v:UInt8) (r:Bool) (c:RZ f v=some r):Sp prog 312 [Va v] (Va r):=
 am func312 O I ntmps312 I I λM W a A H s=>Z 1 s λs=>sr (P 1 s<|C (ge8 (t I) (c8 (by decide))) I<|U 2 λs=>sg s I I (λhb=>(le8 (tg I hb) (c8 (by decide)))) I λa w=>U 3 λs=>sg s I I (λhb=>(ge8 (tg I hb) (c8 (by decide)))) I λa w=>U 2 λs=>sn s I I (λhb hc=>(le8 (tg I (g2 hb hc)) (c8 (by decide)))) I λa w=>U 4 λs=>sg s I I (λhb=>(ge8 (tg I hb) (c8 (by decide)))) I λa w=>U 2 λs=>sn s I I (λhb hc=>(le8 (tg I (g2 hb hc)) (c8 (by decide)))) I λa w=>U 4 λs=>sg s I I (λhb=>(eq8 (tg I hb) (c8 (by decide)))) I λa w=>U 2 λs=>N Y)
def R1 (v:Kd .i32):Option (Bool):=(bif decide (Ik.toI v > Ik.toI (⟨122⟩:Kd .i32)) then some true else (RZ f (Ik.ofI (Ik.toI v):UInt8)).bind λx1=>some (!x1)).bind λr2=>some r2
end
end Go.Pn

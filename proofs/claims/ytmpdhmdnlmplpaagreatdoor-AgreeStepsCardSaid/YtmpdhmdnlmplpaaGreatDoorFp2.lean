import Derived.Test.YtmpdhmdnlmplpaaGreatDoorFp1
set_option synthInstance.checkSynthOrder false
set_option synthInstance.maxSize 10000
set_option synthInstance.maxHeartbeats 400000
set_option maxRecDepth 100000
set_option maxHeartbeats 4000000
set_option linter.unusedVariables false
set_option linter.unusedSimpArgs false
set_option linter.defProp false
namespace Go.Pn
open Go Go.RowKit
def Cdl (Γ:Cx):List Operand->L9->Prop
 | [],[]=>True
 | x :: xs,c :: cs=>(Od Γ x (Qv c)/\Oc Γ c)/\Cdl Γ xs cs
 | _,_=>False
def Qo (j:Nat) (cs:L9):Value:=cs.getD j undef
section
variable {P:Program} {M0:Fm} {w0:World} {n:Nat} {Γ:Cx} {Q:Exit->Act->World->Prop} {a:Act} {w:World} {ty:TypeId}
theorem cd0:Cdl Γ [] []:=trivial
theorem cd1 {x:Operand} {c:Value} {xs:List Operand} {cs:L9} (h:Od Γ x (Qv c)) (h1:Oc Γ c) (r:Cdl Γ xs cs):Cdl Γ (x :: xs) (c :: cs):=⟨⟨h,h1⟩,r⟩
theorem Cdl.map {ρ:Operand->Value} {M:Nat->Prop} {w:World} (rd:Rd (Ak Γ) M w ρ):∀ {xs:List Operand} {cs:L9},Cdl Γ xs cs->xs.map ρ=cs/\(∀ c∈cs,c.oneCell'=true)/\xs.length=cs.length
 | [],[],_=>⟨rfl,λc hc=>by simp at hc,rfl⟩
 | _ :: _,_ :: _,⟨⟨h,h1⟩,r⟩=>by
  obtain ⟨_,_,hv⟩:=h ρ M w rd;obtain ⟨r1,r2,r3⟩:=r.map rd;refine ⟨by rw [GQ,hv,r1],λc hc=>?_,by simp [r3]⟩;rcases GK.1 hc with rfl | hc
  ·exact h1 ρ M w rd
  ·exact r2 c hc
theorem Tg:∀ {cs:L9},(∀ c∈cs,c.oneCell'=true)->LitC 1 cs (cs.map λc=>[c])
 | [],_=>trivial
 | c :: cs,h=>by
  have h1:=h c (GO ..);refine ⟨?_,rfl,Tg λd hd=>h d (GR _ hd)⟩;cases c <;> first | rfl | simp [Value.oneCell'] at h1
theorem bly {T e:Nat} {len:Nat} {parts:Array (Nat×Operand)} {xs:List Operand} {cs z:L9} (hp:parts.toList=prt 0 xs) (h:Cdl Γ xs cs) (hT:P.underlying T=some (.array len e)) (hz:(P.info? T).map (·.zero)=some (some (.agg z.toArray))) (he:(P.info? e).map (·.size)=some 1) (hl:z.length=cs.length) :
  OR P (.build T parts) ty Γ (Qa cs):=by
 refine OR.val λρ M w r=>?_;obtain ⟨h1,h2,h3⟩:=h.map r;refine ⟨.agg cs.toArray,λ_ _ _ _=>?_,rfl,rfl,h2⟩;cases hi:P.info? T with
 | none=>simp [hi] at hz
 | some i=>
  cases hie:P.info? e with
  | none=>simp [hie] at he
  | some ie=>
   simp only [hi,hie,GZ,Option.some.injEq] at hz he;have hpm:(parts.map λ(i,x)=>(i,ρ x)).toList=prt 0 cs:=by
    rw [JL,hp];have:∀ (l:List Operand) (k:Nat),List.map (λ(x:Nat×Operand)=>(x.1,ρ x.2)) (prt k l)=prt k (l.map ρ):=by
     intro l
     induction l with
     | nil=>intro k;rfl
     | cons x l ih=>intro k;simp [prt,ih]
    rw [← h1];exact this xs 0
   have hfl:=Js (sz:=1) (vs:=cs) (cs:=cs.map λc=>[c]) (z:=z) (k:=0) (Tg h2) om_;have hfl2:(cs.map λc=>[c]).flatten=cs:=by
    clear hfl hpm h h1 h2 h3 hl hz
    induction cs with
    | nil=>rfl
    | cons c cs ih=>simp [ih]
   rw [hfl2] at hfl;simp only [JA,HN,LJ,KP,JG] at hfl;rw [GT om_,HL] at hfl;simp only [execOp,Instr.build,zeroValue,typeInfo,F9,run_program,F7,hi,GB,hz,run_underlying hT,sizeOf,hie,he,Value.cells,hpm];simp only [HN];rw [hfl];rfl
theorem aix {T e len:Nat} {x i:Operand} {m y:Int} {xs:L6} {cs:L9} (h:Od Γ x (Qa cs)) (hi:Od Γ i (Va m)) (hT:P.underlying T=some (.array len e)) (he:(P.info? e).map (·.size)=some 1) (ha:(P.underlying e).map Cr=some false) (hl:xs.length=len) (hc:cs=xs.map λz=>.int .i64 z) (hy:idx xs m=some y):OR P (.index T x i) ty Γ (Va y):=by
 refine OR.val λρ M w r=>?_;obtain ⟨_,_,hv,_⟩:=h ρ M w r;obtain ⟨_,h2⟩:=hi ρ M w r;obtain ⟨h0,hlt,hg⟩:=Ay hy;refine ⟨.int .i64 y,λ_ _ _ _=>?_,Va.mkInt⟩;have hr:(sizeOf e).run P w=.ok 1 w:=by
  cases hie:P.info? e with
  | none=>simp [hie] at he
  | some i=>simp [hie] at he;simp [sizeOf,typeInfo,hie,he]
 have hp:=Br (P:=P) (T:=e) (xs:=cs.toArray) (o:=m.toNat) (v:=.int .i64 y) (w:=w) ha (by
  rw [hc];simp [hg])
 subst hl;simp only [execOp,hv,Va.int h2,Instr.index,F9,asIntOf,GB,F7,run_underlying hT];simp [h0,hlt,hr,hp]
theorem iax {T e len off:Nat} {x i:Operand} {b:Nat} {m:Int} {j:Nat} (h:Od Γ x (Qv (pb b off))) (hi:Od Γ i (Va m)) (hA:P.underlying T=some (.array len e)) (he:(P.info? e).map (·.size)=some 1) (hy:idx (List.range len) m=some j):OR P (.indexAddr T x i) ty Γ (Qv (pb b (off + j))):=by
 refine OR.val λρ M w r=>?_;obtain ⟨_,_,hv⟩:=h ρ M w r;obtain ⟨_,h2⟩:=hi ρ M w r;obtain ⟨h0,hlt,hg⟩:=Ay hy;simp only [K9] at hlt;have hj:m.toNat=j:=by
  rw [HR om_] at hg;exact Option.some.inj hg
 have hr:(sizeOf e).run P w=.ok 1 w:=by
  cases hie:P.info? e with
  | none=>simp [hie] at he
  | some i=>simp [hie] at he;simp [sizeOf,typeInfo,hie,he]
 refine ⟨pb b (off + j),λ_ _ _ _=>?_,rfl,rfl⟩;simp only [execOp,hv,Va.int h2,Instr.indexAt,F9,asIntOf,GB,F7,run_underlying hA];simp [h0,hlt,Instr.sureAddr,hr,hj,Bj]
theorem lsel {T K b off j len:Nat} {x:Operand} {cs ds:L9} (h:Od Γ x (Qv (pb b (off + j)))) (hk:Ak Γ K=some (Mr b cs)) (hd:(cs.drop off).take len=ds) (hj:j < len) (hl:off + len<=cs.length) (ha:(P.underlying T).map Cr=some false):OR P (.load T x) ty Γ (Qv (Qo j ds)):=by
 refine OR.val λρ M w r=>?_;obtain ⟨_,_,hv⟩:=h ρ M w r;obtain ⟨_,hh⟩:=r.tmp _ _ hk;have hc:cs[off + j]?=some (Qo j ds):=by
  subst hd;have h1:((cs.drop off).take len)[j]?=cs[off + j]?:=by rw [H7 hj,JV]
  have h2:off + j < cs.length:=by omega
  unfold Qo;rw [GU,h1,G9 h2];rfl
 refine ⟨Qo j ds,λ_ _ _ _=>?_,rfl,rfl⟩;have:=Mr.cell hh _ _ hc;simp only [execOp,hv,Instr.loadAt,Instr.sureAddr,F9,GB,F7,loadVar,Ty.run_agg ha];simp [this]
theorem idxr {len:Nat} {m:Int} {j:Nat} (h:idx (List.range len) m=some j):j < len/\0<=m/\m < len/\m.toNat=j:=by
 obtain ⟨h0,hlt,hg⟩:=Ay h;simp only [K9] at hlt;rw [HR om_] at hg;have:=Option.some.inj hg;exact ⟨by omega,h0,hlt,this⟩
theorem bifE {C:Prop} {ρ:Type} {b:Bool} {x y:Option ρ} {r:ρ} (h:(bif b then x else y)=some r) (ht:b=true->x=some r->C) (hf:b=false->y=some r->C):C:=by
 cases b
 ·exact hf rfl h
 ·exact ht rfl h
theorem bifN {C:Prop} {ρ:Type} {r:ρ} (h:(none:Option ρ)=some r):C:=by cases h
theorem qsel {x:Operand} {j k:Nat} {cs:L9} {c:Value} (hj:(j == k)=true) (h:Od Γ x (Qv (Qo j cs))) (hc:Qo k cs=c):Od Γ x (Qv c):=by
 have:j=k:=by simpa using hj
 subst this;rw [hc] at h;exact h
end
end Go.Pn
namespace Go.Pn
open Go Go.RowKit
structure Kd (k:IntKind) where
 v:Int
instance {k:IntKind}:Rep (Kd k) where
 sz:=1
 agg:=false
 rep _ _ cs x:=cs=[.int k x.v]
 len h:=by subst h;rfl
 ext h _:=h
 sub h _:=h
 one h:=by subst h;simp [Value.oneCell']
 flat _:=rfl
class Ik (k:outParam IntKind) (α:Type) [Rep α] where
 toI:α->Int
 ofI:Int->α
 rep:∀ {F M w v} {x:α},(Va x).p F M w v->v=.int k (toI x)
 mkv:∀ {M w} {x:α},(Va x).p [] M w (.int k (toI x))
 wrp:∀ n,toI (ofI n)=k.wrap n
instance {k:IntKind}:Ik k (Kd k) where
 toI x:=x.v
 ofI n:=⟨k.wrap n⟩
 rep h:=by
  obtain ⟨_,cs,rfl,hr⟩:=h;have:cs=_:=hr;subst this;rfl
 mkv:=⟨rfl,_,rfl,rfl⟩
 wrp _:=rfl
instance:Ik .i64 Int where
 toI x:=x
 ofI n:=wr n
 rep h:=Va.int h
 mkv:=Va.mkInt
 wrp _:=rfl
theorem wrap8 (n:Int):IntKind.u8.wrap n=((wr8 n).toNat:Int):=by
 have h1:0<=n % 256:=Int.emod_nonneg _ (by decide);have h2:n % 256 < 256:=Int.emod_lt_of_pos _ (by decide);have:(wr8 n).toNat=(n % 256).toNat:=by
  unfold wr8;rw [UInt8.toNat_ofNat'];omega
 rw [this];simp [IntKind.wrap,IntKind.bits,IntKind.signed];omega
instance:Ik .u8 UInt8 where
 toI x:=x.toNat
 ofI n:=wr8 n
 rep h:=Va.byte h
 mkv:=⟨rfl,_,rfl,rfl⟩
 wrp n:=(wrap8 n).symm
section
variable {P:Program} {Γ:Cx} {ty:TypeId} {k:IntKind} {α:Type} [Rep α] [ik:Ik k α]
theorem ckd {k:IntKind} {n:Int}:Od Γ (.const (.int k n)) (Va (⟨n⟩:Kd k)):=λρ _ _ r=>⟨[],rfl,[.int k n],by rw [r.con];rfl,rfl⟩
theorem bink {op:BinOp} {x y:Operand} {T T':TypeId} {m n:α} {e:Ent} (hx:Od Γ x (Va m)) (hy:Od Γ y (Va n))
  (h:∀ w,∃ v,(binOp op T (.int k (ik.toI m)) (.int k (ik.toI n))).run P w=.ok v w/\∀ M,e.p [] M w v):OR P (.binOp op T x y T') ty Γ e:=by
 refine OR.val λρ M w r=>?_;obtain ⟨_,h1⟩:=hx ρ M w r;obtain ⟨_,h2⟩:=hy ρ M w r;obtain ⟨v,hv,hp⟩:=h w;refine ⟨v,λ_ _ _ _=>?_,hp M⟩;simp only [execOp,ik.rep h1,ik.rep h2];have:∀ o,(eqGuard o T x y (.int k (ik.toI m)) (.int k (ik.toI n))).run P w=.ok () w:=by
  intro o; unfold eqGuard; cases o <;> rfl
 simp only [F9,this,F7,hv];rfl
theorem gtk {x y:Operand} {T T':TypeId} {m n:α} (hx:Od Γ x (Va m)) (hy:Od Γ y (Va n)):OR P (.binOp .gtr T x y T') ty Γ (Va (decide (ik.toI m > ik.toI n))):=bink hx hy λ_=>⟨_,by simp [binOp];rfl,λ_=>Va.mkBool⟩
theorem cvk {β:Type} [Rep β] {k':IntKind} [jk:Ik k' β] {S T:TypeId} {x:Operand} {m:α} (h:Od Γ x (Va m)) (hs:(P.underlying S).isSome=true) (hT:P.underlying T=some (.int k')):OR P (.convert S T x) ty Γ (Va (jk.ofI (ik.toI m))):=
 OR.val λρ M w r=>by
  obtain ⟨_,h1⟩:=h ρ M w r;have hk:P.intKind T=k':=by simp [Program.intKind,hT]
  have hr:=run_convert_int (P:=P) w S T k (ik.toI m) hs (by rw [hk];exact hT);rw [hk] at hr;exact ⟨.int k' (k'.wrap (ik.toI m)),λ_ _ _ _=>by simp only [execOp,ik.rep h1,F9,hr,F7,GB],by rw [← jk.wrp];exact jk.mkv⟩
def Dv (n:Int):MA:=Utf8.encode n
theorem cvs {S T:TypeId} {x:Operand} {m:α} (h:Od Γ x (Va m)) (hS:(P.underlying S).map (λd=>match d with | .int _=>true | _=>false)=some true) (hT:P.underlying T=some .string):OR P (.convert S T x) ty Γ (Va (Dv (ik.toI m))):=
 OR.val λρ M w r=>by
  obtain ⟨_,h1⟩:=h ρ M w r;refine ⟨.string (Dv (ik.toI m)),λ_ _ _ _=>?_,Va.mkStr⟩;have hr:(convert S T (.int k (ik.toI m))).run P w=.ok (.string (Dv (ik.toI m))) w:=by
   cases hu:P.underlying S with
   | none=>simp [hu] at hS
   | some d=>
    cases d <;> simp [hu] at hS
    simp only [convert,F9,run_underlying hu,run_underlying hT,F7];rfl
  simp only [execOp,ik.rep h1,F9,hr,F7,GB]
end
end Go.Pn
namespace Go.Pn
open Go Go.RowKit
variable {rr:Option Nat}
class FV (α:Type) [Rep α] where
 val:α->Value
 of:∀ {M w cs x},Rep.rep (α:=α) M w cs x->mk (Rep.agg α) cs=val x
 to:∀ (x:α),∃ cs,val x=mk (Rep.agg α) cs/\∀ M w,Rep.rep M w cs x
instance:FV Int where
 val x:=.int .i64 x
 of h:=by have h:_=_:=h;rw [h];rfl
 to x:=⟨[.int .i64 x],rfl,λ_ _=>rfl⟩
instance:FV Bool where
 val x:=.bool x
 of h:=by have h:_=_:=h;rw [h];rfl
 to x:=⟨[.bool x],rfl,λ_ _=>rfl⟩
instance:FV MA where
 val x:=.string x
 of h:=by have h:_=_:=h;rw [h];rfl
 to x:=⟨[.string x],rfl,λ_ _=>rfl⟩
theorem Va.fv {α:Type} [Rep α] [FV α] {F:L8} {M:Nat->Prop} {w:World} {v:Value} {x:α} (h:(Va x).p F M w v):v=FV.val x:=by
 obtain ⟨_,cs,hv,hr⟩:=h;rw [hv];exact FV.of hr
theorem FV.va {α:Type} [Rep α] [FV α] (x:α) (M:Nat->Prop) (w:World):(Va x).p [] M w (FV.val x):=by
 obtain ⟨cs,h1,h2⟩:=FV.to x;exact ⟨rfl,cs,h1,h2 M w⟩
def Bk {κ β:Type} (eqb:κ->κ->Bool) (k:κ):List (κ×β)->Nat->Option (Nat×β)
 | [],_=>none
 | (k',y) :: m,i=>if eqb k k' then some (i,y) else Bk eqb k m (i + 1)
class MK (P:Program) (K:TypeId) (κ:Type) [Rep κ] [FV κ] (eqb:outParam (κ->κ->Bool)):Prop where
 find:∀ (k:κ) (m:List (κ×Value)) (es:List MapEntry) (w:World),es.map (λe=>(e.key,e.val))=m.map (λp=>(FV.val p.1,p.2))->(Instr.findKey K (FV.val k) es).run P w=.ok (Bk eqb k m 0) w
 check:∀ (k:κ) (b:Bool) (w:World),(Instr.checkKey b 10000 K (FV.val k)).run P w=.ok () w
 stays:∀ (k k':κ),eqb k k'=true->k'=k
 same:∀ (k:κ),Instr.sameBits 10000 (FV.val k) (FV.val k)=true
theorem FV.of_agg {α:Type} [Rep α] [FV α] {P:Program} {T:Nat} {f:α->α->Bool} [he:Eqs P T f] (x:α):∃ cs,FV.val x=.agg cs.toArray/\∀ M w,Rep.rep M w cs x:=by
 obtain ⟨cs,h1,h2⟩:=FV.to x;exact ⟨cs,by rw [h1,he.agg];rfl,h2⟩
theorem MK.ofEqs {P:Program} {K:Nat} {κ:Type} [Rep κ] [FV κ] {f:κ->κ->Bool} [he:Eqs P K f] (hu:(P.underlying K).map (λd=>match d with | .struct _=>true | _=>false)=some true)
  (hc:∀ (k:κ) (b:Bool) (w:World),(Instr.checkKey b 10000 K (FV.val k)).run P w=.ok () w) (hs:∀ k k':κ,f k k'=true->k'=k) (hb:∀ k:κ,Instr.sameBits 10000 (FV.val k) (FV.val k)=true):MK P K κ f where
 check:=hc
 stays:=hs
 same:=hb
 find k m es w h:=by
  have hnow:(Instr.findKey K (FV.val k) es).run P w=(Instr.findAsking K (FV.val k) es).run P w:=by
   refine run_findKey_eq w ?_ _ _;cases hu':P.underlying K with
   | none=>simp [hu'] at hu
   | some d=>cases d <;> simp [hu'] at hu ⊢
  rw [hnow];have gen:∀ (m:List (κ×Value)) (es:List MapEntry) (i:Nat),es.map (λe=>(e.key,e.val))=m.map (λp=>(FV.val p.1,p.2))->(Instr.findAsking K (FV.val k) es i).run P w=.ok (Bk f k m i) w:=by
   intro m
   induction m with
   | nil=>intro es i h;cases es with
    | nil=>rfl
    | cons _ _=>cases h
   | cons p m ih=>
    intro es i h;cases es with
    | nil=>cases h
    | cons e es=>
     simp only [GQ,List.cons.injEq] at h;obtain ⟨h1,h2⟩:=h;have hk1:e.key=FV.val p.1:=congrArg Prod.fst h1;have hk2:e.val=p.2:=congrArg Prod.snd h1;obtain ⟨cs,c1,c2⟩:=FV.of_agg (P:=P) (T:=K) (f:=f) k;obtain ⟨ds,d1,d2⟩:=FV.of_agg (P:=P) (T:=K) (f:=f) p.1;have hr:(Op.equal K (FV.val k) e.key).run P w=.ok (f k p.1) w:=by
      rw [hk1,c1,d1];exact he.run (c2 (λ_=>False) w) (d2 (λ_=>False) w) w
     obtain ⟨pk,pv⟩:=p;simp only [Instr.findAsking,F9,hr,F7,Bk,hk2];cases f k pk
     ·simpa using ih es (i + 1) h2
     ·rfl
  exact gen m es 0 h
theorem MK.plain {P:Program} {K:Nat} {κ:Type} [Rep κ] [FV κ] {f:κ->κ->Bool} {d:TypeDesc} (hu:P.underlying K=some d) (hk:∀ k:κ,MapKept.IsKey d (FV.val k)) (hf:∀ k k':κ,Instr.sameNow d (FV.val k) (FV.val k')=some (f k k'))
  (hs:∀ k k':κ,f k k'=true->k'=k) (hb:∀ k:κ,Instr.sameBits 10000 (FV.val k) (FV.val k)=true):MK P K κ f where
 check k b w:=MapKept.run_checkKey hu (hk k) b 9999
 stays:=hs
 same:=hb
 find k m es w h:=by
  refine MapKept.run_findKey hu ?_;have gen:∀ (m:List (κ×Value)) (es:List MapEntry) (i:Nat),es.map (λe=>(e.key,e.val))=m.map (λp=>(FV.val p.1,p.2))->Instr.findNow d (FV.val k) es i=some (Bk f k m i):=by
   intro m
   induction m with
   | nil=>intro es i h;cases es with
    | nil=>rfl
    | cons _ _=>cases h
   | cons p m ih=>
    intro es i h;cases es with
    | nil=>cases h
    | cons e es=>
     simp only [GQ,List.cons.injEq] at h;obtain ⟨h1,h2⟩:=h;have hk1:e.key=FV.val p.1:=congrArg Prod.fst h1;have hk2:e.val=p.2:=congrArg Prod.snd h1;obtain ⟨pk,pv⟩:=p;simp only [Instr.findNow,hk1,hf,Bk,hk2];cases f k pk
     ·simpa using ih es (i + 1) h2
     ·rfl
  exact gen m es 0 h
def Dp (a b:Int):Bool:=a == b
def Tv (a b:MA):Bool:=a.data.toList == b.data.toList
theorem MK.int {P:Program} {K:Nat} (hu:P.underlying K=some (.int .i64)):MK P K Int (λa b=>a == b):=
 MK.plain hu (λ_=>rfl) (λ_ _=>rfl) (λk k' h=>(by simpa using h:k=k').symm) λk=>by simp [FV.val,Instr.sameBits]
theorem To {a b:MA}:(a.data.toList == b.data.toList)=(a == b):=by
 rw [HU];constructor
 ·intro h;have h:a.data.toList=b.data.toList:=by simpa using h
  have:a=b:=by
   cases a;cases b
   rw [ByteArray.mk.injEq];exact Array.ext' h
  rw [this];exact (MapKept.bytes_beq b b).2 rfl
 ·intro h;rw [(MapKept.bytes_beq a b).1 h];simp
theorem eqfs {P : Program} {d : Nat} {xs ys : Array Value} {f : Field} {fs : List Field} {w : World} {a b : MA} {r : Bool} (hn : (f.name == "_") = false) (hu : P.underlying f.type = some .string) (h1 : xs[f.offset]? = some (.string a)) (h2 : ys[f.offset]? = some (.string b))
  (h:(Op.eqFields (d + 1) xs ys fs).run P w=.ok r w):(Op.eqFields (d + 1) xs ys (f :: fs)).run P w=.ok ((a.data.toList == b.data.toList) && r) w:=by
 have hn' : f.name ≠ "_" := by intro h; rw [h] at hn; simp at hn
 have ha:(P.underlying f.type).map Cr=some false:=by rw [hu];rfl
 rw [To];simp only [Op.eqFields,if_pos hn',F9,Br ha h1,Br ha h2,F7,run_equalIn_string w d f.type a b hu,← beq_toListBytes];cases hab:(a == b) <;> simp [h]
theorem Ub {n:Nat} {k:IntKind} {a b:Int}:Instr.sameBits n (.int k a) (.int k b)=(a == b):=by simp [Instr.sameBits]
theorem Se {n:Nat} {a b:Bool}:Instr.sameBits n (.bool a) (.bool b)=(a == b):=by simp [Instr.sameBits]
theorem Ua {n:Nat} {a:MA}:Instr.sameBits n (.string a) (.string a)=true:=by simp only [Instr.sameBits];exact (MapKept.bytes_beq a a).2 rfl
theorem MK.str {P:Program} {K:Nat} (hu:P.underlying K=some .string):MK P K MA (λa b=>a.data.toList == b.data.toList):=
 MK.plain hu (λ_=>trivial) (λk k'=>by
  show some (k == k')=_;rw [To]) (λk k' h=>by
   rw [To] at h;exact ((MapKept.bytes_beq k k').1 h).symm) λk=>(MapKept.bytes_beq k k).2 rfl
theorem Gx {P:Program} {K n:Nat} {b:Bool} {fs:Array Field} {xs:Array Value} {w:World} (hu:P.underlying K=some (.struct fs)) (h:∀ f∈fs.toList,∃ v,(part f.type xs f.offset).run P w=.ok v w/\(Instr.checkKey b n f.type v).run P w=.ok () w):(Instr.checkKey b (n + 1) K (.agg xs)).run P w=.ok () w:=by
 simp only [Instr.checkKey,F9,run_underlying hu,F7];rw [← Array.forIn_toList];generalize fs.toList=l at h
 induction l with
 | nil=>simp
 | cons f l ih=>
  obtain ⟨v,h1,h2⟩:=h f smp_;simp only [List.forIn_cons,F9];split
  ·simp only [F9,h1,h2,F7,GB];exact ih λg hg=>h g (by simp [hg])
  ·simp only [GB,F7];exact ih λg hg=>h g (by simp [hg])
theorem ckf {P:Program} {f:Field} {n:Nat} {b:Bool} {xs:Array Value} {w:World} {d:TypeDesc} {v:Value} (hu:P.underlying f.type=some d) (hv:xs[f.offset]?=some v) (hk:MapKept.IsKey d v):∃ v,(part f.type xs f.offset).run P w=.ok v w/\(Instr.checkKey b (n + 1) f.type v).run P w=.ok () w:=by
 refine ⟨v,Br ?_ hv,MapKept.run_checkKey hu hk b n⟩;rw [hu]; cases d <;> first | rfl | (cases v <;> cases hk)
def Om {κ ν:Type} [Rep κ] [Rep ν] [FV κ] [FV ν] (r:Nat) (m:List (κ×ν)):Ent where
 p F M w _:=F=[r]/\∃ es clock,w.heap[r]?=some (.map es clock)/\es.toList.map (λe=>(e.key,e.val))=m.map (λp=>(FV.val p.1,FV.val p.2))
 st h e:=by
  obtain ⟨rfl,es,cl,hc,hm⟩:=h;exact ⟨rfl,es,cl,by rw [e.block r (GA.1 hc).1 smp_];exact hc,hm⟩
 sb h _:=h
instance {κ ν:Type} [Rep κ] [Rep ν] [FV κ] [FV ν] {r:Nat} {m:List (κ×ν)}:Gh (Om r m):=⟨λh _=>h⟩
def OM {κ ν:Type} [Rep κ] [Rep ν] [FV κ] [FV ν] (m:List (κ×ν)):Ent where
 p F M w v:=∃ r,v=.map (some r)/\(Om r m).p F M w v
 st h e:=let ⟨r,hv,h⟩:=h;⟨r,hv,(Om r m).st h e⟩
 sb h s:=let ⟨r,hv,h⟩:=h;⟨r,hv,(Om r m).sb h s⟩
def mat {κ ν:Type} (eqb:κ->κ->Bool) (m:List (κ×ν)) (k:κ):Option ν:=(Bk eqb k m 0).map (·.2)
def Ep {κ ν:Type} (eqb:κ->κ->Bool) (m:List (κ×ν)) (k:κ) (y:ν):List (κ×ν):=
 match Bk eqb k m 0 with
 | some (i,_)=>m.modify i λp=>(p.1,y)
 | none=>m ++ [(k,y)]
theorem Hz {κ β γ:Type} {eqb:κ->κ->Bool} {k:κ} (f:β->γ):∀ {m:List (κ×β)} {i:Nat},Bk eqb k (m.map λp=>(p.1,f p.2)) i=(Bk eqb k m i).map λq=>(q.1,f q.2)
 | [],_=>rfl
 | (k',y) :: m,i=>by
  simp only [GQ,Bk];split
  ·rfl
  ·exact Hz f
theorem Di {κ β:Type} {eqb:κ->κ->Bool} {k:κ}:∀ {m:List (κ×β)} {i j:Nat} {y:β},Bk eqb k m i=some (j,y)->∃ k',i<=j/\m[j - i]?=some (k',y)/\eqb k k'=true
 | [],_,_,_,h=>by cases h
 | (k',y') :: m,i,j,y,h=>by
  unfold Bk at h;split at h
  ·rename_i hb;cases h
   exact ⟨k',GS _,by simp,hb⟩
  ·obtain ⟨k2,h1,h2,h3⟩:=Di h;refine ⟨k2,by omega,?_,h3⟩;rw [show j - i=(j - (i + 1)) + 1 by omega];simpa using h2
section
variable {P:Program} {M0:Fm} {w0:World} {n:Nat} {Γ:Cx} {Q:Exit->Act->World->Prop} {a:Act} {w:World} {ty:TypeId}
theorem mkm {κ ν:Type} [Rep κ] [Rep ν] [FV κ] [FV ν] {T:TypeId}:OR P (.makeMap T none) ty Γ (OM ([]:List (κ×ν))):=by
 refine OR.run λρ M w r=>?_;refine ⟨.map (some w.heap.size),w.alloc (.map #[] 0),λ_ _ _ _=>?_,Ext.alloc _ _ _,[w.heap.size],by simp,λk hk=>?_,w.heap.size,rfl,rfl,#[],0,Bz _ _,rfl⟩
 ·simp only [execOp,H4,Instr.makeMap,F9,run_newObj,F7,GB];rfl
 ·simp at hk;subst hk;exact ⟨Nat.le_refl _,by simp⟩
theorem opm {κ ν:Type} [Rep κ] [Rep ν] [FV κ] [FV ν] {d:Nat} {m:List (κ×ν)} {R:Prop} (k:Nat) (h:St M0 w0 n Γ a w) (hd:Ak Γ d=some (OM m)) (hne:Nat.beq d k=false) (r:∀ b,St M0 w0 n ((d,Qv (.map (some b))) :: (k,Om b m) :: Γ) a w->R):R:=by
 obtain ⟨M,φ,h⟩:=h;obtain ⟨b,hv,hb⟩:=h.holds d _ hd;refine r b ?_;unfold St;rw [Ej];exact h.split (by rw [hd];rfl) (G6 hne) ⟨rfl,hv⟩ hb
theorem sqm {ops:Array Oper} {rest:List Oper} {d:Nat} {op:Op} {pos:String} {aft:Array Edge} {κ ν:Type} [Rep κ] [Rep ν] [FV κ] [FV ν] {m:List (κ×ν)} (K:Nat)
  (hs:St M0 w0 n Γ a w) (ho:OR P op ty Γ (OM m)) (hn:Nat.blt d n=true) (hdk:Nat.beq d K=false)
  (k:∀ b a' w',St M0 w0 n ((d,Qv (.map (some b))) :: (K,Om b m) :: (d,OM m) :: Γ) a' w'->wpListIn (Fr rr) 0 P ops Q rest a' w'):wpListIn (Fr rr) 0 P ops Q (⟨some d,op,ty,pos,aft,none⟩ :: rest) a w:=
 sq hs ho hn λa' w' s=>opm K s (by simp [Ak]) hdk λb s=>k b a' w' s
def Gz (P:Program) (T:Nat):Option (Nat×Nat):=match P.underlying T with | some (.map k e)=>some (k,e) | _=>none
theorem Ca {P:Program} {T k e:Nat} (h:Gz P T=some (k,e)):P.underlying T=some (.map k e):=by
 unfold Gz at h;split at h
 ·rename_i hu;rw [hu];simpa using h
 ·cases h
theorem Xt {κ ν:Type} [Rep κ] [Rep ν] [FV κ] [FV ν] {T K E:Nat} {eqb:κ->κ->Bool} [mk:MK P K κ eqb] {zv:Value} {r:Nat} {m:List (κ×ν)} {F:L8} {M:Nat->Prop} {w:World} {u:Value} (h:(Om r m).p F M w u) (hT:Gz P T=some (K,E)) (k:κ) (hz:(P.info? E).map (·.zero)=some (some zv)) (c:Bool) :
  (Instr.lookup T (.map (some r)) (FV.val k) c).run P w=.ok (let q:=match mat eqb m k with | some y=>(FV.val y,true) | none=>(zv,false);if c then .tuple #[q.1,.bool q.2] else q.1) w:=by
 obtain ⟨_,es,cl,hc,hm⟩:=h;have hf:=mk.find k (m.map λp=>(p.1,FV.val p.2)) es.toList w (by rw [hm];simp);rw [Hz] at hf;have hchk:=mk.check k es.isEmpty w;have hzr:(zeroValue E).run P w=.ok zv w:=by
  cases hi:P.info? E with
  | none=>simp [hi] at hz
  | some i=>
   simp only [hi,GZ,Option.some.injEq] at hz;simp only [zeroValue,typeInfo,F9,run_program,F7,hi,GB,hz]
 have hg:(getObj r).run P w=.ok (.map es cl) w:=MapKept.run_getObj_map hc;simp only [Instr.lookup,F9,run_underlying (Ca hT),F7,hg,GB,hchk,hf];unfold mat
 cases hq:Bk eqb k m 0 with
 | none=>simp only [H4,F9,hzr,F7,GB]
 | some q=>rfl
theorem lkm {κ ν:Type} [Rep κ] [Rep ν] [FV κ] [FV ν] {T K E KK:Nat} {eqb:κ->κ->Bool} [MK P K κ eqb] {z:ν} {x y:Operand} {r:Nat} {m:List (κ×ν)} {k:κ} (hx:Od Γ x (Qv (.map (some r)))) (hk:Ak Γ KK=some (Om r m)) (hy:Od Γ y (Va k)) (hT:Gz P T=some (K,E)) (hz:(P.info? E).map (·.zero)=some (some (FV.val z))) :
  OR P (.lookup T x y false) ty Γ (Va ((mat eqb m k).getD z)):=by
 refine OR.val λρ M w rd=>?_;obtain ⟨_,_,hv⟩:=hx ρ M w rd;obtain ⟨_,hb⟩:=hy ρ M w rd;obtain ⟨_,ho⟩:=rd.tmp _ _ hk;have hr:=Xt (P:=P) ho hT k hz false;refine ⟨FV.val ((mat eqb m k).getD z),λ_ _ _ _=>?_,FV.va _ _ _⟩;simp only [execOp,hv,Va.fv hb,F9,hr,F7,GB];cases mat eqb m k <;> rfl
theorem lko {κ ν:Type} [Rep κ] [Rep ν] [FV κ] [FV ν] {T K E KK:Nat} {eqb:κ->κ->Bool} [MK P K κ eqb] {z:ν} {x y:Operand} {r:Nat} {m:List (κ×ν)} {k:κ} (hx:Od Γ x (Qv (.map (some r)))) (hk:Ak Γ KK=some (Om r m)) (hy:Od Γ y (Va k)) (hT:Gz P T=some (K,E)) (hz:(P.info? E).map (·.zero)=some (some (FV.val z))) :
  OR P (.lookup T x y true) ty Γ (T2 (Va ((mat eqb m k).getD z)) (Va (mat eqb m k).isSome)):=by
 refine OR.val λρ M w rd=>?_;obtain ⟨_,_,hv⟩:=hx ρ M w rd;obtain ⟨_,hb⟩:=hy ρ M w rd;obtain ⟨_,ho⟩:=rd.tmp _ _ hk;have hr:=Xt (P:=P) ho hT k hz true;refine ⟨.tuple #[FV.val ((mat eqb m k).getD z),.bool (mat eqb m k).isSome],λ_ _ _ _=>?_,_,_,[],[],rfl,rfl,FV.va _ _ _,Va.mkBool⟩;simp only [execOp,hv,Va.fv hb,F9,hr,F7,GB];cases mat eqb m k <;> rfl
theorem stm {κ ν:Type} [Rep κ] [Rep ν] [FV κ] [FV ν] {ops:Array Oper} {rest:List Oper} {T K E KK:Nat} {eqb:κ->κ->Bool} [hmk:MK P K κ eqb] {x y u:Operand} {pos:String} {aft:Array Edge} {r:Nat} {m:List (κ×ν)} {k:κ} {v:ν}
  (hs:St M0 w0 n Γ a w) (hx:Od Γ x (Qv (.map (some r)))) (hk:Ak Γ KK=some (Om r m)) (hy:Od Γ y (Va k)) (hu:Od Γ u (Va v)) (hT:Gz P T=some (K,E))
  (cont:∀ w',St M0 w0 n ((KK,Om r (Ep eqb m k v)) :: Γ) a w'->wpListIn (Fr rr) 0 P ops Q rest a w'):wpListIn (Fr rr) 0 P ops Q (⟨none,.mapUpdate T x y u,ty,pos,aft,none⟩ :: rest) a w:=by
 refine wpListIn_plain rfl λKc hK=>?_;obtain ⟨M,φ,h⟩:=hs;obtain ⟨_,_,hv⟩:=hx _ _ _ h.rd;obtain ⟨_,hb⟩:=hy _ _ _ h.rd;obtain ⟨_,hd⟩:=hu _ _ _ h.rd;obtain ⟨hF,es,cl,hc,hm⟩:=h.holds KK _ hk;have hf:=hmk.find k (m.map λp=>(p.1,FV.val p.2)) es.toList w (by rw [hm];simp);rw [Hz] at hf;have hchk:=hmk.check k false w;have hg:(getObj r).run P w=.ok (.map es cl) w:=MapKept.run_getObj_map hc;have hlt:=(GA.1 hc).1;have hset:=λo=>MapKept.run_setObj_map (P:=P) (w:=w) o hc;have hput:∃ es' cl',(Instr.mapUpdate T (.map (some r)) (FV.val k) (FV.val v)).run P w=.ok () { w with heap:=w.heap.setIfInBounds r (.map es' cl') }/\es'.toList.map (λe=>(e.key,e.val))=(Ep eqb m k v).map (λp=>(FV.val p.1,FV.val p.2)):=by
  simp only [Instr.mapUpdate,F9,run_underlying (Ca hT),F7,hg,hchk,hf];unfold Ep;cases hq:Bk eqb k m 0 with
  | none=>
   refine ⟨es.push { key:=FV.val k,val:=FV.val v,born:=cl },cl + 1,?_,?_⟩
   ·simp only [H4];exact hset _
   ·simp [hm]
  | some q=>
   obtain ⟨i,y⟩:=q;obtain ⟨k',_,h2,h3⟩:=Di hq;have hkk:=hmk.stays k k' h3;subst hkk;rw [LK] at h2;have hi:(es.toList.map (λe=>(e.key,e.val)))[i]?=some (FV.val k',FV.val y):=by rw [hm,GW,h2];rfl
   rw [GW] at hi;obtain ⟨e,he,hee⟩:=J3.1 hi;have hek:e.key=FV.val k':=congrArg Prod.fst hee;have hei:es[i]?=some e:=by rw [← HW];exact he
   refine ⟨es.modify i λe=>{ e with key:=FV.val k',val:=FV.val v },cl,?_,?_⟩
   ·simp only [GZ,hei,KB,hek,Instr.keyThatStays,hmk.same,if_true,GB,F9,F7];exact hset _
   ·rw [K1];refine HV λq=>?_;have hmq:(es.toList[q]?).map (λe=>(e.key,e.val))=(m[q]?).map λp=>(FV.val p.1,FV.val p.2):=by rw [← GW,hm,GW]
    simp only [GW,KY];by_cases hiq:i=q
    ·subst hiq;rw [he,h2];simp
    ·simp only [hiq,if_false];rw [show (λa:MapEntry=>a) <$> es.toList[q]?=es.toList[q]? by simp,show (λa:κ×ν=>a) <$> m[q]?=m[q]? by simp];exact hmq
 obtain ⟨es',cl',hrun,hm'⟩:=hput;refine Bc.upon (Bc.skip (w':={ w with heap:=w.heap.setIfInBounds r (.map es' cl') }) ?_ ?_)
 ·simp only [execOp,hv,Va.fv hb,Va.fv hd,F9,hrun,F7,GB]
 ·refine hK _ _ (cont _ ?_);unfold St;rw [Ah];refine h.write (b:=r) (by rw [hk];rfl) (by rw [hF];simp) ⟨rfl,rfl,rfl,by simp,λq _ hq=>?_,GS _⟩ ⟨hF,es',cl',(?_:({ w with heap:=w.heap.setIfInBounds r (.map es' cl') }:World).heap[r]?=_),hm'⟩
  ·simp only [HC];rw [if_neg (λe=>hq e.symm)]
  ·simp only [HC,if_true];rw [if_pos hlt]
theorem stmi {κ ν:Type} [Rep κ] [Rep ν] [FV κ] [FV ν] {ops:Array Oper} {rest:List Oper} {T K E KK:Nat} {eqb:κ->κ->Bool} [hmk:MK P K κ eqb] {x y u:Operand} {pos:String} {aft:Array Edge} {r:Nat} {m:List (κ×ν)} {k:κ} {v:ν}
  (hs:St M0 w0 n Γ a w) (hx:Od Γ x (Qv (.map (some r)))) (hk:Ak Γ KK=some (Om r m)) (hy:Od Γ y (Va k)) (hu:Od Γ u (Va v)) (hT:Gz P T=some (K,E))
  (cont:∀ w',St M0 w0 n ((KK,Om r (Ep eqb m k v)) :: Γ) a w'->wpListIn (Fr rr) 0 P ops Q rest a w'):wpListIn (Fr rr) 0 P ops Q (⟨none,.insert T x y u,ty,pos,aft,none⟩ :: rest) a w:=by
 refine wpListIn_plain rfl λKc hK=>?_;obtain ⟨M,φ,h⟩:=hs;obtain ⟨_,_,hv⟩:=hx _ _ _ h.rd;obtain ⟨_,hb⟩:=hy _ _ _ h.rd;obtain ⟨_,hd⟩:=hu _ _ _ h.rd;obtain ⟨hF,es,cl,hc,hm⟩:=h.holds KK _ hk;have hf:=hmk.find k (m.map λp=>(p.1,FV.val p.2)) es.toList w (by rw [hm];simp);rw [Hz] at hf;have hchk:=hmk.check k false w;have hg:(getObj r).run P w=.ok (.map es cl) w:=MapKept.run_getObj_map hc;have hlt:=(GA.1 hc).1;have hset:=λo=>MapKept.run_setObj_map (P:=P) (w:=w) o hc;have hput:∃ es' cl',(Instr.mapUpdate T (.map (some r)) (FV.val k) (FV.val v)).run P w=.ok () { w with heap:=w.heap.setIfInBounds r (.map es' cl') }/\es'.toList.map (λe=>(e.key,e.val))=(Ep eqb m k v).map (λp=>(FV.val p.1,FV.val p.2)):=by
  simp only [Instr.mapUpdate,F9,run_underlying (Ca hT),F7,hg,hchk,hf];unfold Ep;cases hq:Bk eqb k m 0 with
  | none=>
   refine ⟨es.push { key:=FV.val k,val:=FV.val v,born:=cl },cl + 1,?_,?_⟩
   ·simp only [H4];exact hset _
   ·simp [hm]
  | some q=>
   obtain ⟨i,y⟩:=q;obtain ⟨k',_,h2,h3⟩:=Di hq;have hkk:=hmk.stays k k' h3;subst hkk;rw [LK] at h2;have hi:(es.toList.map (λe=>(e.key,e.val)))[i]?=some (FV.val k',FV.val y):=by rw [hm,GW,h2];rfl
   rw [GW] at hi;obtain ⟨e,he,hee⟩:=J3.1 hi;have hek:e.key=FV.val k':=congrArg Prod.fst hee;have hei:es[i]?=some e:=by rw [← HW];exact he
   refine ⟨es.modify i λe=>{ e with key:=FV.val k',val:=FV.val v },cl,?_,?_⟩
   ·simp only [GZ,hei,KB,hek,Instr.keyThatStays,hmk.same,if_true,GB,F9,F7];exact hset _
   ·rw [K1];refine HV λq=>?_;have hmq:(es.toList[q]?).map (λe=>(e.key,e.val))=(m[q]?).map λp=>(FV.val p.1,FV.val p.2):=by rw [← GW,hm,GW]
    simp only [GW,KY];by_cases hiq:i=q
    ·subst hiq;rw [he,h2];simp
    ·simp only [hiq,if_false];rw [show (λa:MapEntry=>a) <$> es.toList[q]?=es.toList[q]? by simp,show (λa:κ×ν=>a) <$> m[q]?=m[q]? by simp];exact hmq
 obtain ⟨es',cl',hrun,hm'⟩:=hput;refine Bc.upon (Bc.skip (w':={ w with heap:=w.heap.setIfInBounds r (.map es' cl') }) ?_ ?_)
 ·simp only [execOp,hv,Va.fv hb,Va.fv hd,F9,hrun,F7,GB]
 ·refine hK _ _ (cont _ ?_);unfold St;rw [Ah];refine h.write (b:=r) (by rw [hk];rfl) (by rw [hF];simp) ⟨rfl,rfl,rfl,by simp,λq _ hq=>?_,GS _⟩ ⟨hF,es',cl',(?_:({ w with heap:=w.heap.setIfInBounds r (.map es' cl') }:World).heap[r]?=_),hm'⟩
  ·simp only [HC];rw [if_neg (λe=>hq e.symm)]
  ·simp only [HC,if_true];rw [if_pos hlt]
end
end Go.Pn
namespace Go.Pn
open Go Go.RowKit
def AK:Value->Bool
 | .slice none _ _=>true
 | _=>false
section
variable {P:Program} {Γ:Cx} {ty:TypeId}
theorem sae {x:Operand} {e:Ent} [z:Zf e] (h:Od Γ x e):OR P (.assign x) ty Γ e:=
 OR.val λρ M w r=>let ⟨F,hF⟩:=h ρ M w r;⟨ρ x,λ_ _ _ _=>rfl,by have h1:=z.z hF;subst h1;exact hF⟩
instance {c:Value} {o:Nat}:Zf (Pe c o):=⟨λh=>h.1⟩
theorem nke {x:Operand} {c:Value} {o:Nat} (h:Od Γ x (Pe c o)):OR P (.nilCheck x) ty Γ (Pe c o):=
 OR.val λρ M w r=>by
  obtain ⟨_,_,g,hg,hv⟩:=h ρ M w r;exact ⟨ρ x,λ_ _ _ _=>by simp [execOp,hv,Sem.run,pure],rfl,g,hg,hv⟩
end
section
variable {P:Program} {M0:Fm} {w0:World} {n:Nat} {Γ:Cx} {a:Act} {w:World} {ty:TypeId}
theorem eqn {α:Type} [Rep α] {T e T':TypeId} {x y:Operand} {c:Value} {K:Nat} {xs:List α} (hx:Od Γ x (Qv c)) (hy:Od Γ y (Qv (.slice none 0 0))) (hk:Ak Γ K=some (At c (Va xs))) (hT:P.underlying T=some (.slice e)):OR P (.binOp .eql T x y T') ty Γ (Va (AK c)):=by
 refine OR.val λρ M w r=>?_;obtain ⟨_,_,h1⟩:=hx ρ M w r;obtain ⟨_,_,h2⟩:=hy ρ M w r;obtain ⟨F,h3⟩:=r.tmp _ _ hk;obtain ⟨_,cs,hc,v,rfl,p,cap,hv,_⟩:=h3;have hc:c=.slice p xs.length (cap + xs.length):=(show c=v from hc).trans hv;subst hc;refine ⟨.bool (AK (.slice p xs.length (cap + xs.length))),λ_ _ _ _=>?_,Va.mkBool⟩;have h3:(binOp .eql T (.slice p xs.length (cap + xs.length)) (.slice none 0 0)).run P w=.ok (.bool (AK (.slice p xs.length (cap + xs.length)))) w:=by
  show ((do pure (.bool (← Op.equal T (.slice p xs.length (cap + xs.length)) (.slice none 0 0))):Sem Value)).run P w=_;have:(Op.equal T (.slice p xs.length (cap + xs.length)) (.slice none 0 0)).run P w=.ok (AK (.slice p xs.length (cap + xs.length))) w:=by
   unfold Op.equal Op.maxDepth Op.equalIn;simp only [F9,run_underlying hT,F7];cases p <;> simp [AK]
  simp only [F9,this,F7,GB]
 have h4:(eqGuard .eql T x y (.slice p xs.length (cap + xs.length)) (.slice none 0 0)).run P w=.ok () w:=rfl;simp only [execOp,h1,h2,F9,h3,h4,F7,GB]
theorem nilv {α:Type} [Rep α] {c:Value} {K:Nat} {xs:List α} (hs:St M0 w0 n Γ a w) (hk:Ak Γ K=some (At c (Va xs))) (hb:AK c=true):xs=[]:=by
 obtain ⟨M,φ,h⟩:=hs;obtain ⟨F,h3⟩:=h.rd.tmp _ _ hk;obtain ⟨_,cs,hc,v,rfl,p,cap,hv,hr⟩:=h3;have hc:c=v:=hc;rcases hr with h | ⟨b,o,hp,_⟩
 ·exact h
 ·rw [hc,hv,hp] at hb;cases hb
end
end Go.Pn
namespace Go.Pn
open Go Go.RowKit
def sel3 (j a b c:Nat):Nat:=if j=0 then a else if j=1 then b else c
theorem selt {ρ:Type} {j:Nat} {x y z:Option ρ} {r:ρ} (h:(bif j == 0 then x else bif j == 1 then y else bif j == 2 then z else none)=some r):j < 3:=by
 match j,h with
 | 0,_=>omega
 | 1,_=>omega
 | 2,_=>omega
 | (n+3),h=>simp at h
theorem FX {ρ:Type} {j a b c:Nat} {x y z:Option ρ} {r:ρ} {Q:Nat->Prop} (h:(bif j == 0 then x else bif j == 1 then y else bif j == 2 then z else none)=some r) (h0:x=some r->Q a) (h1:y=some r->Q b) (h2:z=some r->Q c):Q (sel3 j a b c):=by
 match j,h with
 | 0,h=>exact h0 h
 | 1,h=>exact h1 h
 | 2,h=>exact h2 h
 | (n+3),h=>simp at h
theorem qsel3 {Γ:Cx} {x:Operand} {j a b c:Nat} {fs cs:L9} (hj:j < 3) (h:Od Γ x (Qv (Qo j [fv a fs cs,fv b fs cs,fv c fs cs]))):Od Γ x (Qv (fv (sel3 j a b c) fs cs)):=by
 match j,hj,h with
 | 0,_,h=>exact h
 | 1,_,h=>exact h
 | 2,_,h=>exact h
end Go.Pn
namespace Go.Pn
open Go Go.RowKit
def Fv1 {α:Type} [Rep α] (f:Nat) (y:α):Ent where
 p F M w v:=F=[]/\∃ c,v=fv f [] [c]/\(Pt y).p [] M w c
 st h e:=⟨h.1,let ⟨c,h1,h2⟩:=h.2;⟨c,h1,(Pt y).st h2 (e.mono λk _ hk=>by obtain ⟨h3,h4⟩:=hk;exact ⟨h3,by simp⟩)⟩⟩
 sb h s:=⟨h.1,let ⟨c,h1,h2⟩:=h.2;⟨c,h1,(Pt y).sb h2 s⟩⟩
instance {α:Type} [Rep α] {f:Nat} {y:α}:Zf (Fv1 f y):=⟨λh=>h.1⟩
section
variable {P:Program} {Γ:Cx} {ty:TypeId}
theorem fvi {α:Type} [Rep α] {x:Operand} {f k:Nat} {c:Value} {y:α} (h:Od Γ x (Qv (fv f [] [c]))) (hk:Ak Γ k=some (At c (Pt y))):Od Γ x (Fv1 f y):=λρ M w r=>by
 obtain ⟨_,_,hv⟩:=h ρ M w r;obtain ⟨F,hp⟩:=r.tmp _ _ hk;exact ⟨[],rfl,c,hv,hp.1 ▸ hp⟩
theorem ccf {α:Type} [Rep α] {y:α} {x:Operand} {f:FuncId} {A:Array TypeId} {args:Array Operand} {xs:List Operand} {ps:List Ent} {e:Ent} (hx:Od Γ x (Fv1 f y)) (ha:args.toList=xs) (h:Odl Γ xs ps)
  (c:Sp P f (ps ++ [Pt y]) e):OR P (.call { callee:=.value x,args:=args,argTypes:=A }) ty Γ e:=by
 intro d pos aft gd ρ M w rd;subst ha;obtain ⟨_,_,cc,hv,hp⟩:=hx ρ M w rd;have hc:=c _ M w rd.bd ((h.fits rd).app (show Rx M w [Pt y] [cc] from ⟨hp,trivial⟩));unfold Bc;rw [Qe hv hc.1];exact hc.2
end
end Go.Pn
namespace Go.Pn
open Go Go.RowKit
def T4 (e1 e2 e3 e4:Ent):Ent where
 p F M w v:=∃ v1 v2 v3 v4 F1 F2 F3 F4,v=.tuple #[v1,v2,v3,v4]/\F=F1 ++ (F2 ++ (F3 ++ F4))/\e1.p F1 M w v1/\e2.p F2 M w v2/\e3.p F3 M w v3/\e4.p F4 M w v4
 st h x:=by
  obtain ⟨v1,v2,v3,v4,F1,F2,F3,F4,hv,rfl,h1,h2,h3,h4⟩:=h;exact ⟨v1,v2,v3,v4,F1,F2,F3,F4,hv,rfl,e1.st h1 (x.mono λk _ hk=>⟨hk.1,λhm=>hk.2 (GY _ hm)⟩),
   e2.st h2 (x.mono λk _ hk=>⟨hk.1,λhm=>hk.2 (GV _ (GY _ hm))⟩),
   e3.st h3 (x.mono λk _ hk=>⟨hk.1,λhm=>hk.2 (GV _ (GV _ (GY _ hm)))⟩),
   e4.st h4 (x.mono λk _ hk=>⟨hk.1,λhm=>hk.2 (GV _ (GV _ (GV _ hm)))⟩)⟩
 sb h s:=let ⟨v1,v2,v3,v4,F1,F2,F3,F4,hv,hF,h1,h2,h3,h4⟩:=h;⟨v1,v2,v3,v4,F1,F2,F3,F4,hv,hF,e1.sb h1 s,e2.sb h2 s,e3.sb h3 s,e4.sb h4 s⟩
instance {e1 e2 e3 e4:Ent} [z1:Zf e1] [z2:Zf e2] [z3:Zf e3] [z4:Zf e4]:Zf (T4 e1 e2 e3 e4):=⟨λ⟨_,_,_,_,_,_,_,_,_,hF,h1,h2,h3,h4⟩=>by rw [hF,z1.z h1,z2.z h2,z3.z h3,z4.z h4];rfl⟩
section
variable {P:Program} {Γ:Cx} {ty:TypeId} {e1 e2 e3 e4:Ent} {x:Operand}
theorem x40 [z:Zf e1] (h:Od Γ x (T4 e1 e2 e3 e4)):OR P (.extract x 0) ty Γ e1:=
 OR.val λρ M w r=>by
  obtain ⟨_,v1,v2,v3,v4,F1,F2,F3,F4,hv,_,h1,h2,h3,h4⟩:=h ρ M w r;exact ⟨v1,λ_ _ _ _=>by simp only [execOp,hv];rfl,by have:=z.z h1;subst this;exact h1⟩
theorem x41 [z:Zf e2] (h:Od Γ x (T4 e1 e2 e3 e4)):OR P (.extract x 1) ty Γ e2:=
 OR.val λρ M w r=>by
  obtain ⟨_,v1,v2,v3,v4,F1,F2,F3,F4,hv,_,h1,h2,h3,h4⟩:=h ρ M w r;exact ⟨v2,λ_ _ _ _=>by simp only [execOp,hv];rfl,by have:=z.z h2;subst this;exact h2⟩
theorem x42 [z:Zf e3] (h:Od Γ x (T4 e1 e2 e3 e4)):OR P (.extract x 2) ty Γ e3:=
 OR.val λρ M w r=>by
  obtain ⟨_,v1,v2,v3,v4,F1,F2,F3,F4,hv,_,h1,h2,h3,h4⟩:=h ρ M w r;exact ⟨v3,λ_ _ _ _=>by simp only [execOp,hv];rfl,by have:=z.z h3;subst this;exact h3⟩
theorem x43 [z:Zf e4] (h:Od Γ x (T4 e1 e2 e3 e4)):OR P (.extract x 3) ty Γ e4:=
 OR.val λρ M w r=>by
  obtain ⟨_,v1,v2,v3,v4,F1,F2,F3,F4,hv,_,h1,h2,h3,h4⟩:=h ρ M w r;exact ⟨v4,λ_ _ _ _=>by simp only [execOp,hv];rfl,by have:=z.z h4;subst this;exact h4⟩
theorem rv4 {r1 r2 r3 r4:ResultVar} (h1:RS P Γ r1 e1) (h2:RS P Γ r2 e2) (h3:RS P Γ r3 e3) (h4:RS P Γ r4 e4):RV P Γ #[r1,r2,r3,r4] (T4 e1 e2 e3 e4):=λ_ _ _ a w M φ fn hr hs=>by
 obtain ⟨v1,hv1,hp1⟩:=h1 _ _ _ a w M φ hs;obtain ⟨v2,hv2,hp2⟩:=h2 _ _ _ a w M φ hs;obtain ⟨v3,hv3,hp3⟩:=h3 _ _ _ a w M φ hs;obtain ⟨v4,hv4,hp4⟩:=h4 _ _ _ a w M φ hs;exact ⟨.tuple #[v1,v2,v3,v4],by rw [Df,hr];simp [hv1,hv2,hv3,hv4],v1,v2,v3,v4,[],[],[],[],rfl,rfl,hp1,hp2,hp3,hp4⟩
end
end Go.Pn
namespace Go.Pn
open Go Go.RowKit Go.Proofs
instance:Ea Tryz.prog 22 9 MA:=⟨by kernel_rfl,by kernel_rfl,by kernel_rfl⟩
instance:Ea Tryz.prog 23 133 (Ad):=⟨by kernel_rfl,by kernel_rfl,by kernel_rfl⟩
instance:Ea Tryz.prog 24 3 (Int):=⟨by kernel_rfl,by kernel_rfl,by kernel_rfl⟩
instance:Ea Tryz.prog 27 4 (Bool):=⟨by kernel_rfl,by kernel_rfl,by kernel_rfl⟩
instance:Ea Tryz.prog 37 48 (List Ab):=⟨by kernel_rfl,by kernel_rfl,by kernel_rfl⟩
instance:Ea Tryz.prog 48 51 (Ab):=⟨by kernel_rfl,by kernel_rfl,by kernel_rfl⟩
instance:Ea Tryz.prog 67 105 (Ac):=⟨by kernel_rfl,by kernel_rfl,by kernel_rfl⟩
instance:Ea Tryz.prog 68 24 L6:=⟨by kernel_rfl,by kernel_rfl,by kernel_rfl⟩
instance:Ty Tryz.prog 95 (Int×Int×Int×Int):=⟨by kernel_rfl,by kernel_rfl⟩
instance:Ea Tryz.prog 120 125 (Ae):=⟨by kernel_rfl,by kernel_rfl,by kernel_rfl⟩
instance:Ea Tryz.prog 127 129 (Expr):=⟨by kernel_rfl,by kernel_rfl,by kernel_rfl⟩
instance:Ea Tryz.prog 134 37 (List (List Ab)):=⟨by kernel_rfl,by kernel_rfl,by kernel_rfl⟩
instance:Ea Tryz.prog 334 27 L7:=⟨by kernel_rfl,by kernel_rfl,by kernel_rfl⟩
def DC (x y:Ab):Bool:=(x.Actuator == y.Actuator) && ((x.Out == y.Out) && (true))
instance:Eqs Tryz.prog 51 DC:=⟨by
 rintro M M' w w' cs ds x y ⟨c0,d0,rfl,h0,h1⟩ ⟨p0,q0,rfl,g0,g1⟩ w1;have e0:c0=[.int .i64 x.Actuator]:=h0;have k0:p0=[.int .i64 y.Actuator]:=g0;have e1:d0=[.bool x.Out]:=h1;have k1:q0=[.bool y.Out]:=g1;subst e0 k0 e1 k1;rw [run_equalIn_agg w1 9999 51 _ _ kr_ kr_];have hf:(Tryz.prog.fieldsOf 51).toList.map Xf=[(false,3,0),(false,4,1)]:=by kernel_rfl
 obtain ⟨f0,l,hl,n0,t0,o0,hf⟩:=eqm hf;rw [hl];obtain ⟨f1,l,rfl,n1,t1,o1,hf⟩:=eqm hf;obtain rfl:=eqm0 hf;exact (eqfi n0 (by rw [t0];kernel_rfl) (by rw [o0];rfl) (by rw [o0];rfl) (eqfb n1 (by rw [t1];kernel_rfl) (by rw [o1];rfl) (by rw [o1];rfl) eqf0)),rfl,by kernel_rfl⟩
instance:FV Key where
 val x:=.agg #[.string x.ends,.string x.valves,.string x.inputs,.string x.values,.string x.timers]
 of {M w cs x} h:=by
  obtain ⟨c0,d0,rfl,h0,c1,d1,rfl,h1,c2,d2,rfl,h2,c3,d3,rfl,h3,h4⟩:=h;have e0:c0=[.string x.ends]:=h0;have e1:c1=[.string x.valves]:=h1;have e2:c2=[.string x.inputs]:=h2;have e3:c3=[.string x.values]:=h3;have e4:d3=[.string x.timers]:=h4;subst e0 e1 e2 e3 e4;rfl
 to x:=⟨[.string x.ends,.string x.valves,.string x.inputs,.string x.values,.string x.timers],rfl,λ_ _=>⟨[.string x.ends],_,rfl,rfl,[.string x.valves],_,rfl,rfl,[.string x.inputs],_,rfl,rfl,[.string x.values],_,rfl,rfl,rfl⟩⟩
def Bu (x y:Key):Bool:=(x.ends.data.toList == y.ends.data.toList) && ((x.valves.data.toList == y.valves.data.toList) && ((x.inputs.data.toList == y.inputs.data.toList) && ((x.values.data.toList == y.values.data.toList) && ((x.timers.data.toList == y.timers.data.toList) && (true)))))
instance:Eqs Tryz.prog 109 Bu:=⟨by
 rintro M M' w w' cs ds x y ⟨c0,d0,rfl,h0,c1,d1,rfl,h1,c2,d2,rfl,h2,c3,d3,rfl,h3,h4⟩ ⟨p0,q0,rfl,g0,p1,q1,rfl,g1,p2,q2,rfl,g2,p3,q3,rfl,g3,g4⟩ w1;have e0:c0=[.string x.ends]:=h0;have k0:p0=[.string y.ends]:=g0;have e1:c1=[.string x.valves]:=h1;have k1:p1=[.string y.valves]:=g1;have e2:c2=[.string x.inputs]:=h2;have k2:p2=[.string y.inputs]:=g2;have e3:c3=[.string x.values]:=h3;have k3:p3=[.string y.values]:=g3;have e4:d3=[.string x.timers]:=h4;have k4:q3=[.string y.timers]:=g4;subst e0 k0 e1 k1 e2 k2 e3 k3 e4 k4;rw [run_equalIn_agg w1 9999 109 _ _ kr_ kr_];have hf:(Tryz.prog.fieldsOf 109).toList.map Xf=[(false,9,0),(false,9,1),(false,9,2),(false,9,3),(false,9,4)]:=by kernel_rfl
 obtain ⟨f0,l,hl,n0,t0,o0,hf⟩:=eqm hf;rw [hl];obtain ⟨f1,l,rfl,n1,t1,o1,hf⟩:=eqm hf;obtain ⟨f2,l,rfl,n2,t2,o2,hf⟩:=eqm hf;obtain ⟨f3,l,rfl,n3,t3,o3,hf⟩:=eqm hf;obtain ⟨f4,l,rfl,n4,t4,o4,hf⟩:=eqm hf;obtain rfl:=eqm0 hf;exact (eqfs n0 (by rw [t0];kernel_rfl) (by rw [o0];rfl) (by rw [o0];rfl) (eqfs n1 (by rw [t1];kernel_rfl) (by rw [o1];rfl) (by rw [o1];rfl) (eqfs n2 (by rw [t2];kernel_rfl) (by rw [o2];rfl) (by rw [o2];rfl) (eqfs n3 (by rw [t3];kernel_rfl) (by rw [o3];rfl) (by rw [o3];rfl) (eqfs n4 (by rw [t4];kernel_rfl) (by rw [o4];rfl) (by rw [o4];rfl) eqf0))))),rfl,by kernel_rfl⟩
instance:MK Tryz.prog 109 Key Bu:=MK.ofEqs kr_ (λk b w=>by
 refine Gx (fs:=Tryz.prog.fieldsOf 109) (n:=9999) kr_ ?_;have hf:(Tryz.prog.fieldsOf 109).toList.map Xf=[(false,9,0),(false,9,1),(false,9,2),(false,9,3),(false,9,4)]:=by kernel_rfl
 obtain ⟨f0,l,hl,n0,t0,o0,hf⟩:=eqm hf;rw [hl];obtain ⟨f1,l,rfl,n1,t1,o1,hf⟩:=eqm hf;obtain ⟨f2,l,rfl,n2,t2,o2,hf⟩:=eqm hf;obtain ⟨f3,l,rfl,n3,t3,o3,hf⟩:=eqm hf;obtain ⟨f4,l,rfl,n4,t4,o4,hf⟩:=eqm hf;obtain rfl:=eqm0 hf;intro f hm;simp only [GK,List.not_mem_nil,or_false] at hm;rcases hm with rfl | rfl | rfl | rfl | rfl
 ·exact ckf (d:=.string) (v:=.string k.ends) (by rw [t0];kernel_rfl) (by rw [o0];rfl) True.intro
 ·exact ckf (d:=.string) (v:=.string k.valves) (by rw [t1];kernel_rfl) (by rw [o1];rfl) True.intro
 ·exact ckf (d:=.string) (v:=.string k.inputs) (by rw [t2];kernel_rfl) (by rw [o2];rfl) True.intro
 ·exact ckf (d:=.string) (v:=.string k.values) (by rw [t3];kernel_rfl) (by rw [o3];rfl) True.intro
 ·exact ckf (d:=.string) (v:=.string k.timers) (by rw [t4];kernel_rfl) (by rw [o4];rfl) True.intro
 ) (λk k' h=>by
 simp only [Bu,GH,beq_iff_eq,To,MapKept.bytes_beq,and_true] at h;obtain ⟨e0,e1,e2,e3,e4⟩:=h;cases k;cases k';simp_all) (λk=>by simp only [FV.val];unfold Instr.sameBits;simp [Ub,Se,Ua])
instance:MK Tryz.prog 3 Int Dp:=MK.int kr_
instance:MK Tryz.prog 9 MA Tv:=MK.str kr_
end Go.Pn
namespace Go.Pn
open Go Go.RowKit Go.Proofs
theorem rpS25 {Γ:Cx} {y0:Int} {y1:List MA} {y2:List Ad} {y3:L6} {y4:L6} (l:L9×L9×L9×L9×L9) (h0:Rp Γ (l.1) y0) (h1:Rp Γ (l.2.1) y1) (h2:Rp Γ (l.2.2.1) y2) (h3:Rp Γ (l.2.2.2.1) y3) (h4:Rp Γ (l.2.2.2.2) y4):Rp Γ (l.1 ++ (l.2.1 ++ (l.2.2.1 ++ (l.2.2.2.1 ++ l.2.2.2.2)))) (⟨y0,y1,y2,y3,y4⟩:Aa):=(rpp h0 (rpp h1 (rpp h2 (rpp h3 h4))))
theorem rpS69 {Γ:Cx} {y0:List Ac} {y1:List L6} (l:L9×L9) (h0:Rp Γ (l.1) y0) (h1:Rp Γ (l.2) y1):Rp Γ (l.1 ++ l.2) (⟨y0,y1⟩:Space):=(rpp h0 h1)
theorem Av {Γ:Cx} {y0:L6} {y1:L7} {y2:L7} {y3:L7} {y4:L6} (l:L9×L9×L9×L9×L9) (h0:Rp Γ (l.1) y0) (h1:Rp Γ (l.2.1) y1) (h2:Rp Γ (l.2.2.1) y2) (h3:Rp Γ (l.2.2.2.1) y3) (h4:Rp Γ (l.2.2.2.2) y4):Rp Γ (l.1 ++ (l.2.1 ++ (l.2.2.1 ++ (l.2.2.2.1 ++ l.2.2.2.2)))) (⟨y0,y1,y2,y3,y4⟩:Ac):=(rpp h0 (rpp h1 (rpp h2 (rpp h3 h4))))
theorem rpS135 {Γ:Cx} {y0:Space} {y1:List (List (List Ab))} (l:L9×L9) (h0:Rp Γ (l.1) y0) (h1:Rp Γ (l.2) y1):Rp Γ (l.1 ++ l.2) (⟨y0,y1⟩:Ag):=(rpp h0 h1)
theorem opv25 {M0:Fm} {w0:World} {n d:Nat} {Γ:Cx} {a:Act} {w:World} {x:Aa} {R:Prop} (k0 k1 k2 k3:Nat) (h:St M0 w0 n Γ a w) (hd:Ak Γ d=some (Va x)) (hdis:dis [d,k0,k1,k2,k3]=true) (r:∀ c0 c1 c2 c3,St M0 w0 n ((d,Qa [.int .i64 x.Actuators,c0,c1,c2,c3]) :: (k0,At c0 (Va (x.Inputs))) :: (k1,At c1 (Va (x.Signals))) :: (k2,At c2 (Va (x.Plus))) :: (k3,At c3 (Va (x.Minus))) :: Γ) a w->R):R:=by
 obtain ⟨M,φ,h⟩:=h;obtain ⟨hF,cs,hv,hr⟩:=h.holds d _ hd;have h1:=Rep.one hr;obtain ⟨_,_,rfl,rfl,⟨_,_,rfl,⟨c0,rfl,s0⟩,⟨_,_,rfl,⟨c1,rfl,s1⟩,⟨_,_,rfl,⟨c2,rfl,s2⟩,⟨c3,rfl,s3⟩⟩⟩⟩⟩:=hr;refine r c0 c1 c2 c3 ?_;have g3:=StM.more1 h k3 (e:=At c3 (Va (x.Minus))) (λ_=>Va.mkList s3);have g2:=StM.more1 g3 k2 (e:=At c2 (Va (x.Plus))) (λ_=>Va.mkList s2);have g1:=StM.more1 g2 k1 (e:=At c1 (Va (x.Signals))) (λ_=>Va.mkList s1);have g0:=StM.more1 g1 k0 (e:=At c0 (Va (x.Inputs))) (λ_=>Va.mkList s0);exact St.turnT g0 (by obtain ⟨e0,hdis⟩:=Dh hdis;obtain ⟨e1,hdis⟩:=Dh hdis;obtain ⟨e2,hdis⟩:=Dh hdis;obtain ⟨e3,hdis⟩:=Dh hdis;simp only [Ah,put];simp only [if_neg e0,if_neg e1,if_neg e2,if_neg e3,if_false];exact hd) ⟨rfl,hv,h1⟩
theorem opv69 {M0:Fm} {w0:World} {n d:Nat} {Γ:Cx} {a:Act} {w:World} {x:Space} {R:Prop} (k0 k1:Nat) (h:St M0 w0 n Γ a w) (hd:Ak Γ d=some (Va x)) (hdis:dis [d,k0,k1]=true) (r:∀ c0 c1,St M0 w0 n ((d,Qa [c0,c1]) :: (k0,At c0 (Va (x.States))) :: (k1,At c1 (Va (x.Moves))) :: Γ) a w->R):R:=by
 obtain ⟨M,φ,h⟩:=h;obtain ⟨hF,cs,hv,hr⟩:=h.holds d _ hd;have h1:=Rep.one hr;obtain ⟨_,_,rfl,⟨c0,rfl,s0⟩,⟨c1,rfl,s1⟩⟩:=hr;refine r c0 c1 ?_;have g1:=StM.more1 h k1 (e:=At c1 (Va (x.Moves))) (λ_=>Va.mkList s1);have g0:=StM.more1 g1 k0 (e:=At c0 (Va (x.States))) (λ_=>Va.mkList s0);exact St.turnT g0 (by obtain ⟨e0,hdis⟩:=Dh hdis;obtain ⟨e1,hdis⟩:=Dh hdis;simp only [Ah,put];simp only [if_neg e0,if_neg e1,if_false];exact hd) ⟨rfl,hv,h1⟩
theorem Gu {Γ:Cx} {ty:TypeId} {x0:Operand} {y0:Int} {x1:Operand} {y1:List MA} {x2:Operand} {y2:List Ad} {x3:Operand} {y3:L6} {x4:Operand} {y4:L6} (h0:Od Γ x0 (Va y0)) (h1:Od Γ x1 (Va y1)) (h2:Od Γ x2 (Va y2)) (h3:Od Γ x3 (Va y3)) (h4:Od Γ x4 (Va y4)):OR Tryz.prog (.build 26 #[(0,x0),(1,x1),(2,x2),(3,x3),(4,x4)]) ty Γ (Va (⟨y0,y1,y2,y3,y4⟩:Aa)):=by
 refine OR.val λρ M w r=>?_;obtain ⟨_,_,c0,e0,q0⟩:=h0 ρ M w r;obtain ⟨a0_0,rfl⟩:=Jo (Rep.len q0);obtain ⟨_,_,c1,e1,q1⟩:=h1 ρ M w r;obtain ⟨a1_0,rfl⟩:=Jo (Rep.len q1);obtain ⟨_,_,c2,e2,q2⟩:=h2 ρ M w r;obtain ⟨a2_0,rfl⟩:=Jo (Rep.len q2);obtain ⟨_,_,c3,e3,q3⟩:=h3 ρ M w r;obtain ⟨a3_0,rfl⟩:=Jo (Rep.len q3);obtain ⟨_,_,c4,e4,q4⟩:=h4 ρ M w r;obtain ⟨a4_0,rfl⟩:=Jo (Rep.len q4);have h:=Aq (P:=Tryz.prog) (T:=26) (w:=w) (L:=[(0,1),(1,1),(2,1),(3,1),(4,1)]) (z:=[.int .i64 0,.slice none 0 0,.slice none 0 0,.slice none 0 0,.slice none 0 0]) (res:=[a0_0,a1_0,a2_0,a3_0,a4_0]) (l:=[(0,ρ x0),(1,ρ x1),(2,ρ x2),(3,ρ x3),(4,ρ x4)]) (m:=[(0,[a0_0]),(1,[a1_0]),(2,[a2_0]),(3,[a3_0]),(4,[a4_0])]) kr_ kr_ ⟨rfl,An e0 q0,⟨rfl,An e1 q1,⟨rfl,An e2 q2,⟨rfl,An e3 q3,⟨rfl,An e4 q4,trivial⟩⟩⟩⟩⟩ rfl;refine ⟨.agg #[a0_0,a1_0,a2_0,a3_0,a4_0],λ_ _ _ _=>?_,rfl,[a0_0,a1_0,a2_0,a3_0,a4_0],rfl,⟨[a0_0],[a1_0,a2_0,a3_0,a4_0],rfl,q0,⟨[a1_0],[a2_0,a3_0,a4_0],rfl,q1,⟨[a2_0],[a3_0,a4_0],rfl,q2,⟨[a3_0],[a4_0],rfl,q3,q4⟩⟩⟩⟩⟩;simp only [execOp,HF,GQ,HO,F9,h,F7,GB]
theorem bl29_ {Γ:Cx} {ty:TypeId} :OR Tryz.prog (.build 29 #[]) ty Γ (Va (⟨([]:L6),([]:L6)⟩:Pair)):=by
 refine OR.val λρ M w r=>?_;have h:=Aq (P:=Tryz.prog) (T:=29) (w:=w) (L:=[(0,1),(1,1)]) (z:=[.slice none 0 0,.slice none 0 0]) (res:=[.slice none 0 0,.slice none 0 0]) (l:=[]) (m:=[]) kr_ kr_ trivial rfl;refine ⟨.agg #[.slice none 0 0,.slice none 0 0],λ_ _ _ _=>?_,rfl,[.slice none 0 0,.slice none 0 0],rfl,⟨[.slice none 0 0],[.slice none 0 0],rfl,⟨_,rfl,none,0,rfl,.inl rfl⟩,⟨_,rfl,none,0,rfl,.inl rfl⟩⟩⟩;simp only [execOp,HF,GQ,HO,F9,h,F7,GB]
theorem E9 {Γ:Cx} {ty:TypeId} {x0:Operand} {y0:L6} {x1:Operand} {y1:L6} (h0:Od Γ x0 (Va y0)) (h1:Od Γ x1 (Va y1)):OR Tryz.prog (.build 29 #[(0,x0),(1,x1)]) ty Γ (Va (⟨y0,y1⟩:Pair)):=by
 refine OR.val λρ M w r=>?_;obtain ⟨_,_,c0,e0,q0⟩:=h0 ρ M w r;obtain ⟨a0_0,rfl⟩:=Jo (Rep.len q0);obtain ⟨_,_,c1,e1,q1⟩:=h1 ρ M w r;obtain ⟨a1_0,rfl⟩:=Jo (Rep.len q1);have h:=Aq (P:=Tryz.prog) (T:=29) (w:=w) (L:=[(0,1),(1,1)]) (z:=[.slice none 0 0,.slice none 0 0]) (res:=[a0_0,a1_0]) (l:=[(0,ρ x0),(1,ρ x1)]) (m:=[(0,[a0_0]),(1,[a1_0])]) kr_ kr_ ⟨rfl,An e0 q0,⟨rfl,An e1 q1,trivial⟩⟩ rfl;refine ⟨.agg #[a0_0,a1_0],λ_ _ _ _=>?_,rfl,[a0_0,a1_0],rfl,⟨[a0_0],[a1_0],rfl,q0,q1⟩⟩;simp only [execOp,HF,GQ,HO,F9,h,F7,GB]
theorem Zp {Γ:Cx} {ty:TypeId} {x0:Operand} {y0:Int} {x1:Operand} {y1:Bool} (h0:Od Γ x0 (Va y0)) (h1:Od Γ x1 (Va y1)):OR Tryz.prog (.build 51 #[(0,x0),(1,x1)]) ty Γ (Va (⟨y0,y1⟩:Ab)):=by
 refine OR.val λρ M w r=>?_;obtain ⟨_,_,c0,e0,q0⟩:=h0 ρ M w r;obtain ⟨a0_0,rfl⟩:=Jo (Rep.len q0);obtain ⟨_,_,c1,e1,q1⟩:=h1 ρ M w r;obtain ⟨a1_0,rfl⟩:=Jo (Rep.len q1);have h:=Aq (P:=Tryz.prog) (T:=51) (w:=w) (L:=[(0,1),(1,1)]) (z:=[.int .i64 0,.bool false]) (res:=[a0_0,a1_0]) (l:=[(0,ρ x0),(1,ρ x1)]) (m:=[(0,[a0_0]),(1,[a1_0])]) kr_ kr_ ⟨rfl,An e0 q0,⟨rfl,An e1 q1,trivial⟩⟩ rfl;refine ⟨.agg #[a0_0,a1_0],λ_ _ _ _=>?_,rfl,[a0_0,a1_0],rfl,⟨[a0_0],[a1_0],rfl,q0,q1⟩⟩;simp only [execOp,HF,GQ,HO,F9,h,F7,GB]
theorem bl70_ {Γ:Cx} {ty:TypeId} :OR Tryz.prog (.build 70 #[]) ty Γ (Va (⟨([]:List Ac),([]:List L6)⟩:Space)):=by
 refine OR.val λρ M w r=>?_;have h:=Aq (P:=Tryz.prog) (T:=70) (w:=w) (L:=[(0,1),(1,1)]) (z:=[.slice none 0 0,.slice none 0 0]) (res:=[.slice none 0 0,.slice none 0 0]) (l:=[]) (m:=[]) kr_ kr_ trivial rfl;refine ⟨.agg #[.slice none 0 0,.slice none 0 0],λ_ _ _ _=>?_,rfl,[.slice none 0 0,.slice none 0 0],rfl,⟨[.slice none 0 0],[.slice none 0 0],rfl,⟨_,rfl,none,0,rfl,.inl rfl⟩,⟨_,rfl,none,0,rfl,.inl rfl⟩⟩⟩;simp only [execOp,HF,GQ,HO,F9,h,F7,GB]
theorem bl77_ {Γ:Cx} {ty:TypeId} :OR Tryz.prog (.build 77 #[]) ty Γ (Va (⟨([]:List Ac),([]:List L6)⟩:Space)):=by
 refine OR.val λρ M w r=>?_;have h:=Aq (P:=Tryz.prog) (T:=77) (w:=w) (L:=[(0,1),(1,1)]) (z:=[.slice none 0 0,.slice none 0 0]) (res:=[.slice none 0 0,.slice none 0 0]) (l:=[]) (m:=[]) kr_ kr_ trivial rfl;refine ⟨.agg #[.slice none 0 0,.slice none 0 0],λ_ _ _ _=>?_,rfl,[.slice none 0 0,.slice none 0 0],rfl,⟨[.slice none 0 0],[.slice none 0 0],rfl,⟨_,rfl,none,0,rfl,.inl rfl⟩,⟨_,rfl,none,0,rfl,.inl rfl⟩⟩⟩;simp only [execOp,HF,GQ,HO,F9,h,F7,GB]
theorem Cp {Γ:Cx} {ty:TypeId} :OR Tryz.prog (.build 105 #[]) ty Γ (Va (⟨([]:L6),([]:L7),([]:L7),([]:L7),([]:L6)⟩:Ac)):=by
 refine OR.val λρ M w r=>?_;have h:=Aq (P:=Tryz.prog) (T:=105) (w:=w) (L:=[(0,1),(1,1),(2,1),(3,1),(4,1)]) (z:=[.slice none 0 0,.slice none 0 0,.slice none 0 0,.slice none 0 0,.slice none 0 0]) (res:=[.slice none 0 0,.slice none 0 0,.slice none 0 0,.slice none 0 0,.slice none 0 0]) (l:=[]) (m:=[]) kr_ kr_ trivial rfl;refine ⟨.agg #[.slice none 0 0,.slice none 0 0,.slice none 0 0,.slice none 0 0,.slice none 0 0],λ_ _ _ _=>?_,rfl,[.slice none 0 0,.slice none 0 0,.slice none 0 0,.slice none 0 0,.slice none 0 0],rfl,⟨[.slice none 0 0],[.slice none 0 0,.slice none 0 0,.slice none 0 0,.slice none 0 0],rfl,⟨_,rfl,none,0,rfl,.inl rfl⟩,⟨[.slice none 0 0],[.slice none 0 0,.slice none 0 0,.slice none 0 0],rfl,⟨_,rfl,none,0,rfl,.inl rfl⟩,⟨[.slice none 0 0],[.slice none 0 0,.slice none 0 0],rfl,⟨_,rfl,none,0,rfl,.inl rfl⟩,⟨[.slice none 0 0],[.slice none 0 0],rfl,⟨_,rfl,none,0,rfl,.inl rfl⟩,⟨_,rfl,none,0,rfl,.inl rfl⟩⟩⟩⟩⟩⟩;simp only [execOp,HF,GQ,HO,F9,h,F7,GB]
theorem Qj {Γ:Cx} {ty:TypeId} {x0:Operand} {y0:MA} {x1:Operand} {y1:MA} {x2:Operand} {y2:MA} {x3:Operand} {y3:MA} {x4:Operand} {y4:MA} (h0:Od Γ x0 (Va y0)) (h1:Od Γ x1 (Va y1)) (h2:Od Γ x2 (Va y2)) (h3:Od Γ x3 (Va y3)) (h4:Od Γ x4 (Va y4)):OR Tryz.prog (.build 109 #[(0,x0),(1,x1),(2,x2),(3,x3),(4,x4)]) ty Γ (Va (⟨y0,y1,y2,y3,y4⟩:Key)):=by
 refine OR.val λρ M w r=>?_;obtain ⟨_,_,c0,e0,q0⟩:=h0 ρ M w r;obtain ⟨a0_0,rfl⟩:=Jo (Rep.len q0);obtain ⟨_,_,c1,e1,q1⟩:=h1 ρ M w r;obtain ⟨a1_0,rfl⟩:=Jo (Rep.len q1);obtain ⟨_,_,c2,e2,q2⟩:=h2 ρ M w r;obtain ⟨a2_0,rfl⟩:=Jo (Rep.len q2);obtain ⟨_,_,c3,e3,q3⟩:=h3 ρ M w r;obtain ⟨a3_0,rfl⟩:=Jo (Rep.len q3);obtain ⟨_,_,c4,e4,q4⟩:=h4 ρ M w r;obtain ⟨a4_0,rfl⟩:=Jo (Rep.len q4);have h:=Aq (P:=Tryz.prog) (T:=109) (w:=w) (L:=[(0,1),(1,1),(2,1),(3,1),(4,1)]) (z:=[.string ByteArray.empty,.string ByteArray.empty,.string ByteArray.empty,.string ByteArray.empty,.string ByteArray.empty]) (res:=[a0_0,a1_0,a2_0,a3_0,a4_0]) (l:=[(0,ρ x0),(1,ρ x1),(2,ρ x2),(3,ρ x3),(4,ρ x4)]) (m:=[(0,[a0_0]),(1,[a1_0]),(2,[a2_0]),(3,[a3_0]),(4,[a4_0])]) kr_ kr_ ⟨rfl,An e0 q0,⟨rfl,An e1 q1,⟨rfl,An e2 q2,⟨rfl,An e3 q3,⟨rfl,An e4 q4,trivial⟩⟩⟩⟩⟩ rfl;refine ⟨.agg #[a0_0,a1_0,a2_0,a3_0,a4_0],λ_ _ _ _=>?_,rfl,[a0_0,a1_0,a2_0,a3_0,a4_0],rfl,⟨[a0_0],[a1_0,a2_0,a3_0,a4_0],rfl,q0,⟨[a1_0],[a2_0,a3_0,a4_0],rfl,q1,⟨[a2_0],[a3_0,a4_0],rfl,q2,⟨[a3_0],[a4_0],rfl,q3,q4⟩⟩⟩⟩⟩;simp only [execOp,HF,GQ,HO,F9,h,F7,GB]
theorem Jt {Γ:Cx} {ty:TypeId} {x0:Operand} {y0:Int} {x1:Operand} {y1:Int} (h0:Od Γ x0 (Va y0)) (h1:Od Γ x1 (Va y1)):OR Tryz.prog (.build 125 #[(0,x0),(1,x1)]) ty Γ (Va (⟨y0,y1,false⟩:Ae)):=by
 refine OR.val λρ M w r=>?_;obtain ⟨_,_,c0,e0,q0⟩:=h0 ρ M w r;obtain ⟨a0_0,rfl⟩:=Jo (Rep.len q0);obtain ⟨_,_,c1,e1,q1⟩:=h1 ρ M w r;obtain ⟨a1_0,rfl⟩:=Jo (Rep.len q1);have h:=Aq (P:=Tryz.prog) (T:=125) (w:=w) (L:=[(0,1),(1,1),(2,1)]) (z:=[.int .i64 0,.int .i64 0,.bool false]) (res:=[a0_0,a1_0,.bool false]) (l:=[(0,ρ x0),(1,ρ x1)]) (m:=[(0,[a0_0]),(1,[a1_0])]) kr_ kr_ ⟨rfl,An e0 q0,⟨rfl,An e1 q1,trivial⟩⟩ rfl;refine ⟨.agg #[a0_0,a1_0,.bool false],λ_ _ _ _=>?_,rfl,[a0_0,a1_0,.bool false],rfl,⟨[a0_0],[a1_0,.bool false],rfl,q0,⟨[a1_0],[.bool false],rfl,q1,rfl⟩⟩⟩;simp only [execOp,HF,GQ,HO,F9,h,F7,GB]
theorem Qi {Γ:Cx} {ty:TypeId} {x0:Operand} {y0:Int} {x1:Operand} {y1:Int} {x2:Operand} {y2:Bool} (h0:Od Γ x0 (Va y0)) (h1:Od Γ x1 (Va y1)) (h2:Od Γ x2 (Va y2)):OR Tryz.prog (.build 125 #[(0,x0),(1,x1),(2,x2)]) ty Γ (Va (⟨y0,y1,y2⟩:Ae)):=by
 refine OR.val λρ M w r=>?_;obtain ⟨_,_,c0,e0,q0⟩:=h0 ρ M w r;obtain ⟨a0_0,rfl⟩:=Jo (Rep.len q0);obtain ⟨_,_,c1,e1,q1⟩:=h1 ρ M w r;obtain ⟨a1_0,rfl⟩:=Jo (Rep.len q1);obtain ⟨_,_,c2,e2,q2⟩:=h2 ρ M w r;obtain ⟨a2_0,rfl⟩:=Jo (Rep.len q2);have h:=Aq (P:=Tryz.prog) (T:=125) (w:=w) (L:=[(0,1),(1,1),(2,1)]) (z:=[.int .i64 0,.int .i64 0,.bool false]) (res:=[a0_0,a1_0,a2_0]) (l:=[(0,ρ x0),(1,ρ x1),(2,ρ x2)]) (m:=[(0,[a0_0]),(1,[a1_0]),(2,[a2_0])]) kr_ kr_ ⟨rfl,An e0 q0,⟨rfl,An e1 q1,⟨rfl,An e2 q2,trivial⟩⟩⟩ rfl;refine ⟨.agg #[a0_0,a1_0,a2_0],λ_ _ _ _=>?_,rfl,[a0_0,a1_0,a2_0],rfl,⟨[a0_0],[a1_0,a2_0],rfl,q0,⟨[a1_0],[a2_0],rfl,q1,q2⟩⟩⟩;simp only [execOp,HF,GQ,HO,F9,h,F7,GB]
theorem DM {Γ:Cx} {ty:TypeId} {x0:Operand} {y0:Int} {x1:Operand} {y1:Int} (h0:Od Γ x0 (Va y0)) (h1:Od Γ x1 (Va y1)):OR Tryz.prog (.build 129 #[(0,x0),(1,x1)]) ty Γ (Va (⟨y0,y1,([]:List Expr)⟩:Expr)):=by
 refine OR.val λρ M w r=>?_;obtain ⟨_,_,c0,e0,q0⟩:=h0 ρ M w r;obtain ⟨a0_0,rfl⟩:=Jo (Rep.len q0);obtain ⟨_,_,c1,e1,q1⟩:=h1 ρ M w r;obtain ⟨a1_0,rfl⟩:=Jo (Rep.len q1);have h:=Aq (P:=Tryz.prog) (T:=129) (w:=w) (L:=[(0,1),(1,1),(2,1)]) (z:=[.int .i64 0,.int .i64 0,.slice none 0 0]) (res:=[a0_0,a1_0,.slice none 0 0]) (l:=[(0,ρ x0),(1,ρ x1)]) (m:=[(0,[a0_0]),(1,[a1_0])]) kr_ kr_ ⟨rfl,An e0 q0,⟨rfl,An e1 q1,trivial⟩⟩ rfl;refine ⟨.agg #[a0_0,a1_0,.slice none 0 0],λ_ _ _ _=>?_,rfl,[a0_0,a1_0,.slice none 0 0],rfl,Ga.2 (show Rep.rep M w _ (y0,y1,([]:List Expr)) from ⟨[a0_0],[a1_0,.slice none 0 0],rfl,q0,⟨[a1_0],[.slice none 0 0],rfl,q1,⟨_,rfl,none,0,rfl,.inl rfl⟩⟩⟩)⟩;simp only [execOp,HF,GQ,HO,F9,h,F7,GB]
theorem Wo {Γ:Cx} {ty:TypeId} {x0:Operand} {y0:Int} {x2:Operand} {y2:List Expr} (h0:Od Γ x0 (Va y0)) (h2:Od Γ x2 (Va y2)):OR Tryz.prog (.build 129 #[(0,x0),(2,x2)]) ty Γ (Va (⟨y0,(0:Int),y2⟩:Expr)):=by
 refine OR.val λρ M w r=>?_;obtain ⟨_,_,c0,e0,q0⟩:=h0 ρ M w r;obtain ⟨a0_0,rfl⟩:=Jo (Rep.len q0);obtain ⟨_,_,c2,e2,q2⟩:=h2 ρ M w r;obtain ⟨a2_0,rfl⟩:=Jo (Rep.len q2);have h:=Aq (P:=Tryz.prog) (T:=129) (w:=w) (L:=[(0,1),(1,1),(2,1)]) (z:=[.int .i64 0,.int .i64 0,.slice none 0 0]) (res:=[a0_0,.int .i64 0,a2_0]) (l:=[(0,ρ x0),(2,ρ x2)]) (m:=[(0,[a0_0]),(2,[a2_0])]) kr_ kr_ ⟨rfl,An e0 q0,⟨rfl,An e2 q2,trivial⟩⟩ rfl;refine ⟨.agg #[a0_0,.int .i64 0,a2_0],λ_ _ _ _=>?_,rfl,[a0_0,.int .i64 0,a2_0],rfl,Ga.2 (show Rep.rep M w _ (y0,(0:Int),y2) from ⟨[a0_0],[.int .i64 0,a2_0],rfl,q0,⟨[.int .i64 0],[a2_0],rfl,rfl,q2⟩⟩)⟩;simp only [execOp,HF,GQ,HO,F9,h,F7,GB]
theorem En {Γ:Cx} {ty:TypeId} {x0:Operand} {y0:MA} {x1:Operand} {y1:Int} {x2:Operand} {y2:Expr} {x3:Operand} {y3:Expr} (h0:Od Γ x0 (Va y0)) (h1:Od Γ x1 (Va y1)) (h2:Od Γ x2 (Va y2)) (h3:Od Γ x3 (Va y3)):OR Tryz.prog (.build 133 #[(0,x0),(1,x1),(2,x2),(3,x3)]) ty Γ (Va (⟨y0,y1,y2,y3,(0:Int),false⟩:Ad)):=by
 refine OR.val λρ M w r=>?_;obtain ⟨_,_,c0,e0,q0⟩:=h0 ρ M w r;obtain ⟨a0_0,rfl⟩:=Jo (Rep.len q0);obtain ⟨_,_,c1,e1,q1⟩:=h1 ρ M w r;obtain ⟨a1_0,rfl⟩:=Jo (Rep.len q1);obtain ⟨_,_,c2,e2,q2⟩:=h2 ρ M w r;obtain ⟨a2_0,a2_1,a2_2,rfl⟩:=len3 (Rep.len q2);obtain ⟨_,_,c3,e3,q3⟩:=h3 ρ M w r;obtain ⟨a3_0,a3_1,a3_2,rfl⟩:=len3 (Rep.len q3);have h:=Aq (P:=Tryz.prog) (T:=133) (w:=w) (L:=[(0,1),(1,1),(2,3),(5,3),(8,1),(9,1)]) (z:=[.string ByteArray.empty,.int .i64 0,.int .i64 0,.int .i64 0,.slice none 0 0,.int .i64 0,.int .i64 0,.slice none 0 0,.int .i64 0,.bool false]) (res:=[a0_0,a1_0,a2_0,a2_1,a2_2,a3_0,a3_1,a3_2,.int .i64 0,.bool false]) (l:=[(0,ρ x0),(1,ρ x1),(2,ρ x2),(3,ρ x3)]) (m:=[(0,[a0_0]),(1,[a1_0]),(2,[a2_0,a2_1,a2_2]),(3,[a3_0,a3_1,a3_2])]) kr_ kr_ ⟨rfl,An e0 q0,⟨rfl,An e1 q1,⟨rfl,An e2 q2,⟨rfl,An e3 q3,trivial⟩⟩⟩⟩ rfl;refine ⟨.agg #[a0_0,a1_0,a2_0,a2_1,a2_2,a3_0,a3_1,a3_2,.int .i64 0,.bool false],λ_ _ _ _=>?_,rfl,[a0_0,a1_0,a2_0,a2_1,a2_2,a3_0,a3_1,a3_2,.int .i64 0,.bool false],rfl,⟨[a0_0],[a1_0,a2_0,a2_1,a2_2,a3_0,a3_1,a3_2,.int .i64 0,.bool false],rfl,q0,⟨[a1_0],[a2_0,a2_1,a2_2,a3_0,a3_1,a3_2,.int .i64 0,.bool false],rfl,q1,⟨[a2_0,a2_1,a2_2],[a3_0,a3_1,a3_2,.int .i64 0,.bool false],rfl,q2,⟨[a3_0,a3_1,a3_2],[.int .i64 0,.bool false],rfl,q3,⟨[.int .i64 0],[.bool false],rfl,rfl,rfl⟩⟩⟩⟩⟩⟩;simp only [execOp,HF,GQ,HO,F9,h,F7,GB]
theorem Qh {Γ:Cx} {ty:TypeId} {x0:Operand} {y0:MA} {x2:Operand} {y2:Expr} (h0:Od Γ x0 (Va y0)) (h2:Od Γ x2 (Va y2)):OR Tryz.prog (.build 133 #[(0,x0),(2,x2)]) ty Γ (Va (⟨y0,(0:Int),y2,(⟨(0:Int),(0:Int),([]:List Expr)⟩:Expr),(0:Int),false⟩:Ad)):=by
 refine OR.val λρ M w r=>?_;obtain ⟨_,_,c0,e0,q0⟩:=h0 ρ M w r;obtain ⟨a0_0,rfl⟩:=Jo (Rep.len q0);obtain ⟨_,_,c2,e2,q2⟩:=h2 ρ M w r;obtain ⟨a2_0,a2_1,a2_2,rfl⟩:=len3 (Rep.len q2);have h:=Aq (P:=Tryz.prog) (T:=133) (w:=w) (L:=[(0,1),(1,1),(2,3),(5,3),(8,1),(9,1)]) (z:=[.string ByteArray.empty,.int .i64 0,.int .i64 0,.int .i64 0,.slice none 0 0,.int .i64 0,.int .i64 0,.slice none 0 0,.int .i64 0,.bool false]) (res:=[a0_0,.int .i64 0,a2_0,a2_1,a2_2,.int .i64 0,.int .i64 0,.slice none 0 0,.int .i64 0,.bool false]) (l:=[(0,ρ x0),(2,ρ x2)]) (m:=[(0,[a0_0]),(2,[a2_0,a2_1,a2_2])]) kr_ kr_ ⟨rfl,An e0 q0,⟨rfl,An e2 q2,trivial⟩⟩ rfl;refine ⟨.agg #[a0_0,.int .i64 0,a2_0,a2_1,a2_2,.int .i64 0,.int .i64 0,.slice none 0 0,.int .i64 0,.bool false],λ_ _ _ _=>?_,rfl,[a0_0,.int .i64 0,a2_0,a2_1,a2_2,.int .i64 0,.int .i64 0,.slice none 0 0,.int .i64 0,.bool false],rfl,⟨[a0_0],[.int .i64 0,a2_0,a2_1,a2_2,.int .i64 0,.int .i64 0,.slice none 0 0,.int .i64 0,.bool false],rfl,q0,⟨[.int .i64 0],[a2_0,a2_1,a2_2,.int .i64 0,.int .i64 0,.slice none 0 0,.int .i64 0,.bool false],rfl,rfl,⟨[a2_0,a2_1,a2_2],[.int .i64 0,.int .i64 0,.slice none 0 0,.int .i64 0,.bool false],rfl,q2,⟨[.int .i64 0,.int .i64 0,.slice none 0 0],[.int .i64 0,.bool false],rfl,(by show Xz _ _ _ _;unfold Xz;exact ⟨none,0,rfl,.inl rfl⟩),⟨[.int .i64 0],[.bool false],rfl,rfl,rfl⟩⟩⟩⟩⟩⟩;simp only [execOp,HF,GQ,HO,F9,h,F7,GB]
theorem bl326_ {Γ:Cx} {ty:TypeId} :OR Tryz.prog (.build 326 #[]) ty Γ (Va (⟨false,(0:Int),false⟩:Af)):=by
 refine OR.val λρ M w r=>?_;have h:=Aq (P:=Tryz.prog) (T:=326) (w:=w) (L:=[(0,1),(1,1),(2,1)]) (z:=[.bool false,.int .i64 0,.bool false]) (res:=[.bool false,.int .i64 0,.bool false]) (l:=[]) (m:=[]) kr_ kr_ trivial rfl;refine ⟨.agg #[.bool false,.int .i64 0,.bool false],λ_ _ _ _=>?_,rfl,[.bool false,.int .i64 0,.bool false],rfl,⟨[.bool false],[.int .i64 0,.bool false],rfl,rfl,⟨[.int .i64 0],[.bool false],rfl,rfl,rfl⟩⟩⟩;simp only [execOp,HF,GQ,HO,F9,h,F7,GB]
theorem Xh {Γ:Cx} {ty:TypeId} {x0:Operand} {y0:Bool} {x1:Operand} {y1:Int} {x2:Operand} {y2:Bool} (h0:Od Γ x0 (Va y0)) (h1:Od Γ x1 (Va y1)) (h2:Od Γ x2 (Va y2)):OR Tryz.prog (.build 326 #[(0,x0),(1,x1),(2,x2)]) ty Γ (Va (⟨y0,y1,y2⟩:Af)):=by
 refine OR.val λρ M w r=>?_;obtain ⟨_,_,c0,e0,q0⟩:=h0 ρ M w r;obtain ⟨a0_0,rfl⟩:=Jo (Rep.len q0);obtain ⟨_,_,c1,e1,q1⟩:=h1 ρ M w r;obtain ⟨a1_0,rfl⟩:=Jo (Rep.len q1);obtain ⟨_,_,c2,e2,q2⟩:=h2 ρ M w r;obtain ⟨a2_0,rfl⟩:=Jo (Rep.len q2);have h:=Aq (P:=Tryz.prog) (T:=326) (w:=w) (L:=[(0,1),(1,1),(2,1)]) (z:=[.bool false,.int .i64 0,.bool false]) (res:=[a0_0,a1_0,a2_0]) (l:=[(0,ρ x0),(1,ρ x1),(2,ρ x2)]) (m:=[(0,[a0_0]),(1,[a1_0]),(2,[a2_0])]) kr_ kr_ ⟨rfl,An e0 q0,⟨rfl,An e1 q1,⟨rfl,An e2 q2,trivial⟩⟩⟩ rfl;refine ⟨.agg #[a0_0,a1_0,a2_0],λ_ _ _ _=>?_,rfl,[a0_0,a1_0,a2_0],rfl,⟨[a0_0],[a1_0,a2_0],rfl,q0,⟨[a1_0],[a2_0],rfl,q1,q2⟩⟩⟩;simp only [execOp,HF,GQ,HO,F9,h,F7,GB]
end Go.Pn
namespace Go.Pn
open Go Go.RowKit
theorem zc_size {z:Array Value} {n:Nat}:(Builtin.zeroCells z n).size=n * z.size:=by
 simp [Builtin.zeroCells]
theorem growS {P:Program} {N e:Nat} {α:Type} [Rep α] (hc:cal P N=true) (h0:∀ w:World,Calls P N #[.slice none 0 0,.int .i64 0] w λe w'=>e=.returned (.slice none 0 0)/\w'=w)
  (h1:∀ (n:Nat),0 < n->n<=1000000000->∀ w:World,Calls P N #[.slice none 0 0,.int .i64 n] w λen w'=>∃ k q cs,en=.returned (.slice (some ⟨w.heap.size,0,none⟩) 0 k)/\w'=(w.alloc (.cells cs e)).drewN q/\k<=maxLen/\cs.size=k * Rep.sz α) {v0:Int} (hv:0<=v0) (hv2:v0<=1000000000) :
  Sp P N [Qv (.slice none 0 0),Va v0] (Rz (λx:Value=>Qv x) (λx=>[Ow e x ([]:List α)])):=by
 intro vs M w hM hf
 match vs,hf with
 | [a,b],⟨⟨_,ha⟩,hb,_⟩=>
  subst ha;have hb:=Va.int hb;subst hb;obtain ⟨n,rfl⟩:=LH hv;refine ⟨hc,?_⟩;rcases KN n with rfl | hn
  ·refine (h0 w).mono ?_;rintro en w' ⟨rfl,rfl⟩;exact ⟨_,rfl,Ext.refl _ _,[],by simp,by simp,_,⟨rfl,rfl⟩,[],[],rfl,λu=>.inl ⟨rfl,[],⟨by simp,.inl ⟨rfl,rfl⟩⟩,rfl⟩,rfl⟩
  ·refine (h1 n hn om_ w).mono ?_;rintro en w' ⟨k,q,cs,rfl,rfl,hk,hcs⟩;have hh:((w.alloc (.cells cs e)).drewN q).heap[w.heap.size]?=some (.cells cs e (0,0)):=Bz w _;refine ⟨_,rfl,(Ext.alloc No w _).trans (Ext.drawn _ _ _ (JE _ _)),[w.heap.size],by simp,λj hj=>?_,_,⟨rfl,rfl⟩,[w.heap.size],[],by simp,λu=>.inl ⟨rfl,[],⟨by simp,.inr ⟨w.heap.size,k,cs,rfl,JD _,hh,JD _,hk,hcs,by simp⟩⟩,rfl⟩,rfl⟩;simp at hj;subst hj;exact ⟨Nat.le_refl _,(GA.1 hh).1⟩
end Go.Pn
namespace Go.Proofs
open Go Go.RowKit
theorem C8 (w:World):Calls Tryz.prog 138 #[.slice none 0 0,.int .i64 0] w λe w'=>e=.returned (.slice none 0 0)/\w'=w:=by
 go_enter Tryz.func138,Tryz.ntmps138
 go_wp2
 go_ret
 exact ⟨rfl,rfl⟩
theorem C6 (n:Nat) (h:0 < n) (hn:n<=1000000000) (w:World):Calls Tryz.prog 138 #[.slice none 0 0,.int .i64 n] w λe w'=>∃ k q cs,e=.returned (.slice (some ⟨w.heap.size,0,none⟩) 0 k)/\w'=(w.alloc (.cells cs 3)).drewN q/\k<=maxLen/\cs.size=k * 1:=by
 have happ:=λw=>Lib.run_append_nil_zeros (P:=Tryz.prog) w 24 3 24 3 Tryz.t3 (.int .i64 0) .i64 .i64 Tryz.underlying24 Tryz.underlying3 Go.Pn.kr_ Go.Pn.kr_ n h (by decide) Go.Pn.om_ (by show n * 8<=_;omega)
 go_enter Tryz.func138,Tryz.ntmps138
 go_wp2_with (at_builtin;refine KV _ rfl _ _ _ _ rfl _ _ rfl rfl _ _ (happ _) ?_)
 go_ret
 have h1:=grownCap_ge w n 0 3;refine ⟨grownCap w n 0 3,1,_,rfl,rfl,grownCap_le_maxLen w n 0 3 (by unfold maxLen;omega),?_⟩;rw [J7,Pn.zc_size,Pn.zc_size];show n * 1 + (grownCap w n 0 3 - n) * 1=grownCap w n 0 3 * 1;omega
end Go.Proofs
namespace Go.Pn
open Go Go.RowKit Go.Proofs
def m138 (f:Nat) (v0:Int):Option Unit:=if 0<=v0/\v0<=1000000000 then some () else none
end Go.Pn
namespace Go.Proofs
open Go Go.RowKit
end Go.Proofs
namespace Go.Pn
open Go Go.RowKit Go.Proofs
theorem s138 (f:Nat) (v0:Int) (r:Unit) (hm:Pn.m138 f v0=some r):Pn.Sp Tryz.prog 138 [Pn.Qv (.slice none 0 0),Pn.Va v0] (Pn.Rz (λx:Value=>Pn.Qv x) (λx=>[Pn.Ow 3 x ([]:L6)])):=by
 unfold Pn.m138 at hm;split at hm
 case isFalse=>cases hm
 rename_i hv;refine Pn.growS kr_ (λw=>C8 w) (λn h1 h2 w=>C6 n h1 h2 w) hv.1 hv.2
end Go.Pn
namespace Go.Proofs
open Go Go.RowKit
theorem C7 (w:World):Calls Tryz.prog 273 #[.slice none 0 0,.int .i64 0] w λe w'=>e=.returned (.slice none 0 0)/\w'=w:=by
 go_enter Tryz.func273,Tryz.ntmps273
 go_wp2
 go_ret
 exact ⟨rfl,rfl⟩
theorem C5 (n:Nat) (h:0 < n) (hn:n<=1000000000) (w:World):Calls Tryz.prog 273 #[.slice none 0 0,.int .i64 n] w λe w'=>∃ k q cs,e=.returned (.slice (some ⟨w.heap.size,0,none⟩) 0 k)/\w'=(w.alloc (.cells cs 4)).drewN q/\k<=maxLen/\cs.size=k * 1:=by
 have happ:=λw=>Lib.run_append_nil_zeros (P:=Tryz.prog) w 27 3 27 4 Tryz.t4 (.bool false) .i64 .i64 Tryz.underlying27 Tryz.underlying3 Go.Pn.kr_ Go.Pn.kr_ n h (by decide) Go.Pn.om_ (by show n * 1<=_;omega)
 go_enter Tryz.func273,Tryz.ntmps273
 go_wp2_with (at_builtin;refine KV _ rfl _ _ _ _ rfl _ _ rfl rfl _ _ (happ _) ?_)
 go_ret
 have h1:=grownCap_ge w n 0 4;refine ⟨grownCap w n 0 4,1,_,rfl,rfl,grownCap_le_maxLen w n 0 4 (by unfold maxLen;omega),?_⟩;rw [J7,Pn.zc_size,Pn.zc_size];show n * 1 + (grownCap w n 0 4 - n) * 1=grownCap w n 0 4 * 1;omega
end Go.Proofs
namespace Go.Pn
open Go Go.RowKit Go.Proofs
def m273 (f:Nat) (v0:Int):Option Unit:=if 0<=v0/\v0<=1000000000 then some () else none
end Go.Pn
namespace Go.Proofs
open Go Go.RowKit
end Go.Proofs
namespace Go.Pn
open Go Go.RowKit Go.Proofs
theorem s273 (f:Nat) (v0:Int) (r:Unit) (hm:Pn.m273 f v0=some r):Pn.Sp Tryz.prog 273 [Pn.Qv (.slice none 0 0),Pn.Va v0] (Pn.Rz (λx:Value=>Pn.Qv x) (λx=>[Pn.Ow 4 x ([]:L7)])):=by
 unfold Pn.m273 at hm;split at hm
 case isFalse=>cases hm
 rename_i hv;refine Pn.growS kr_ (λw=>C7 w) (λn h1 h2 w=>C5 n h1 h2 w) hv.1 hv.2
end Go.Pn
namespace Go.Proofs
open Go Go.RowKit
end Go.Proofs
namespace Go.Pn
open Go Go.RowKit Go.Sort
theorem Chk.ints {M:Nat->Prop} {w:World}:∀ {xs:L6} {cs:L9},Chk M w cs xs->cs=xs.map (Value.int .i64)
 | [],_,h=>h
 | x :: xs,_,⟨c,d,rfl,h1,h2⟩=>by
  have h1:c=[.int .i64 x]:=h1;rw [h1,Chk.ints h2];rfl
theorem Chk.ofInts {M:Nat->Prop} {w:World}:∀ {xs:L6},Chk M w (xs.map (Value.int .i64)) xs
 | []=>rfl
 | x :: xs=>⟨[.int .i64 x],xs.map (Value.int .i64),rfl,rfl,Chk.ofInts⟩
theorem Xe {enc:Int->Value} {w:World} {b:Nat} {d:Array Int} {cur:Array Value} {e:TypeId} {fz:Nat×Nat} (h:w.heap[b]?=some (.cells cur e fz)):(putRow enc w b 0 d).heap[b]?=some (.cells (putCells enc 0 d cur) e fz):=by
 unfold putRow mapBlock;simp only [H8,if_true,h,GZ,onCells]
theorem Wh {enc:Int->Value} {w:World} {b k:Nat} {d:Array Int} (h:k≠b):(putRow enc w b 0 d).heap[k]?=w.heap[k]?:=by
 unfold putRow mapBlock;simp only [H8];rw [if_neg (λe=>h e.symm)]
theorem A8 {w w':World} {b n:Nat} {d:Array Int} {os:Array Obj} {cur:Array Value} {e:TypeId} (h:w.heap[b]?=some (.cells cur e (0,0))) (hw:w'=grow (putRow (Value.int .i64) (Sort.ahead w n) b 0 d) os) :
  Ext (λk=>k=b) w w'/\w'.heap[b]?=some (.cells (putCells (Value.int .i64) 0 d cur) e (0,0)):=by
 subst hw;have hsz:(putRow (Value.int .i64) (Sort.ahead w n) b 0 d).heap.size=w.heap.size:=by simp [putRow,mapBlock,Sort.ahead]
 have hb:b < w.heap.size:=(GA.1 h).1;refine ⟨⟨rfl,rfl,rfl,?_,λk hk hne=>?_,JE _ _⟩,?_⟩
 ·simp [grow,hsz]
 ·simp only [grow];rw [JN (by rw [hsz];exact hk),Wh hne];rfl
 ·simp only [grow];rw [JN (by rw [hsz];exact hb)];exact Xe h
theorem Hw {d:Array Int} {cur:Array Value} (h:d.size<=cur.size):(putCells (Value.int .i64) 0 d cur).toList.take d.size=d.toList.map (Value.int .i64):=by
 refine HV λj=>?_;rw [JK];split
 ·rename_i hj;rw [HW];simp only [putCells,Array.getElem?_mapIdx,GW,HW];rw [HA om_,HA hj];simp [hj]
 ·rename_i hj;rw [HE (by simp;omega)]
theorem Hx {enc:Int->Value} {d:Array Int} {cur:Array Value}:(putCells enc 0 d cur).size=cur.size:=by simp [putCells]
theorem Wg {w:World} {g:Nat} {cur:Array Value} {e:TypeId} {zs:L6} (h:w.heap[g]?=some (.cells cur e (0,0))) (ht:cur.toList.take zs.length=zs.map (Value.int .i64)):Holds (Value.int .i64) w g 0 zs.toArray:=by
 intro j hj;have hj:j < zs.length:=by simpa using hj
 have h1:(cur.toList.take zs.length)[j]?=some (.int .i64 zs[j]):=by rw [ht];simp [hj]
 rw [H7 hj,HW] at h1;refine ⟨?_,?_⟩
 ·simp [World.cell?,h,h1,hj]
 ·simp [World.frozen?,h]
theorem inpl {P:Program} {N e:Nat} {c:Value} {xs:L6} (hcal:cal P N=true) (F:L6->L6) (hlen:∀ zs,(F zs).length=zs.length) (hsm:xs.length < 4611686018427387904)
  (h0:∀ (p:Option Addr) (cap:Nat) (w:World),Calls P N #[.slice p 0 cap] w λen w'=>en=.returned (.tuple #[])/\w'=w)
  (h1:∀ (b cap:Nat) (zs:L6) (w:World),Holds (Value.int .i64) w b 0 zs.toArray->b < w.heap.size->zs.length < 4611686018427387904->Calls P N #[.slice (some ⟨b,0,none⟩) zs.length cap] w λen w'=>en=.returned (.tuple #[])/\∃ n os,w'=grow (putRow (Value.int .i64) (Sort.ahead w n) b 0 (F zs).toArray) os) :
  Cg P N [Qv c] [Ow e c xs] (Rz (λ_:Unit=>Dd) (λ_=>[Ow e c (F xs)])):=by
 refine ⟨hcal,?_⟩;intro vs M w Ft hM hf ho hnd hFM
 match vs,hf with
 | [v],⟨⟨_,hv⟩,_⟩=>
  have hv:v=c:=hv;subst hv;obtain ⟨F1,_,rfl,hown,rfl⟩:=ho;have hF0:xs=[]->F xs=[]:=λh=>J1.1 (by rw [hlen,h];rfl);rcases hown undef with ⟨hF,cs,hr,hc⟩ | ⟨hF,hx,g,hv⟩
  ·rcases hr.2 with ⟨hn,hx⟩ | ⟨g,cap,cur,hn,_,hg,hle,hcap,hsz,htk⟩
   ·have hx:xs=[]:=J1.1 hx;subst hx;rw [hn];refine (h0 none 0 w).mono ?_;rintro en w' ⟨rfl,rfl⟩;refine ⟨_,F1,rfl,Ext.refl _ _,by simpa using hnd,λk hk=>.inl (by simpa using hk),(),rfl,F1,[],by simp,λu=>?_,rfl⟩;rw [hF0 rfl,← hn];exact (Ow e v []).sb (hown u) (λk _ hk=>by rcases hk with h | h;exact h.1;exact hFM k (by simpa using h))
   ·have hcs:=Chk.ints hc;have hsz1:cur.size=cap:=by rw [hsz];show cap * 1=cap;omega
    have htk1:cur.toList.take xs.length=xs.map (Value.int .i64):=by rw [← hcs,← htk];show _=cur.toList.take (xs.length * 1);rw [HN]
    have hgl:g < w.heap.size:=(GA.1 hg).1;rw [hn];refine (h1 g cap xs w (Wg hg htk1) hgl hsm).mono ?_;rintro en w' ⟨rfl,n,os,hw⟩;obtain ⟨hx,hb⟩:=A8 hg hw;have hF1:F1=[g]:=by rw [hF,hn];rfl
    subst hF1;refine ⟨_,[g],rfl,hx.mono λk _ hk=>by subst hk;simp,by simp,λk hk=>.inl (by simpa using hk),(),rfl,[g],[],by simp,λu=>.inl ⟨by rw [← hn,hn];rfl,(F xs).map (Value.int .i64),⟨?_,.inr ⟨g,cap,_,?_,JD _,hb,?_,hcap,?_,?_⟩⟩,Chk.ofInts⟩,rfl⟩
    ·rw [JJ];exact (HN _).symm
    ·rw [hlen]
    ·rw [hlen];exact hle
    ·rw [Hx];exact hsz
    ·have:=Hw (d:=(F xs).toArray) (cur:=cur) (by simp [hlen];omega);show _=_;have hm:(F xs).length * Rep.sz Int=(F xs).toArray.size:=by simp;show _ * 1=_;omega
     rw [hm,this]
  ·subst hx;rw [hv];refine (h0 _ 0 w).mono ?_;rintro en w' ⟨rfl,rfl⟩;refine ⟨_,F1,rfl,Ext.refl _ _,by simpa using hnd,λk hk=>.inl (by simpa using hk),(),rfl,F1,[],by simp,λu=>?_,rfl⟩;rw [hF0 rfl,← hv];exact (Ow e v []).sb (hown u) (λk _ hk=>by rcases hk with h | h;exact h.1;exact hFM k (by simpa using h))
end Go.Pn
namespace Go.Proofs
open Go Go.RowKit Go.Shelf Go.Sort
def Tryz.laysSort_ren:Go.Shelf.Ren:=⟨λ| 189=>82 | 125=>115 | 257=>114 | 128=>148 | 129=>149 | 294=>139 | 295=>140 | 296=>141 | 297=>142 | 298=>143 | 299=>144 | 216=>145 | 300=>146 | 301=>147 | 328=>186 | 329=>187 | 330=>188 | 331=>189 | 332=>190 | 215=>111 | 343=>226 | n=>n,λ| 28=>24 | 3=>3 | 46=>193 | 0=>0 | 51=>226 | 53=>228 | 4=>4 | 183=>219 | 182=>218 | 131=>113 | 5=>5 | 9=>9 | 218=>254 | 222=>258 | 228=>282 | 229=>88 | n=>n,λ| n=>n⟩
theorem Tryz.laysSort:Go.Proofs.Lays.n189 Tryz.prog Tryz.laysSort_ren:={
 mixed:=by kernel_rfl
 f125:=Tryz.func115.trans (congrArg some Go.Pn.kr_)
 f128:=Tryz.func148.trans (congrArg some Go.Pn.kr_)
 f129:=Tryz.func149.trans (congrArg some Go.Pn.kr_)
 f189:=Tryz.func82.trans (congrArg some Go.Pn.kr_)
 f215:=Tryz.func111.trans (congrArg some Go.Pn.kr_)
 f216:=Tryz.func145.trans (congrArg some Go.Pn.kr_)
 f257:=Tryz.func114.trans (congrArg some Go.Pn.kr_)
 f294:=Tryz.func139.trans (congrArg some Go.Pn.kr_)
 f295:=Tryz.func140.trans (congrArg some Go.Pn.kr_)
 f296:=Tryz.func141.trans (congrArg some Go.Pn.kr_)
 f297:=Tryz.func142.trans (congrArg some Go.Pn.kr_)
 f298:=Tryz.func143.trans (congrArg some Go.Pn.kr_)
 f299:=Tryz.func144.trans (congrArg some Go.Pn.kr_)
 f300:=Tryz.func146.trans (congrArg some Go.Pn.kr_)
 f301:=Tryz.func147.trans (congrArg some Go.Pn.kr_)
 f328:=Tryz.func186.trans (congrArg some Go.Pn.kr_)
 f329:=Tryz.func187.trans (congrArg some Go.Pn.kr_)
 f330:=Tryz.func188.trans (congrArg some Go.Pn.kr_)
 f331:=Tryz.func189.trans (congrArg some Go.Pn.kr_)
 f332:=Tryz.func190.trans (congrArg some Go.Pn.kr_)
 f343:=Tryz.func226.trans (congrArg some Go.Pn.kr_)
 t0:=Tryz.underlying0
 a0:=Tryz.isAgg0
 z0:=Tryz.sizeOf0
 v0:=Tryz.zeroValue0
 t3:=Tryz.underlying3
 a3:=Tryz.isAgg3
 z3:=Tryz.sizeOf3
 v3:=Tryz.zeroValue3
 t4:=Tryz.underlying4
 a4:=Tryz.isAgg4
 z4:=Tryz.sizeOf4
 v4:=Tryz.zeroValue4
 t5:=Tryz.underlying5
 a5:=Tryz.isAgg5
 z5:=Tryz.sizeOf5
 v5:=Tryz.zeroValue5
 t9:=Tryz.underlying9
 a9:=Tryz.isAgg9
 z9:=Tryz.sizeOf9
 v9:=Tryz.zeroValue9
 t28:=Tryz.underlying24
 a28:=Tryz.isAgg24
 z28:=Tryz.sizeOf24
 v28:=Tryz.zeroValue24
 t46:=Tryz.underlying193
 a46:=Tryz.isAgg193
 z46:=Tryz.sizeOf193
 v46:=Tryz.zeroValue193
 t51:=Tryz.underlying226
 a51:=Tryz.isAgg226
 z51:=Tryz.sizeOf226
 v51:=Tryz.zeroValue226
 t53:=Tryz.underlying228
 a53:=Tryz.isAgg228
 z53:=Tryz.sizeOf228
 v53:=Tryz.zeroValue228
 t131:=Tryz.underlying113
 a131:=Tryz.isAgg113
 z131:=Tryz.sizeOf113
 v131:=Tryz.zeroValue113
 t182:=Tryz.underlying218
 a182:=Tryz.isAgg218
 z182:=Tryz.sizeOf218
 v182:=Tryz.zeroValue218
 t183:=Tryz.underlying219
 a183:=Tryz.isAgg219
 z183:=Tryz.sizeOf219
 v183:=Tryz.zeroValue219
 t218:=Tryz.underlying254
 a218:=Tryz.isAgg254
 z218:=Tryz.sizeOf254
 v218:=Tryz.zeroValue254
 t222:=Tryz.underlying258
 a222:=Tryz.isAgg258
 z222:=Tryz.sizeOf258
 v222:=Tryz.zeroValue258
 t228:=Tryz.underlying282
 a228:=Tryz.isAgg282
 z228:=Tryz.sizeOf282
 v228:=Tryz.zeroValue282
 t229:=Tryz.underlying88
 a229:=Tryz.isAgg88
 z229:=Tryz.sizeOf88
 v229:=Tryz.zeroValue88 }
end Go.Proofs
namespace Go.Pn
open Go Go.RowKit Go.Shelf Go.Sort Go.Proofs
def ins1 (x:Int):L6->L6
 | []=>[x]
 | y :: l=>bif decide (x<=y) then x :: y :: l else y :: Pn.ins1 x l
end Go.Pn
namespace Go.Proofs
open Go Go.RowKit Go.Shelf Go.Sort
end Go.Proofs
namespace Go.Pn
open Go Go.RowKit Go.Shelf Go.Sort Go.Proofs
def isort:L6->L6
 | []=>[]
 | x :: l=>Pn.ins1 x (Pn.isort l)
end Go.Pn
namespace Go.Proofs
open Go Go.RowKit Go.Shelf Go.Sort
end Go.Proofs
namespace Go.Pn
open Go Go.RowKit Go.Shelf Go.Sort Go.Proofs
theorem ins1_perm (x:Int):∀ l:L6,(Pn.ins1 x l).Perm (x :: l)
 | []=>.refl _
 | y :: l=>by
  unfold Pn.ins1;cases decide (x<=y) with
  | true=>exact .refl _
  | false=>exact ((Pn.ins1_perm x l).cons y).trans (.swap x y l)
end Go.Pn
namespace Go.Proofs
open Go Go.RowKit Go.Shelf Go.Sort
end Go.Proofs
namespace Go.Pn
open Go Go.RowKit Go.Shelf Go.Sort Go.Proofs
theorem isort_perm:∀ l:L6,(Pn.isort l).Perm l
 | []=>.refl _
 | x :: l=>(Pn.ins1_perm x _).trans ((Pn.isort_perm l).cons x)
end Go.Pn
namespace Go.Proofs
open Go Go.RowKit Go.Shelf Go.Sort
end Go.Proofs
namespace Go.Pn
open Go Go.RowKit Go.Shelf Go.Sort Go.Proofs
theorem ins1_pw (x:Int):∀ l:L6,l.Pairwise (·<=·)->(Pn.ins1 x l).Pairwise (·<=·)
 | [],_=>by unfold Pn.ins1;simp
 | y :: l,h=>by
  obtain ⟨h1,h2⟩:=HM.1 h;unfold Pn.ins1;by_cases hx:x<=y
  ·rw [decide_eq_true hx,cond_true];refine HM.2 ⟨λz hz=>?_,h⟩;rcases GK.1 hz with rfl | hz
   ·exact hx
   ·have:=h1 z hz;omega
  ·rw [decide_eq_false hx,cond_false];refine HM.2 ⟨λz hz=>?_,Pn.ins1_pw x l h2⟩;rcases GK.1 ((Pn.ins1_perm x l).mem_iff.1 hz) with rfl | hz
   ·omega
   ·exact h1 z hz
end Go.Pn
namespace Go.Proofs
open Go Go.RowKit Go.Shelf Go.Sort
end Go.Proofs
namespace Go.Pn
open Go Go.RowKit Go.Shelf Go.Sort Go.Proofs
theorem isort_pw:∀ l:L6,(Pn.isort l).Pairwise (·<=·)
 | []=>.nil
 | x :: l=>Pn.ins1_pw x _ (Pn.isort_pw l)
end Go.Pn
namespace Go.Proofs
open Go Go.RowKit Go.Shelf Go.Sort
end Go.Proofs
namespace Go.Pn
open Go Go.RowKit Go.Shelf Go.Sort Go.Proofs
theorem isort_eq (xs:L6):Pn.isort xs=xs.mergeSort λx y=>decide (x<=y):=by
 have h:(xs.mergeSort λx y=>decide (x<=y)).Pairwise (λa b:Int=>a<=b):=(List.pairwise_mergeSort (le:=λx y:Int=>decide (x<=y)) (λa b c h1 h2=>by simp at h1 h2 ⊢;omega) (λa b=>by simp;omega) xs).imp λh=>by simpa using h
 exact List.Perm.eq_of_pairwise (λa b _ _ h1 h2=>Int.le_antisymm h1 h2) (Pn.isort_pw xs) h ((Pn.isort_perm xs).trans (List.mergeSort_perm xs _).symm)
end Go.Pn
namespace Go.Proofs
open Go Go.RowKit Go.Shelf Go.Sort
end Go.Proofs
namespace Go.Pn
open Go Go.RowKit Go.Shelf Go.Sort Go.Proofs
def m82 (f:Nat) (v0:L6):Option L6:=if v0.length<=1000000000 then some (Pn.isort v0) else none
end Go.Pn
namespace Go.Proofs
open Go Go.RowKit Go.Shelf Go.Sort
end Go.Proofs
namespace Go.Pn
open Go Go.RowKit Go.Shelf Go.Sort Go.Proofs
theorem s82 (f:Nat) (n0:Value) (v0:L6) (r:L6) (hm:Pn.m82 f v0=some r):Pn.Cg Tryz.prog 82 [Pn.Qv n0] [Pn.Ow 3 n0 (v0)] (Pn.Rz (λx:Unit=>Pn.Dd) (λx=>[Pn.Ow 3 n0 (r)])):=by
 unfold Pn.m82 at hm;split at hm
 case isFalse=>cases hm
 rename_i hb;obtain rfl:=Option.some.inj hm;rw [Pn.isort_eq];exact Pn.inpl kr_ (λxs=>xs.mergeSort λx y=>decide (x<=y)) (λzs=>List.length_mergeSort zs) om_ (λp cap w=>Any.slices_Sort_int_none Tryz.laysSort p cap w) (λb cap zs w h1 h2 h3=>Any.slices_Sort_int Tryz.laysSort b 0 cap zs w h1 h2 h3)
end Go.Pn
namespace Go.Proofs
open Go Go.RowKit Go.Shelf Go.Sort
end Go.Proofs
namespace Go.Pn
open Go Go.RowKit Go.Sort
theorem inpc {P:Program} {N e:Nat} {c:Value} {xs:L6} (hcal:cal P N=true) (F:L6->L6) (hlen:∀ zs,(F zs).length<=zs.length) (hsm:xs.length<=9223372036854775807)
  (h0:∀ (p:Option Addr) (cap:Nat) (w:World),Calls P N #[.slice p 0 cap] w λen w'=>en=.returned (.slice p 0 cap)/\w'=w)
  (h1:∀ (b cap:Nat) (zs:L6) (w:World),Holds (Value.int .i64) w b 0 zs.toArray->zs.length<=9223372036854775807->zs.length<=cap->Calls P N #[.slice (some ⟨b,0,none⟩) zs.length cap] w λen w'=>en=.returned (.slice (some ⟨b,0,none⟩) (F zs).length cap)/\∃ n,w'=putRow (Value.int .i64) (Sort.ahead w n) b 0 (F zs ++ List.replicate (zs.length - (F zs).length) 0).toArray) :
  Cg P N [Qv c] [Ow e c xs] (Rz (λx:Value=>Qv x) (λx=>[Ow e x (F xs)])):=by
 refine ⟨hcal,?_⟩;intro vs M w Ft hM hf ho hnd hFM
 match vs,hf with
 | [v],⟨⟨_,hv⟩,_⟩=>
  have hv:v=c:=hv;subst hv;obtain ⟨F1,_,rfl,hown,rfl⟩:=ho;have hF0:xs=[]->F xs=[]:=λh=>J1.1 (by have:=hlen xs;rw [h] at this ⊢;simpa using this);rcases hown undef with ⟨hF,cs,hr,hc⟩ | ⟨hF,hx,g,hv⟩
  ·rcases hr.2 with ⟨hn,hx⟩ | ⟨g,cap,cur,hn,_,hg,hle,hcap,hsz,htk⟩
   ·have hx:xs=[]:=J1.1 hx;subst hx;rw [hn];refine (h0 none 0 w).mono ?_;rintro en w' ⟨rfl,rfl⟩;refine ⟨_,F1,rfl,Ext.refl _ _,by simpa using hnd,λk hk=>.inl (by simpa using hk),v,⟨rfl,hn.symm⟩,F1,[],by simp,λu=>?_,rfl⟩;rw [hF0 rfl];exact (Ow e v []).sb (hown u) (λk _ hk=>by rcases hk with h | h;exact h.1;exact hFM k (by simpa using h))
   ·have hcs:=Chk.ints hc;have hsz1:cur.size=cap:=by rw [hsz];show cap * 1=cap;omega
    have htk1:cur.toList.take xs.length=xs.map (Value.int .i64):=by rw [← hcs,← htk];show _=cur.toList.take (xs.length * 1);rw [HN]
    have hgl:g < w.heap.size:=(GA.1 hg).1;have hl:=hlen xs;rw [hn];refine (h1 g cap xs w (Wg hg htk1) hsm hle).mono ?_;rintro en w' ⟨rfl,n,hw⟩;obtain ⟨hx,hb⟩:=A8 (os:=#[]) hg (hw.trans (Sort.grow_empty _).symm);have hF1:F1=[g]:=by rw [hF,hn];rfl
    subst hF1;refine ⟨_,[g],rfl,hx.mono λk _ hk=>by subst hk;simp,by simp,λk hk=>.inl (by simpa using hk),_,⟨rfl,rfl⟩,[g],[],by simp,λu=>.inl ⟨rfl,(F xs).map (Value.int .i64),⟨?_,.inr ⟨g,cap,_,rfl,JD _,hb,?_,hcap,?_,?_⟩⟩,Chk.ofInts⟩,rfl⟩
    ·rw [JJ];exact (HN _).symm
    ·omega
    ·rw [Hx];exact hsz
    ·have:=Hw (d:=(F xs ++ List.replicate (xs.length - (F xs).length) 0).toArray) (cur:=cur) (by simp;omega);have h2:=congrArg (List.take (F xs).length) this;rw [LS,Nat.min_eq_left smp_] at h2;have hm:(F xs).length * Rep.sz Int=(F xs).length:=HN _;rw [hm,h2];simp
  ·subst hx;rw [hv];refine (h0 _ 0 w).mono ?_;rintro en w' ⟨rfl,rfl⟩;refine ⟨_,F1,rfl,Ext.refl _ _,by simpa using hnd,λk hk=>.inl (by simpa using hk),v,⟨rfl,hv.symm⟩,F1,[],by simp,λu=>?_,rfl⟩;rw [hF0 rfl];exact (Ow e v []).sb (hown u) (λk _ hk=>by rcases hk with h | h;exact h.1;exact hFM k (by simpa using h))
end Go.Pn
namespace Go.Proofs
open Go Go.RowKit Go.Shelf Go.Sort
def Tryz.laysCompact_ren:Go.Shelf.Ren:=⟨λ| 20=>208 | n=>n,λ| 22=>24 | 3=>3 | 4=>4 | 0=>0 | n=>n,λ| n=>n⟩
theorem Tryz.laysCompact:Go.Proofs.Lays2.n20 Tryz.prog Tryz.laysCompact_ren:={
 mixed:=by kernel_rfl
 f20:=Tryz.func208.trans (congrArg some Go.Pn.kr_)
 t0:=Tryz.underlying0
 a0:=Tryz.isAgg0
 z0:=Tryz.sizeOf0
 v0:=Tryz.zeroValue0
 t3:=Tryz.underlying3
 a3:=Tryz.isAgg3
 z3:=Tryz.sizeOf3
 v3:=Tryz.zeroValue3
 t4:=Tryz.underlying4
 a4:=Tryz.isAgg4
 z4:=Tryz.sizeOf4
 v4:=Tryz.zeroValue4
 t22:=Tryz.underlying24
 a22:=Tryz.isAgg24
 z22:=Tryz.sizeOf24
 v22:=Tryz.zeroValue24
 i3:=by kernel_rfl }
end Go.Proofs
namespace Go.Pn
open Go Go.RowKit Go.Shelf Go.Sort Go.Proofs
def m208 (f:Nat) (v0:L6):Option L6:=if v0.length<=1000000000 then some (Lib.compact v0) else none
end Go.Pn
namespace Go.Proofs
open Go Go.RowKit Go.Shelf Go.Sort
end Go.Proofs
namespace Go.Pn
open Go Go.RowKit Go.Shelf Go.Sort Go.Proofs
theorem compact_le (zs:L6):(Lib.compact zs).length<=zs.length:=by
 unfold Lib.compact Lib.compactUpTo;rw [JJ];exact G3 (List.length_filter_le _ _) smp_
end Go.Pn
namespace Go.Proofs
open Go Go.RowKit Go.Shelf Go.Sort
end Go.Proofs
namespace Go.Pn
open Go Go.RowKit Go.Shelf Go.Sort Go.Proofs
theorem MC (f:Nat) (n0:Value) (v0:L6) (r:L6) (hm:Pn.m208 f v0=some r):Pn.Cg Tryz.prog 208 [Pn.Qv n0] [Pn.Ow 3 n0 (v0)] (Pn.Rz (λx:Value=>Pn.Qv x) (λx=>[Pn.Ow 3 x (r)])):=by
 unfold Pn.m208 at hm;split at hm
 case isFalse=>cases hm
 rename_i hb;obtain rfl:=Option.some.inj hm;exact Pn.inpc kr_ Lib.compact Pn.compact_le om_ (λp cap w=>Any.slices_Compact_int_empty Tryz.laysCompact p cap w) (λb cap zs w h1 h2 h3=>Any.slices_Compact_int Tryz.laysCompact b 0 cap zs w h1 h2 h3)
end Go.Pn
namespace Go.Proofs
open Go Go.RowKit Go.Shelf Go.Sort
end Go.Proofs
namespace Go.Pn
open Go Go.RowKit Go.Proofs
def MD (f:Nat) (v0:Int):Option Int:=some v0
theorem ME (f:Nat) (v0:Int) (r:Int) (hm:MD f v0=some r):Sp Tryz.prog 234 [Va (v0)] (Fv1 235 r):=by
 obtain rfl:=si hm;refine ens Tryz.func234 kr_ rfl Tryz.ntmps234 rfl rfl λM w_0 a hM hD s=>?_;refine se (rg (sq s (bx (t rfl)) rfl λa w s=>sq s (saq cq) rfl λa w s=>nl ?_));refine se (rg (nmk (d:=1) 1000 s rfl rfl λc s=>sq s (mkf rfl rfl qn (qc (t rfl) qn)) rfl λa w s=>sq s (saq (t rfl)) rfl λa w s=>nl ?_));replace s:=tv (d:=2) s (fvi (k:=1000) (t rfl) rfl);refine wpIn_ret ?_;exact rn hD s rfl (rv1 (rt rfl))
end Go.Pn
namespace Go.Pn
open Go Go.RowKit
variable {rr:Option Nat}
def Dk (D:Nat):Ent where
 p F _ w _:=F=[D]/\w.heap[D]?=some (.deferred (some []))
 st h e:=by
  obtain ⟨rfl,h⟩:=h;exact ⟨rfl,by rw [e.block D (GA.1 h).1 smp_];exact h⟩
 sb h _:=h
def Lr (l:Nat) (r:Loop):Ent where
 p F _ w _:=F=[l]/\w.heap[l]?=some (.loop r)
 st h e:=by
  obtain ⟨rfl,h⟩:=h;exact ⟨rfl,by rw [e.block l (GA.1 h).1 smp_];exact h⟩
 sb h _:=h
instance {l:Nat} {r:Loop}:Gh (Lr l r):=⟨λh _=>h⟩
def Tm (tm:Array Value) (Γt:Cx):Ent where
 p F M w _:=F=[]/\∀ t e,Ak Γt t=some e->e.p [] M w (tm.getD t undef)
 st h x:=⟨h.1,λt e he=>e.st (h.2 t e he) (x.mono λk _ hk=>⟨hk.1,by simp⟩)⟩
 sb h s:=⟨h.1,λt e he=>e.sb (h.2 t e he) s⟩
instance {tm:Array Value} {Γt:Cx}:Gh (Tm tm Γt):=⟨λh _=>h⟩
def Pk {X:Type} (G:X->List Ent):Ent where
 p F M w _:=∃ x,Mh M w (G x) F
 st h x:=let ⟨y,h⟩:=h;⟨y,h.st x⟩
 sb h s:=let ⟨y,h⟩:=h;⟨y,h.sb s⟩
def Ju:L8->List Ent->Mp->Mp
 | k :: ks,e :: es,g=>put k e (Ju ks es g)
 | _,_,g=>g
theorem Ms {k:Nat} {e:Ent} {ks:L8} {es:List Ent} {g:Mp}:Ju (k :: ks) (e :: es) g=put k e (Ju ks es g):=by
 conv=>lhs;unfold Ju
theorem Cm {Γ:Cx}:∀ {ks:L8} {es:List Ent},Ak (Jv ks es Γ)=Ju ks es (Ak Γ)
 | [],_=>by unfold Jv Ju;rfl
 | _ :: _,[]=>by unfold Jv Ju;rfl
 | k :: ks,e :: es=>by unfold Jv Ju;rw [Ah,Cm]
theorem Et {g g':Mp}:∀ {ks:L8} {es:List Ent} {t:Nat} {e:Ent},ks.length=es.length->(∀ e,t ∉ ks->g t=some e->g' t=some e)->Ju ks es g t=some e->Ju ks es g' t=some e
 | [],[],t,e,_,h,k=>by
  unfold Ju at k ⊢;exact h e smp_ k
 | k :: ks,x :: es,t,e,hl,h,q=>by
  unfold Ju at q ⊢;unfold put at q ⊢;split
  ·rename_i ht;rw [if_pos ht] at q;exact q
  ·rename_i ht;rw [if_neg ht] at q;exact Et (by simpa using hl) (λe hn he=>h e (by simp [ht,hn]) he) q
section
variable {P:Program} {M0:Fm} {w0:World} {n:Nat} {Γ:Cx} {Q:Exit->Act->World->Prop} {a:Act} {w:World} {ty:TypeId}
theorem StM.add1 {g:Mp} {M:Nat->Prop} {φ:Nat->L8} {k:Nat} {e:Ent} {F:L8} (h:StM M0 w0 n g a w M φ) (hp:e.p F M w (a.get k)) (hn:F.Nodup) (hF:∀ q∈F,M q/\(w0.heap.size<=q\/M0.b q))
  (hd:∀ t,t≠k->(g t).isSome=true->∀ q∈φ t,q ∉ F):StM M0 w0 n (put k e g) a w M (λt=>if t=k then F else φ t):=by
 refine ⟨λt e' he=>?_,λt ht=>?_,λt s hts ht hs=>?_,h.sub,h.bd,h.fr,h.sz,h.df⟩
 ·unfold put at he;by_cases hk:t=k
  ·subst hk;simp only [if_true,Option.some.injEq] at he ⊢;subst he;exact hp
  ·simp only [if_neg hk] at he ⊢;exact h.holds t e' he
 ·by_cases hk:t=k
  ·subst hk;simp only [if_true];exact ⟨hn,hF⟩
  ·simp only [put,if_neg hk] at ht ⊢;exact h.own t ht
 ·by_cases hk:t=k
  ·subst hk;simp only [if_true,if_neg (Ne.symm hts)];simp only [put,if_neg (Ne.symm hts)] at hs;exact λq hq hq'=>hd s (Ne.symm hts) hs q hq' hq
  ·by_cases hk2:s=k
   ·subst hk2;simp only [if_true,if_neg hk];simp only [put,if_neg hk] at ht;exact λq hq=>hd t hk ht q hq
   ·simp only [put,if_neg hk,if_neg hk2] at ht hs ⊢;exact h.apart t s hts ht hs
theorem StM.addG {g:Mp} {M:Nat->Prop} {φ:Nat->L8} (h:StM M0 w0 n g a w M φ):∀ {ks:L8} {Gs:List Ent} {Ft:L8},ks.length=Gs.length->dis ks=true->Mh M w Gs Ft->Ft.Nodup ->
  (∀ q∈Ft,M q/\(w0.heap.size<=q\/M0.b q))->(∀ t,(g t).isSome=true->∀ q∈φ t,q ∉ Ft) ->
  ∃ φ',StM M0 w0 n (Ju ks Gs g) a w M φ'/\∀ t q,(Ju ks Gs g t).isSome=true->q∈φ' t->((g t).isSome=true/\q∈φ t)\/(t∈ks/\q∈Ft)
 | [],[],Ft,_,_,_,_,_,_=>⟨φ,by unfold Ju;exact h,λt q ht hq=>.inl ⟨by unfold Ju at ht;exact ht,hq⟩⟩
 | k :: ks,e :: Gs,Ft,hl,hd,⟨F,F',hFF,h1,h2⟩,hn,hF,hdj=>by
  subst hFF;obtain ⟨hd1,hd2⟩:=Az hd;obtain ⟨n1,n2,n3⟩:=JT.1 hn;obtain ⟨φ',i1,i2⟩:=h.addG (by simpa using hl) hd2 h2 n2 (λq hq=>hF q (GV _ hq)) (λt ht q hq hm=>hdj t ht q hq (GV _ hm));refine ⟨λt=>if t=k then F else φ' t,?_,?_⟩
  ·unfold Ju;refine i1.add1 (h1 _) n1 (λq hq=>hF q (GY _ hq)) λt hne ht q hq hqF=>?_;rcases i2 t q ht hq with ⟨h3,h4⟩ | ⟨_,h4⟩
   ·exact hdj t h3 q h4 (GY _ hqF)
   ·exact n3 q hqF q h4 rfl
  ·intro t q ht hq;by_cases hk:t=k
   ·subst hk;simp only [if_true] at hq;exact .inr ⟨List.mem_cons_self ..,GY _ hq⟩
   ·simp only [if_neg hk] at hq;unfold Ju put at ht;rw [if_neg hk] at ht;rcases i2 t q ht hq with h3 | ⟨h3,h4⟩
    ·exact .inl h3
    ·exact .inr ⟨List.mem_cons_of_mem _ h3,GV _ h4⟩
theorem StM.called0 (hM:Bd M0 w0) {M:Nat->Prop} {φ:Nat->L8} {ks js:L8} {G G':List Ent} {w':World} {Fq:L8} (h:StM M0 w0 n (Ak Γ) a w M φ) (hk:Kg (Ak Γ) ks G) (hd:dis ks=true)
  (hx:Ext (λk=>k∈(ks.map φ).flatten) w w') (hn:Fq.Nodup) (hF:∀ k∈Fq,k∈(ks.map φ).flatten\/(w.heap.size<=k/\k < w'.heap.size))
  (ho:Mh (λk=>(M k/\k ∉ (ks.map φ).flatten)\/k∈Fq) w' G' Fq) (hl:js.length=G'.length) (hjs:dis js=true) (hkj:∀ k∈ks,k∈js):St M0 w0 n (Jv js G' Γ) a w':=by
 obtain ⟨o1,o2,o3,o4⟩:=Kg.owns h hk hd;have base:StM M0 w0 n (λt=>if t∈js then none else Ak Γ t) a w' (λk=>(M k/\k ∉ (ks.map φ).flatten)\/k∈Fq) φ:=by
  have at':∀ t,((if t∈js then none else Ak Γ t):Option Ent).isSome=true->t ∉ js/\(Ak Γ t).isSome=true:=λt ht=>by
   by_cases hj:t∈js
   ·rw [if_pos hj] at ht;cases ht
   ·rw [if_neg hj] at ht;exact ⟨hj,ht⟩
  refine ⟨λt e he=>?_,λt ht=>?_,λt s hts ht hs=>h.apart t s hts (at' t ht).2 (at' s hs).2,λk hk=>?_,λk hk=>?_,?_,h.sz,h.df⟩
  ·have h3:=at' t (by rw [he];rfl);simp only [if_neg h3.1] at he;have hnl:=o4 t h3.2 λhm=>h3.1 (hkj t hm);have e1:e.p (φ t) (λk=>M k\/(w.heap.size<=k)) w (a.get t):=Ent.sb _ (h.holds t e he) λk hk hm=>hm.elim id λh=>by omega
   have e2:e.p (φ t) (λk=>M k\/(w.heap.size<=k)) w' (a.get t):=Ent.st _ e1 (hx.mono λk _ hk=>⟨.inl (o3 k hk).1,λhm=>hnl k hm hk⟩);refine Ent.sb _ e2 λk hk hm=>?_;rcases hm with hm | hm
   ·exact .inl hm.1
   ·rcases hF k hm with h5 | h5
    ·exact .inl (o3 k h5).1
    ·exact .inr h5.1
  ·have h3:=at' t ht;have:=h.own t h3.2;exact ⟨this.1,λk hk=>⟨.inl ⟨(this.2 k hk).1,o4 t h3.2 (λhm=>h3.1 (hkj t hm)) k hk⟩,(this.2 k hk).2⟩⟩
  ·refine .inl ⟨h.sub k hk,λhm=>?_⟩;rcases (o3 k hm).2 with h5 | h5
   ·have:=hM.1 k hk;omega
   ·exact hM.2 k h5 hk
  ·rcases hk with hk | hk
   ·exact HB (h.bd k hk.1) hx.size
   ·rcases hF k hk with h5 | h5
    ·exact HB (h.bd k (o3 k h5).1) hx.size
    ·exact h5.2
  ·exact ⟨hx.os.trans h.fr.os,hx.tape.trans h.fr.tape,hx.output.trans h.fr.output,G3 h.fr.size hx.size,λk hk hb=>
    (hx.block k (HB hk h.fr.size) λhm=>(o3 k hm).2.elim (λh5=>by omega) hb).trans (h.fr.block k hk hb),G3 h.fr.dr hx.dr⟩
 obtain ⟨φ',h1,_⟩:=base.addG hl hjs ho hn (λq hq=>⟨.inr hq,by
   rcases hF q hq with h5 | h5
   ·exact (o3 q h5).2
   ·exact .inl (G3 h.fr.size h5.1)⟩) (λt ht q hq hm=>by
   by_cases hj:t∈js
   ·rw [if_pos hj] at ht;cases ht
   ·rw [if_neg hj] at ht;rcases hF q hm with h5 | h5
    ·exact o4 t ht (λhm=>hj (hkj t hm)) q hq h5
    ·have:=h.bd q ((h.own t ht).2 q hq).1;omega)
 refine StF.less (g:=Ju js G' λt=>if t∈js then none else Ak Γ t) ⟨_,φ',h1⟩ λt e he=>?_
 rw [Cm] at he;exact Et hl (λe hn he=>by rw [if_neg hn];exact he) he
theorem StM.newb {g:Mp} {M:Nat->Prop} {φ:Nat->L8} {k:Nat} {e:Ent} {o:Obj} (h:StM M0 w0 n g a w M φ) (he:∀ M',e.p [w.heap.size] M' (w.alloc o) (a.get k)):StF M0 w0 n (put k e g) a (w.alloc o):=by
 have hx:Ext No w (w.alloc o):=Ext.alloc _ _ _;refine ⟨λq=>M q\/q=w.heap.size,λt=>if t=k then [w.heap.size] else φ t,λt e' he'=>?_,λt ht=>?_,λt s hts ht hs=>?_,λq hq=>.inl (h.sub q hq),λq hq=>?_,h.fr.trans hx.no,h.sz,h.df⟩
 ·unfold put at he';by_cases hk:t=k
  ·subst hk;simp only [if_true,Option.some.injEq] at he' ⊢;subst he';exact he _
  ·simp only [if_neg hk] at he' ⊢;refine Ent.st _ (Ent.sb _ (h.holds t e' he') (M':=λq=>M q\/q=w.heap.size) ?_) (hx.mono λ_ _ f=>f.elim);rintro q hq (hm | hm)
   ·exact hm
   ·omega
 ·by_cases hk:t=k
  ·subst hk;simp only [if_true];exact ⟨by simp,λq hq=>by simp at hq;subst hq;exact ⟨.inr rfl,.inl h.fr.size⟩⟩
  ·simp only [put,if_neg hk] at ht ⊢;have:=h.own t ht;exact ⟨this.1,λq hq=>⟨.inl (this.2 q hq).1,(this.2 q hq).2⟩⟩
 ·have key:∀ s,(g s).isSome=true->∀ q∈φ s,q≠w.heap.size:=λs hs q hq e=>by
   have:=h.bd q ((h.own s hs).2 q hq).1;omega
  by_cases hk:t=k
  ·subst hk;simp only [if_true,if_neg (Ne.symm hts)];simp only [put,if_neg (Ne.symm hts)] at hs;exact λq hq hq'=>by simp at hq;exact key s hs q hq' hq
  ·by_cases hk2:s=k
   ·subst hk2;simp only [if_true,if_neg hk];simp only [put,if_neg hk] at ht;exact λq hq hq'=>by simp at hq';exact key t ht q hq hq'
   ·simp only [put,if_neg hk,if_neg hk2] at ht hs ⊢;exact h.apart t s hts ht hs
 ·rcases hq with hq | hq
  ·exact HB (h.bd q hq) hx.size
  ·subst hq;simp
def Cy (P:Program) (l:Nat) (ps G:List Ent) (R:Ent):Prop:=
 ∀ (vs:L9) (M:Nat->Prop) (w:World) (Ft:L8),(∀ k,M k->k < w.heap.size)->Rx M w ps vs->Mh M w G Ft->Ft.Nodup->(∀ k∈Ft,M k) ->
  ∃ fn tmps assign body,(Instr.yield l vs.toArray).run P w=.ok (.round l fn tmps assign body) w /\
   RoundIn (Fr none) 0 P l fn tmps assign body w (Pst ⟨λk=>M k/\k ∉ Ft,λk=>k∈Ft,[]⟩ w R)
@[reducible] def yv (l:Nat):Value:=.func (.yield l) #[] #[]
theorem cgy {ops:Array Oper} {rest:List Oper} {x:Operand} {l:Nat} {A:Array TypeId} {args:Array Operand} {xs:List Operand} {ps G:List Ent} {X:Type} {eo:X->Ent} {G':X->List Ent} {d:Nat} {pos:String} {aft:Array Edge} (ks js:L8)
  (hM:Bd M0 w0) (hs:St M0 w0 n Γ a w) (hx:Od Γ x (Qv (yv l))) (ha:args.toList=xs) (h:Odl Γ xs ps) (c:Cy P l ps G (Rz eo G')) (hk:Kg (Ak Γ) ks G) (hd:dis ks=true) (hl:∀ x,js.length=(G' x).length) (hjs:dis (d :: js)=true) (hkj:(ks.all λk=>js.any (Nat.beq k))=true) (hn:Nat.blt d n=true)
  (k:∀ x a' w',St M0 w0 n ((d,eo x) :: Jv js (G' x) Γ) a' w'->wpListIn (Fr rr) 0 P ops Q rest a' w'):wpListIn (Fr rr) 0 P ops Q (⟨some d,.call { callee:=.value x,args:=args,argTypes:=A },ty,pos,aft,none⟩ :: rest) a w:=by
 refine wpListIn_plain rfl λKc hK=>?_;subst ha;obtain ⟨M,φ,hs⟩:=hs;obtain ⟨_,_,hv⟩:=hx _ _ _ hs.rd;obtain ⟨o1,o2,o3,o4⟩:=Kg.owns hs hk hd;obtain ⟨fn,tm,asg,bd,hy,hR⟩:=c _ M w _ hs.bd (h.fits hs.rd) o1 o2 (λk hk=>(o3 k hk).1);refine ⟨λ_ _=>trivial,?_⟩;have hrun:((⟨some d,.call { callee:=.value x,args:=args,argTypes:=A },ty,pos,aft,none⟩:Oper).semAt (Fr rr).round a.eval).run P w=.ok (.round l fn tm asg bd) w:=by
  rw [Oper.semAt_eq _ _ _ (by intro c;simp),← hy];simp [execOp,resolve,Deferred.ofValue,hv,invoke];congr 2;apply Array.ext';simp
 rw [hrun];refine ⟨Ww,RoundIn.mono (F:=Fr rr) hR ?_⟩;rintro en w' ⟨v,Fq,rfl,hx,hnd,hF,x,hp,ho⟩;refine hK _ _ (k x _ _ ?_);exact hs.called hM hk hd (GD hn) hx hnd hF hp ho (hl x) hjs λk hk'=>by
  have:=GJ.1 hkj k hk';obtain ⟨j,hj,hb⟩:=G8.1 this;rw [H9 hb];exact hj
theorem St.putRec {K l:Nat} {r r':Loop} (hs:St M0 w0 n Γ a w) (hk:Ak Γ K=some (Lr l r)):w.heap[l]?=some (.loop r)/\St M0 w0 n ((K,Lr l r') :: Γ) a (w.putObj l (.loop r')):=by
 obtain ⟨M,φ,h⟩:=hs;obtain ⟨hF,hc⟩:=h.holds K _ hk;refine ⟨hc,?_⟩;unfold St;rw [Ah];exact h.write (b:=l) (by rw [hk];rfl) (by rw [hF];simp) ⟨rfl,rfl,rfl,by simp,λq _ hq=>KM hq,GS _⟩ ⟨hF,World.putObj_heap_same (GA.1 hc).1⟩
theorem bgn {K l:Nat} {r:Loop} {body:Code} (hs:St M0 w0 n Γ a w) (hk:Ak Γ K=some (Lr l r)) (hr:r.state=.ready)
  (h:∀ RB w',RB=Lr l { r with state:=.busy }->St M0 w0 n ((K,RB) :: Γ) a w'->body.wpIn (Fr (some l)) 0 P Q a w'):∃ w₂,(Instr.beginRound l).run P w=.ok () w₂/\body.wpIn (Fr (some l)) 0 P Q a w₂:=by
 obtain ⟨h1,h2⟩:=hs.putRec (r':={ r with state:=.busy }) hk;exact ⟨_,run_beginRound h1 hr,h _ _ rfl h2⟩
def stj:Nat->LoopState
 | 0=>.ready
 | _ + 1=>.done
def isz:Nat->Bool
 | 0=>true
 | _ + 1=>false
def jmp (js:List Code) (j:Nat):Option Code:=match j with | 0=>none | k + 1=>js[k]?
@[reducible] def rcd (fn D:Nat) (tm:Array Value) (ps:Array Tmp) (asx bd:Code) (st:LoopState) (pd:Option Code):Loop:=⟨st,pd,fn,tm,ps,asx,bd,D⟩
def RE (l fn D:Nat) (tm:Array Value) (ps:Array Tmp) (asx bd:Code) (Γt:Cx) (js:List Code) {X σ:Type} (G:σ->X->List Ent) (s:σ×Nat):Ent:=
 Pk λx=>Lr l (rcd fn D tm ps asx bd (stj s.2) (jmp js s.2)) :: Tm tm Γt :: G s.1 x
instance {l fn D:Nat} {tm:Array Value} {ps:Array Tmp} {asx bd:Code} {Γt:Cx} {js:List Code} {X σ:Type} {G:σ->X->List Ent} {s:σ×Nat}:Gh (RE l fn D tm ps asx bd Γt js G s):=⟨λh _=>h⟩
theorem pstG {X:Type} {eo:X->Ent} {G':X->List Ent} (x:X) (ks:L8) {G:List Ent} (hM:Bd M0 w0) (hs:St M0 w0 n Γ a w) (hk:Kg (Ak Γ) ks G) (hd:dis ks=true) {v:Value} (hv:∀ M w,(eo x).p [] M w v)
  (hG:∀ M w F,Mh M w G F->Mh M w (G' x) F):Pst M0 w0 (Rz eo G') (.returned v) w:=by
 obtain ⟨M,φ,h0⟩:=hs;obtain ⟨i1,i2,i3,_⟩:=Kg.owns h0 hk hd;have hs:∀ k,k < w.heap.size->(M0.k k\/k∈(ks.map φ).flatten)->M k:=λk _ hk=>hk.elim (h0.sub k) λh=>(i3 k h).1;exact ⟨v,_,rfl,h0.fr,i2,λk hk=>(i3 k hk).2.elim (λh=>.inr ⟨h,h0.bd k (i3 k hk).1⟩) .inl,x,hv _ _,hG _ _ _ (i1.sb hs)⟩
theorem rde {K:Fm} {l fn D KL KT:Nat} {tm:Array Value} {ps:Array Tmp} {asx bd:Code} {Γt:Cx} {js:List Code} {X σ:Type} {G:σ->X->List Ent} {pd:Option Code} (ks:L8) (jump:Option Code) (j:Nat) (b:Bool) (s:σ) (x:X)
  {RB TB:Ent} (hM:Bd K w0) (hs:St K w0 n Γ a w) (hk:Ak Γ KL=some RB) (hT:Ak Γ KT=some TB) (hRB:RB=Lr l (rcd fn D tm ps asx bd .busy pd)) (hTB:TB=Tm tm Γt) (hG:Kg (Ak Γ) ks (G s x)) (hd:dis (KL :: KT :: ks)=true)
  (hj:jmp js j=jump) (hb:jump.isNone=b) (hj0:b=isz j) :
  ∃ v w',(Instr.endRound l jump).run P w=.ok v w'/\Pst K w0 (Rz (λ_:Unit=>Va b) (λ_=>[RE l fn D tm ps asx bd Γt js G (s,j)])) (.returned v) w':=by
 subst hRB hTB;obtain ⟨h1,h2⟩:=hs.putRec (r':=rcd fn D tm ps asx bd (stj j) (jmp js j)) hk;obtain ⟨d1,d2⟩:=Az hd;refine ⟨.bool b,_,?_,pstG () (KL :: KT :: ks) hM h2 (G:=Lr l (rcd fn D tm ps asx bd (stj j) (jmp js j)) :: Tm tm Γt :: G s x) ⟨⟨by rw [Ah];simp [put],inferInstance⟩,⟨by rw [Ah];simp only [put];rw [if_neg (d1 KT smp_)];exact hT,inferInstance⟩,?_⟩ hd (λM w=>Va.mkBool) ?_⟩
 ·rw [run_endRound jump h1,hb,hj];congr 3;subst hj0;cases j <;> rfl
 ·have:∀ {ks:L8} {es:List Ent},(∀ k∈ks,k≠KL)->Kg (Ak Γ) ks es->Kg (Ak ((KL,Lr l (rcd fn D tm ps asx bd (stj j) (jmp js j))) :: Γ)) ks es:=by
   intro ks
   induction ks with
   | nil=>intro es _ h;cases es with
    | nil=>exact trivial
    | cons=>exact h.elim
   | cons k ks ih=>
    intro es hne h;cases es with
    | nil=>exact h.elim
    | cons e es=>exact ⟨⟨by rw [Ah];simp only [put];rw [if_neg (hne k smp_)];exact h.1.1,h.1.2⟩,ih (λq hq=>hne q (by simp [hq])) h.2⟩
  exact this (λk hk=>d1 k (by simp [hk])) hG
 ·intro M w F ho;exact ⟨F,[],by simp,λu=>⟨x,ho⟩,rfl⟩
theorem Ru:∀ (ps:L8) (vs:L9) (tm:Array Value),((ps.zip vs).foldl (λtm (p:Nat×Value)=>tm.setIfInBounds p.1 p.2) tm).size=tm.size
 | [],_,_=>by simp
 | _ :: _,[],_=>by simp
 | p :: ps,v :: vs,tm=>by simp [Ru]
theorem Tk {t:Nat}:∀ (ps:L8) (vs:L9) (tm:Array Value),t ∉ ps->((ps.zip vs).foldl (λtm (p:Nat×Value)=>tm.setIfInBounds p.1 p.2) tm).getD t undef=tm.getD t undef
 | [],_,_,_=>by simp
 | _ :: _,[],_,_=>by simp
 | p :: ps,v :: vs,tm,h=>by
  simp only [LZ,KH];rw [Tk ps vs _ (λhm=>h (GR _ hm))];simp only [GK,not_or] at h;simp [F8,G5 (Ne.symm h.1)]
theorem Zi {t:Nat}:∀ (ps:L8) (vs:L9) (tm:Array Value) (i:Nat) (v:Value),dis ps=true->ps[i]?=some t->vs[i]?=some v->t < tm.size->((ps.zip vs).foldl (λtm (p:Nat×Value)=>tm.setIfInBounds p.1 p.2) tm).getD t undef=v
 | [],_,_,i,v,_,h,_,_=>by simp at h
 | _ :: _,[],_,i,v,_,_,h,_=>by simp at h
 | p :: ps,u :: vs,tm,0,v,hd,h1,h2,hl=>by
  obtain ⟨d1,_⟩:=Az hd;simp only [List.getElem?_cons_zero,Option.some.injEq] at h1 h2;subst h1 h2;simp only [LZ,KH];rw [Tk ps vs _ (λhm=>d1 p hm rfl)];simp [F8,hl]
 | p :: ps,u :: vs,tm,i + 1,v,hd,h1,h2,hl=>by
  obtain ⟨_,d2⟩:=Az hd;simp only [LZ,KH];exact Zi ps vs _ i v d2 (by simpa using h1) (by simpa using h2) (by simpa using hl)
theorem Cy.mk {l fn D KL KT:Nat} {tm:Array Value} {ps:Array Tmp} {asx bd:Code} {Γt:Cx} {js:List Code} {X σ:Type} {G:σ->X->List Ent} {pe:List Ent} {R:Ent} (ks pts:L8) (s:σ) (htm:tm.size=n) (hp:ps.toList=pts) (hpl:pts.length=pe.length) (hpd:dis pts=true) (hpn:(pts.all λt=>Nat.blt t n)=true)
  (hpt:(pts.all λt=>(Ak Γt t).isNone)=true) (hd:dis (KL :: KT :: ks)=true) (hkl:∀ x,ks.length=(G s x).length)
  (h:∀ K w a x TB,Bd K w->K.ds=[]->TB=Tm tm Γt->St K w n (Jv (KL :: KT :: ks) (Lr l (rcd fn D tm ps asx bd .ready none) :: TB :: G s x) (Jv pts pe Γt)) a w ->
   asx.wpIn (Fr (some l)) 0 P (Exit.then (λa₁ w₁=>∃ w₂,(Instr.beginRound l).run P w₁=.ok () w₂/\bd.wpIn (Fr (some l)) 0 P (roundPost P l (Pst K w R)) a₁ w₂) (λ_ _ _=>False)) a w) :
  Cy P l pe [RE l fn D tm ps asx bd Γt js G (s,0)] R:=by
 intro vs M w Ft hM hf ho hnd hFM;obtain ⟨F1,F2,rfl,hx,hF2⟩:=ho;have hF2:F2=[]:=hF2;subst hF2;rw [HL] at hnd hFM ⊢;obtain ⟨x,how⟩:=hx undef;obtain ⟨Fa,Fb,hab,h1,how2⟩:=id how;obtain ⟨_,hl⟩:=h1 undef;obtain ⟨Fc,Fd,hcd,h2,_⟩:=id how2;obtain ⟨_,hT⟩:=h2 undef;have hvl:=hf.len;have hsz:vs.toArray.size=ps.size:=by rw [← K4 (xs:=ps),hp,JO,hvl,hpl]
 refine ⟨_,_,_,_,run_yield hl hsz,?_⟩;have hfold:(ps.zip vs.toArray).foldl (λtmps (x:Tmp×Value)=>tmps.setIfInBounds x.1 x.2) tm=(pts.zip vs).foldl (λtm (p:Nat×Value)=>tm.setIfInBounds p.1 p.2) tm:=by
  rw [← LX,Array.toList_zip,hp]
 refine roundIn_of_wpIn (F:=Fr none) trivial ?_;refine h ⟨λk=>M k/\k ∉ F1,λk=>k∈F1,[]⟩ w _ x _ ⟨λk hk=>hM k hk.1,λk hk hk'=>hk'.2 hk⟩ rfl rfl ?_;have base:StM ⟨λk=>M k/\k ∉ F1,λk=>k∈F1,[]⟩ w n (Ak (Jv pts pe Γt)) { tmps:=(ps.zip vs.toArray).foldl (λtmps (x:Tmp×Value)=>tmps.setIfInBounds x.1 x.2) tm,defers:=[] } w M (λ_=>[]):=by
  refine ⟨λt e he=>?_,λt _=>⟨by simp,λk hk=>by simp at hk⟩,λt s _ _ _ k hk=>by simp at hk,λk hk=>hk.1,hM,Ext.refl _ _,?_,rfl⟩
  ·show e.p [] M w (Array.getD _ t undef);rw [hfold];rcases Pr hpl he with ⟨i,h5,h6⟩ | ⟨h5,h6⟩
   ·have h7:=hf.get i e h6;have hi:i < vs.length:=by rw [hvl];exact (GE.1 h6).1
    have htn:t < n:=by
     have:=GJ.1 hpn t (GM h5);exact GD this
    rw [Zi pts vs tm i (vs.getD i undef) hpd h5 (by simp [hi]) (by rw [htm];exact htn)];exact h7
   ·rw [Tk pts vs tm h5];exact hT t e h6
  ·show Array.size _=n;rw [hfold,Ru,htm]
 obtain ⟨φ',h7,_⟩:=base.addG (ks:=KL :: KT :: ks) (by simp [hkl x]) hd how hnd (λq hq=>⟨hFM q hq,.inr hq⟩) (λt ht q hq=>by simp at hq);exact ⟨M,φ',by rw [Cm];exact h7⟩
theorem smR {f:FuncId} {ps:List Ent} {R:Ent} (h:Sp P f ps R):Sp P f ps R:=h
theorem gon {ops:Array Oper} {rest:List Oper} {d:Option Tmp} {j dj:Nat} {b want:Bool} {op:Op} {ty:TypeId} {pos:String} {aft:Array Edge}
  (hs:St M0 w0 n Γ a w) (hj:(ops[j]?).bind (·.dst)=some dj) (hl:Ak Γ dj=some (Va b)) (hb:b=want)
  (k:wpListIn (Fr rr) 0 P ops Q (⟨d,op,ty,pos,aft,none⟩ :: rest) a w):wpListIn (Fr rr) 0 P ops Q (⟨d,op,ty,pos,aft,some (j,want)⟩ :: rest) a w:=by
 obtain ⟨M,φ,h⟩:=hs;have hyb:=Bp hj (Va.bool (h.holds dj _ hl));unfold wpListIn at k ⊢;rw [if_pos (by simp [Region.wanted])] at k;rw [if_pos (by simp [Region.wanted,hyb,hb])];exact k
theorem Ws {ops:Array Oper} {rest:List Oper} {d j dj:Nat} {b want:Bool} {op:Op} {ty:TypeId} {pos:String} {aft:Array Edge}
  (hs:St M0 w0 n Γ a w) (hj:(ops[j]?).bind (·.dst)=some dj) (hl:Ak Γ dj=some (Va b)) (hb:b=!want) (hn:Nat.blt d n=true)
  (k:∀ a' w',St M0 w0 n ((d,Dd) :: Γ) a' w'->wpListIn (Fr rr) 0 P ops Q rest a' w'):wpListIn (Fr rr) 0 P ops Q (⟨some d,op,ty,pos,aft,some (j,want)⟩ :: rest) a w:=by
 obtain ⟨M,φ,h⟩:=hs;have hyb:=Bp hj (Va.bool (h.holds dj _ hl));have hne:b≠want:=by subst hb; cases want <;> simp
 unfold wpListIn;rw [if_neg (by simp [Region.wanted,hyb,hne])];exact ⟨λ_ _=>trivial,k _ _ (by unfold St;rw [Ah];exact h.gives ⟨Ext.refl _ _,[],G4,λk hk=>by simp at hk,rfl⟩ (GD hn))⟩
theorem pkF {c x y:Operand} {b:Bool} {e:Ent} (hc:Od Γ c (Va b)) (hb:b=false) (hy:Od Γ y e) [z:Zf e]:OR P (.pick c x y) ty Γ e:=by
 refine OR.val λρ M w r=>?_;obtain ⟨_,h⟩:=hc ρ M w r;obtain ⟨F,h2⟩:=hy ρ M w r;obtain rfl:=z.z h2;exact ⟨ρ y,λ_ _ _ _=>by simp only [execOp,Va.bool h,hb];rfl,h2⟩
theorem bfc {α:Type} {b:Bool} {x y:Option α} {r:α} (h:(bif b then x else y)=some r):(b=true/\x=some r)\/(b=false/\y=some r):=by
 cases b
 ·exact .inr ⟨rfl,h⟩
 ·exact .inl ⟨rfl,h⟩
def Aft (P:Program) (Q:Exit->Act->World->Prop) (js:List Code) (j:Nat) (a:Act) (w:World):Prop:=
 match jmp js j with
 | none=>Q .normal a w
 | some c=>c.wpIn (Fr none) 0 P Q a w
theorem af0 {js:List Code} {j:Nat} (hj:(j == 0)=true) (h:Q .normal a w):Aft P Q js j a w:=by
 have:j=0:=by simpa using hj
 subst this;exact h
theorem af1 {js:List Code} {j k:Nat} {c:Code} (hj:(j == k + 1)=true) (hc:js[k]?=some c) (h:c.wpIn (Fr none) 0 P Q a w):Aft P Q js j a w:=by
 have:j=k + 1:=by simpa using hj
 subst this;unfold Aft jmp;simp only [hc];exact h
theorem St.marked {D:Nat} (h:St M0 w0 n Γ a w):St (mf D M0) w0 n Γ { a with defers:=mark D :: a.defers } w:=by
 obtain ⟨M,φ,h⟩:=h;exact ⟨M,φ,h.holds,h.own,h.apart,h.sub,h.bd,h.fr,h.sz,by show _ :: a.defers=_ :: M0.ds;rw [h.df]⟩
def Zfs (Γt:Cx):Prop:=∀ t e,Ak Γt t=some e->∀ {F M w v},e.p F M w v->F=[]
theorem zs0:Zfs []:=λt e h=>by simp [Ak] at h
theorem zs1 {t:Nat} {e:Ent} {Γt:Cx} [z:Zf e] (h:Zfs Γt):Zfs ((t,e) :: Γt):=λs x hx=>by
 rw [Ah] at hx;unfold put at hx;split at hx
 ·cases hx;exact z.z
 ·exact h s x hx
theorem rfo {g:Operand} {ps:Array Tmp} {asx bd:Code} {f:FuncId} {fs cs:L9} {p1 p2:List Ent} {α X σ:Type} {pe:α->List Ent} {eo:Ent} {gb:α->σ×Nat->Option (Bool×(σ×Nat))} {r:σ×Nat} (Γt:Cx) (js:List Code) (G:σ->X->List Ent) (s0:σ) (x0:X) (KD KL KT:Nat) (ks:L8)
  (hM:Bd M0 w0) (hs:St M0 w0 n Γ a w) (hg:Od Γ g (Qv (fv f fs cs))) (h1:Vdl Γ fs p1) (h2:Vdl Γ cs p2) (hG:Kg (Ak Γ) ks (G s0 x0))
  (hd:dis (KD :: KL :: KT :: ks)=true) (hkl:∀ s x,ks.length=(G s x).length) (hΓt:∀ t e,Ak Γt t=some e->Ak Γ t=some e) (hz:Zfs Γt) (hKD:Ak Γ KD=none) (hKL:Ak Γ KL=none) (hKT:Ak Γ KT=none)
  (hit:∀ (E:σ×Nat->Ent) [∀ s,Gh (E s)] (_:∀ s,∃ T:List Ent,E s=Pk λx=>T ++ G s.1 x) (l:Nat),(∀ x s r',gb x s=some r'->Cy P l (pe x) [E s] (Rz (λ_:Unit=>Va r'.1) λ_=>[E r'.2]))->Cg P f (p1 ++ ([Qv (yv l)] ++ p2)) [E (s0,0)] (Rz (λ_:Unit=>eo) λ_=>[E r]))
  (hbody:∀ (l fn D:Nat) (tm:Array Value) (htm:tm.size=n) (x:α) (s:σ×Nat) (r':Bool×(σ×Nat)),gb x s=some r'->Cy P l (pe x) [RE l fn D tm ps asx bd Γt js G s] (Rz (λ_:Unit=>Va r'.1) λ_=>[RE l fn D tm ps asx bd Γt js G r'.2]))
  (hafter:∀ (D:Nat) (a:Act) (w:World) (x:X),St (mf D M0) w0 n ((KD,Dk D) :: Jv ks (G r.1 x) Γ) a w->Aft P Q js r.2 a w) :
  (Code.rangeFunc g ps asx bd).wpIn (Fr none) 0 P Q a w:=by
 refine wpIn_rangeFunc λfn _=>?_;obtain ⟨d1,d2⟩:=Az hd;obtain ⟨d3,d4⟩:=Az d2;obtain ⟨d5,d6⟩:=Az d4;obtain ⟨M,φ,hs0⟩:=id hs;have htn:a.tmps.size=n:=hs0.sz
 -- the two blocks
 have hs1:St M0 w0 n ((KD,Dk w.heap.size) :: Γ) a (w.alloc (.deferred (some []))):=by
  unfold St;rw [Ah];exact hs0.newb λM'=>⟨rfl,World.alloc_heap_new _ _⟩
 obtain ⟨M1,φ1,hs1⟩:=hs1;have hs2:St M0 w0 n ((KL,Lr (w.heap.size + 1) (rcd fn w.heap.size a.tmps ps asx bd .ready none)) :: (KD,Dk w.heap.size) :: Γ) a ((w.alloc (.deferred (some []))).alloc (.loop (rcd fn w.heap.size a.tmps ps asx bd .ready none))):=by
  have:=hs1.newb (k:=KL) (e:=Lr (w.heap.size + 1) (rcd fn w.heap.size a.tmps ps asx bd .ready none)) (o:=.loop (rcd fn w.heap.size a.tmps ps asx bd .ready none)) λM'=>⟨by simp,by have:=World.alloc_heap_new (w.alloc (.deferred (some []))) (.loop (rcd fn w.heap.size a.tmps ps asx bd .ready none));simpa using this⟩;unfold St;rw [Ah];exact this
 obtain ⟨M2,φ2,hs2⟩:=hs2;have Ej:∀ t e,Ak Γ t=some e->Ak ((KL,Lr (w.heap.size + 1) (rcd fn w.heap.size a.tmps ps asx bd .ready none)) :: (KD,Dk w.heap.size) :: Γ) t=some e:=λt e he=>by
  have hne1:t≠KL:=λh=>by subst h;rw [hKL] at he;cases he
  have hne2:t≠KD:=λh=>by subst h;rw [hKD] at he;cases he
  rw [Ah,Ah];simp only [put,if_neg hne1,if_neg hne2];exact he
 have hs3:=hs2.add1 (k:=KT) (e:=Tm a.tmps Γt) (F:=[]) ⟨rfl,λt e he=>by
   have h5:=hs2.holds t e (Ej t e (hΓt t e he));have h6:=hz t e he h5;rw [h6] at h5;exact h5⟩ G4 (λq hq=>by simp at hq) (λt _ _ q _ hq=>by simp at hq)
 rw [← Ah] at hs3;have kgΓ:∀ {ks:L8} {es:List Ent},(∀ k∈ks,k≠KT)->Kg (Ak Γ) ks es->Kg (Ak ((KT,Tm a.tmps Γt) :: (KL,Lr (w.heap.size + 1) (rcd fn w.heap.size a.tmps ps asx bd .ready none)) :: (KD,Dk w.heap.size) :: Γ)) ks es:=by
  intro ks
  induction ks with
  | nil=>intro es _ h;cases es with
   | nil=>exact trivial
   | cons=>exact h.elim
  | cons k ks ih=>
   intro es hne h;cases es with
   | nil=>exact h.elim
   | cons e es=>exact ⟨⟨by rw [Ah];simp only [put];rw [if_neg (hne k smp_)];exact Ej k e h.1.1,h.1.2⟩,ih (λq hq=>hne q (by simp [hq])) h.2⟩
 have hkg:Kg (Ak ((KT,Tm a.tmps Γt) :: (KL,Lr (w.heap.size + 1) (rcd fn w.heap.size a.tmps ps asx bd .ready none)) :: (KD,Dk w.heap.size) :: Γ)) (KL :: KT :: ks) (Lr (w.heap.size + 1) (rcd fn w.heap.size a.tmps ps asx bd .ready none) :: Tm a.tmps Γt :: G s0 x0):=
  ⟨⟨by rw [Ah,Ah];simp only [put];rw [if_neg (Ne.symm (d3 KT smp_))];simp,inferInstance⟩,⟨by rw [Ah];simp [put],inferInstance⟩,kgΓ (λk hk=>d5 k hk) hG⟩
 obtain ⟨o1,o2,o3,o4⟩:=Kg.owns hs3 hkg d2;have rd0:∀ x e,Od Γ x e->Od ((KT,Tm a.tmps Γt) :: (KL,Lr (w.heap.size + 1) (rcd fn w.heap.size a.tmps ps asx bd .ready none)) :: (KD,Dk w.heap.size) :: Γ) x e:=λx e h ρ M w r=>h ρ M w ⟨λt e he=>r.tmp t e (by
   have hne1:t≠KT:=λh=>by subst h;rw [hKT] at he;cases he
   rw [Ah];simp only [put,if_neg hne1];exact Ej t e he),r.con,r.fn,r.bd⟩
 have rd3:=hs3.rd;have rdΓ:Rd (Ak Γ) M2 ((w.alloc (.deferred (some []))).alloc (.loop (rcd fn w.heap.size a.tmps ps asx bd .ready none))) a.eval:=⟨λt e he=>rd3.tmp t e (by
   have hne1:t≠KT:=λh=>by subst h;rw [hKT] at he;cases he
   rw [Ah];simp only [put,if_neg hne1];exact Ej t e he),rd3.con,rd3.fn,rd3.bd⟩
 obtain ⟨_,_,hv⟩:=hg _ _ _ rdΓ;have hcg:=hit (λs=>RE (w.heap.size + 1) fn w.heap.size a.tmps ps asx bd Γt js G s) (λ_=>⟨[_,_],rfl⟩) (w.heap.size + 1) λx s r' hr=>hbody _ fn _ a.tmps htn x s r' hr;have how:Mh M2 ((w.alloc (.deferred (some []))).alloc (.loop (rcd fn w.heap.size a.tmps ps asx bd .ready none))) [RE (w.heap.size + 1) fn w.heap.size a.tmps ps asx bd Γt js G (s0,0)] ((KL :: KT :: ks).map (λt=>if t=KT then [] else φ2 t)).flatten:=
  ⟨_,[],by simp,λu=>⟨x0,o1⟩,rfl⟩
 have hcall:=hcg.2 (fs ++ ([yv (w.heap.size + 1)] ++ cs)) M2 _ _ hs3.bd ((h1 _ _ _ rdΓ).app (Rx.app (es:=[Qv (yv (w.heap.size + 1))]) ⟨⟨rfl,rfl⟩,trivial⟩ (h2 _ _ _ rdΓ))) how o2 (λk hk=>(o3 k hk).1);refine ⟨w.heap.size + 1,[mark w.heap.size],((w.alloc (.deferred (some []))).alloc (.loop (rcd fn w.heap.size a.tmps ps asx bd .ready none))),{ target:=.fn (.func f) cs.toArray,args:=fs.toArray ++ #[yv (w.heap.size + 1)] },((w.alloc (.deferred (some []))).alloc (.loop (rcd fn w.heap.size a.tmps ps asx bd .ready none))),f,(fs ++ ([yv (w.heap.size + 1)] ++ cs)).toArray,((w.alloc (.deferred (some []))).alloc (.loop (rcd fn w.heap.size a.tmps ps asx bd .ready none))),run_enterLoop_outer fn a.tmps ps asx bd,?_,λ_ _=>trivial,?_,Ww,DK.2 (Calls.mono hcall ?_)⟩
 ·simp only [resolve,rangeCall,hv,Deferred.ofValue];simp [Act.eval,GB]
 ·have hc:=hcg.1;cases hf:P.funcs[f]? with
  | none=>simp [cal,hf] at hc
  | some fn=>
   simp only [cal,hf,GH,HD] at hc;simp only [invoke,callFunc,F9,run_program,F7,hf,hc.2];have h2:fn.body.isNone=false:=by simpa using hc.1
   have h3:fs.toArray ++ #[yv (w.heap.size + 1)] ++ cs.toArray=(fs ++ ([yv (w.heap.size + 1)] ++ cs)).toArray:=by
    apply Array.ext';simp
   rw [h2,h3];rfl
 ·rintro en w' ⟨v,Fq,rfl,hx,hnd,hF,_,hp,ho⟩;obtain ⟨Fa,Fb,hFab,hre,hFb⟩:=ho;have hFb:Fb=[]:=hFb;subst hFb;rw [HL] at hFab;subst hFab;obtain ⟨x,hox⟩:=hre undef;have hc:=hs3.called0 (js:=KL :: KT :: ks) hM hkg d2 hx hnd hF hox (by simp [hkl r.1 x]) d2 λk hk=>hk;obtain ⟨h5,h6⟩:=hc.putRec (K:=KL) (l:=w.heap.size + 1) (r:=rcd fn w.heap.size a.tmps ps asx bd (stj r.2) (jmp js r.2)) (r':=rcd fn w.heap.size a.tmps ps asx bd .exhausted (jmp js r.2)) (by rw [Cm,Ms];simp [put]);have hst:(rcd fn w.heap.size a.tmps ps asx bd (stj r.2) (jmp js r.2)).state≠.busy:=by
   show stj r.2≠.busy;cases r.2 <;> simp [stj]
  refine ⟨_,_,run_endLoop h5 hst,?_⟩;have:=hafter w.heap.size { a with defers:=[mark w.heap.size] ++ a.defers } _ x (St.marked (StF.less h6 λt e he=>?_))
  ·exact this
  ·have hn:∀ t,t≠KL->t≠KT->∀ {e},Ak (Jv (KL :: KT :: ks) (Lr (w.heap.size + 1) (rcd fn w.heap.size a.tmps ps asx bd (stj r.2) (jmp js r.2)) :: Tm a.tmps Γt :: G r.1 x) ((KT,Tm a.tmps Γt) :: (KL,Lr (w.heap.size + 1) (rcd fn w.heap.size a.tmps ps asx bd .ready none)) :: (KD,Dk w.heap.size) :: Γ)) t=some e↔Ju ks (G r.1 x) (put KD (Dk w.heap.size) (Ak Γ)) t=some e:=by
    intro t ht1 ht2 e;rw [Cm,Ms,Ms];have e1:∀ (g:Mp),put KL (Lr (w.heap.size + 1) (rcd fn w.heap.size a.tmps ps asx bd (stj r.2) (jmp js r.2))) (put KT (Tm a.tmps Γt) g) t=g t:=λg=>by simp only [put,if_neg ht1,if_neg ht2]
    rw [e1];have hg:∀ e,t ∉ ks->((Ak ((KT,Tm a.tmps Γt) :: (KL,Lr (w.heap.size + 1) (rcd fn w.heap.size a.tmps ps asx bd .ready none)) :: (KD,Dk w.heap.size) :: Γ)) t=some e↔put KD (Dk w.heap.size) (Ak Γ) t=some e):=λe _=>by
     rw [Ah,Ah,Ah];simp only [put,if_neg ht1,if_neg ht2]
    exact ⟨Et (hkl r.1 x) (λe h=>(hg e h).1),Et (hkl r.1 x) (λe h=>(hg e h).2)⟩
   rw [Ah] at he ⊢;simp only [put] at he;by_cases hD:t=KD
   ·rw [if_pos hD] at he;have ht1:t≠KL:=by rw [hD];exact Ne.symm (d1 KL smp_)
    have ht2:t≠KT:=by rw [hD];exact Ne.symm (d1 KT smp_)
    simp only [put,if_neg ht1];refine (hn t ht1 ht2).2 ?_;have hnk:t ∉ ks:=λh=>d1 t (by simp [h]) hD;have:∀ {ks:L8} {es:List Ent} {g:Mp},t ∉ ks->Ju ks es g t=g t:=by
     intro ks
     induction ks with
     | nil=>intro es g _;unfold Ju;rfl
     | cons k ks ih=>
      intro es g hk;cases es with
      | nil=>unfold Ju;rfl
      | cons e es=>
       unfold Ju;simp only [GK,not_or] at hk;simp only [put,if_neg hk.1];exact ih hk.2
    rw [this hnk];simp only [put,if_pos hD];exact he
   ·rw [if_neg hD] at he;have hsome:∀ K',Ak Γ K'=none->K' ∉ ks->Ak (Jv ks (G r.1 x) Γ) K'=none:=by
     intro K' h7 h8;rw [Cm];have:∀ {ks:L8} {es:List Ent} {g:Mp},K' ∉ ks->Ju ks es g K'=g K':=by
      intro ks
      induction ks with
      | nil=>intro es g _;unfold Ju;rfl
      | cons k ks ih=>
       intro es g hk;cases es with
       | nil=>unfold Ju;rfl
       | cons e es=>
        unfold Ju;simp only [GK,not_or] at hk;simp only [put,if_neg hk.1];exact ih hk.2
     rw [this h8];exact h7
    have ht1:t≠KL:=λh=>by subst h;rw [hsome t hKL (λhm=>d3 t (by simp [hm]) rfl)] at he;cases he
    have ht2:t≠KT:=λh=>by subst h;rw [hsome t hKT (λhm=>d5 t hm rfl)] at he;cases he
    simp only [put,if_neg ht1];refine (hn t ht1 ht2).2 ?_;rw [Cm] at he;exact Et (hkl r.1 x) (λe _ h=>by simp only [put,if_neg hD];exact h) he
theorem lvm {K:Fm} {fn:Func} {R:Ending->World->Prop} {tm:Array Value} {ds:List Deferred} {D KD:Nat} (hs:St (mf D K) w0 n Γ a w) (hk:Ak Γ KD=some (Dk D)) (htm:a.tmps=tm) (hds:a.defers=ds)
  (h:∀ a w,a.tmps=tm->St K w0 n ((KD,Dd) :: Γ) a w->LeavesInM (Fr none) 0 P fn tm R a.defers .returning w):LeavesInM (Fr none) 0 P fn tm R ds .returning w:=by
 obtain ⟨M,φ,h0⟩:=hs;have hdf:=h0.df;rw [hds] at hdf;subst hdf;obtain ⟨hF,hc⟩:=h0.holds KD _ hk;have hlt:=(GA.1 hc).1;refine ⟨by simp,.inl ⟨D,_,rfl,run_takeDeferred hc,?_⟩⟩;refine h { a with defers:=K.ds } _ htm ?_;have hx:Ext (λk=>k=D) w (w.putObj D (.deferred none)):=⟨rfl,rfl,rfl,by simp,λq _ hq=>KM hq,GS _⟩;have hko:=h0.own KD (by rw [hk];rfl);have hDF:D∈φ KD:=by rw [hF];simp
 refine ⟨M,λt=>if t=KD then [] else φ t,λt e he=>?_,λt ht=>?_,λt s hts ht hs=>?_,h0.sub,λk hk=>HB (h0.bd k hk) hx.size,?_,h0.sz,rfl⟩
 ·rw [Ah] at he;unfold put at he;by_cases h3:t=KD
  ·subst h3;simp only [if_true,Option.some.injEq] at he ⊢;subst he;rfl
  ·simp only [if_neg h3] at he ⊢;refine Ent.st _ (h0.holds t e he) (hx.mono λk _ hk'=>?_);subst hk';exact ⟨(hko.2 _ hDF).1,λhm=>h0.apart t KD h3 (by rw [he];rfl) (by rw [hk];rfl) _ hm hDF⟩
 ·rw [Ah] at ht;unfold put at ht;by_cases h3:t=KD
  ·simp [h3]
  ·simp only [if_neg h3] at ht ⊢;exact h0.own t ht
 ·rw [Ah] at ht hs;unfold put at ht hs;by_cases h3:t=KD
  ·simp [h3]
  ·by_cases h4:s=KD
   ·simp [h4]
   ·simp only [if_neg h3,if_neg h4] at ht hs ⊢;exact h0.apart t s hts ht hs
 ·have hD2:=(hko.2 _ hDF).2;exact ⟨hx.os.trans h0.fr.os,hx.tape.trans h0.fr.tape,hx.output.trans h0.fr.output,G3 h0.fr.size hx.size,λk hk hb=>
   (hx.block k (HB hk h0.fr.size) (λe=>by subst e;exact hD2.elim (λh=>absurd hk om_) hb)).trans (h0.fr.block k hk hb),G3 h0.fr.dr hx.dr⟩
theorem rfn {g:Operand} {ps:Array Tmp} {asx bd:Code} {f:FuncId} {fs cs:L9} {p1 p2:List Ent} {α X σ:Type} {pe:α->List Ent} {eo:Ent} {gb:α->σ×Nat->Option (Bool×(σ×Nat))} {r:σ×Nat} (Γt:Cx) (js:List Code) (G:σ->X->List Ent) (s0:σ) (x0:X) (KD KL KT:Nat) (ks:L8)
  (hM:Bd M0 w0) (hs:St M0 w0 n Γ a w) (hg:Od Γ g (Qv (fv f fs cs))) (h1:Vdl Γ fs p1) (h2:Vdl Γ cs p2) (hG:Kg (Ak Γ) ks (G s0 x0))
  (hd:dis (KD :: KL :: KT :: ks)=true) (hkl:∀ s x,ks.length=(G s x).length) (hΓt:∀ t e,Ak Γt t=some e->Ak Γ t=some e) (hz:Zfs Γt) (hKD:Ak Γ KD=none) (hKL:Ak Γ KL=none) (hKT:Ak Γ KT=none)
  (hit:∀ (E:σ×Nat->Ent) [∀ s,Gh (E s)] (l:Nat),(∀ x s r',gb x s=some r'->Cy P l (pe x) [E s] (Rz (λ_:Unit=>Va r'.1) λ_=>[E r'.2]))->Cg P f (p1 ++ ([Qv (yv l)] ++ p2)) [E (s0,0)] (Rz (λ_:Unit=>eo) λ_=>[E r]))
  (hbody:∀ (l fn D:Nat) (tm:Array Value) (htm:tm.size=n) (x:α) (s:σ×Nat) (r':Bool×(σ×Nat)),gb x s=some r'->Cy P l (pe x) [RE l fn D tm ps asx bd Γt js G s] (Rz (λ_:Unit=>Va r'.1) λ_=>[RE l fn D tm ps asx bd Γt js G r'.2]))
  (hafter:∀ (D:Nat) (a:Act) (w:World) (x:X),St (mf D M0) w0 n ((KD,Dk D) :: Jv ks (G r.1 x) Γ) a w->Aft P Q js r.2 a w) :
  (Code.rangeFunc g ps asx bd).wpIn (Fr none) 0 P Q a w:=
 rfo Γt js G s0 x0 KD KL KT ks hM hs hg h1 h2 hG hd hkl hΓt hz hKD hKL hKT (λE _ _ l h=>hit E l h) hbody hafter
end
end Go.Pn
namespace Go.Pn
open Go Go.RowKit Go.Proofs
section
variable {P:Program} {M0:Fm} {w0:World} {n:Nat} {Γ:Cx} {Q:Exit->Act->World->Prop} {a:Act} {w:World} {ty:TypeId}
theorem lnm {κ ν:Type} [Rep κ] [Rep ν] [FV κ] [FV ν] {T K E KK:Nat} {x:Operand} {r:Nat} {m:List (κ×ν)} (hx:Od Γ x (Qv (.map (some r)))) (hk:Ak Γ KK=some (Om r m)) (hT:Gz P T=some (K,E)):OR P (.call { callee:=.builtin .len,args:=#[x],argTypes:=#[T] }) ty Γ (Va (m.length:Int)):=by
 refine OR.val λρ M w rd=>?_;obtain ⟨_,_,hv⟩:=hx ρ M w rd;obtain ⟨_,_,es,cl,hc,hm⟩:=rd.tmp _ _ hk;have hg:(getObj r).run P w=.ok (.map es cl) w:=MapKept.run_getObj_map hc;have hl:es.size=m.length:=by
  have:=congrArg List.length hm;simpa using this
 refine ⟨.int .i64 m.length,λ_ _ _ _=>?_,Va.mkInt⟩;simp [execOp,hg,hl,resolve,hv,invoke,builtin,Builtin.len_,run_underlying (Ca hT),goInt]
def Rw (cs:L9):Ent where
 p F M w v:=F=[]/\∃ b,v=.slice (some ⟨b,0,none⟩) cs.length cs.length/\Cls M w b 0 cs
 st h e:=let ⟨hF,b,hv,hc⟩:=h;⟨hF,b,hv,hc.ext (e.mono λ_ _ h=>h.1)⟩
 sb h s:=let ⟨hF,b,hv,hc⟩:=h;⟨hF,b,hv,hc.sub s⟩
theorem bsw {T e:Nat} {β:Type} [Rep β] [he:Ea P T e (List β)] {xs:List Operand} {cs:L9} {parts:Array (Nat×Operand)} {len:Nat}
  (h:Cdl Γ xs cs) (hp:parts.toList=prt 0 xs) (hl:cs.length=len) (hs:Nat.ble len 16777216=true):OR P (.buildSlice T len parts) ty Γ (Rw cs):=by
 refine OR.run λρ M w r=>?_;obtain ⟨h1,h2,h3⟩:=h.map r;obtain ⟨i,z,hi,hz,hsz,hb,hzs⟩:=he.inf;have hsz:i.size=1:=hsz;have hs':=GD hs;have hrun:(Instr.buildSlice T len (parts.map λ(i,x)=>(i,ρ x))).run P w=.ok (.slice (some ⟨w.heap.size,0,none⟩) len len) (w.alloc (.cells cs.toArray e)):=by
  have hpm:(parts.map λ(i,x)=>(i,ρ x)).toList=prt 0 (xs.map ρ):=by
   rw [JL,hp];have:∀ (l:List Operand) (k:Nat),List.map (λ(x:Nat×Operand)=>(x.1,ρ x.2)) (prt k l)=prt k (l.map ρ):=by
    intro l
    induction l with
    | nil=>intro k;rfl
    | cons x l ih=>intro k;simp [prt,ih]
   exact this xs 0
  have hfl2:(cs.map λc=>[c]).flatten=cs:=by
   clear hpm h h1 h2 h3 hl
   induction cs with
   | nil=>rfl
   | cons c cs ih=>simp [ih]
  have hfl:∀ zz:L9,zz.length=len * 1->Instr.fill (λi=>some (i * 1,1)) zz.toArray (prt 0 (xs.map ρ))=some cs.toArray:=by
   intro zz hzz;rw [h1];have hfl:=Js (sz:=1) (vs:=cs) (cs:=cs.map λc=>[c]) (z:=zz) (k:=0) (Tg h2) om_;rw [hfl2] at hfl;simp only [JA,HN,LJ,KP,JG] at hfl;rw [GT om_,HL] at hfl;simpa using hfl
  have hnot:¬ (len * 1 > 2 ^ 24):=by omega
  simp only [Instr.buildSlice,F9,run_underlying he.el,F7,sizeOf,typeInfo,run_program,hi,GB,hsz];rw [if_neg hnot];simp only [hpm];by_cases h0:len * 1=0
  ·have hz0:(Array.map (λx=>(#[]:Array Value)[x % (#[]:Array Value).size]!) (Array.range (len * 1)))=([]:L9).toArray:=by rw [h0];simp
   rw [if_pos h0];simp only [F9,GB,F7,hz0];rw [hfl [] (by rw [h0];rfl)];rfl
  ·have hz1:(Array.map (λx=>z.cells[x % z.cells.size]!) (Array.range (len * 1)))=((Array.map (λx=>z.cells[x % z.cells.size]!) (Array.range (len * 1))).toList).toArray:=LR.symm;rw [if_neg h0];simp only [zeroValue,F9,typeInfo,run_program,hi,hz,GB,F7];rw [hz1,hfl _ smp_];rfl
 refine ⟨.slice (some ⟨w.heap.size,0,none⟩) len len,w.alloc (.cells cs.toArray e),λ_ _ _ _=>by simp only [execOp,F9,LW,hrun,F7,GB],Ext.alloc _ _ _,[],G4,λk hk=>by simp at hk,rfl,w.heap.size,by rw [hl],λj v hj=>⟨λhm=>?_,?_⟩⟩
 ·rcases hm with hm | hm
  ·exact absurd (r.bd _ hm) om_
  ·simp at hm
 ·have:(w.alloc (.cells cs.toArray e)).heap[w.heap.size]?=some (.cells cs.toArray e):=heap_alloc_new w _;unfold World.cell?;rw [this];simpa using hj
def Rpl (Γ:Cx) {β:Type} [Rep β]:L9->List (List β)->Prop
 | [],[]=>True
 | c :: cs,x :: xs=>Rp Γ [c] x/\Rpl Γ cs xs
 | _,_=>False
theorem rl0 {β:Type} [Rep β]:Rpl Γ [] ([]:List (List β)):=trivial
theorem rl1 {β:Type} [Rep β] {c:Value} {cs:L9} {x:List β} {xs:List (List β)} (h:Rp Γ [c] x) (r:Rpl Γ cs xs):Rpl Γ (c :: cs) (x :: xs):=⟨h,r⟩
theorem Rpl.chk {β:Type} [Rep β] {ρ:Operand->Value} {M:Nat->Prop} {w:World} (rd:Rd (Ak Γ) M w ρ):∀ {cs:L9} {xs:List (List β)},Rpl Γ cs xs->Chk M w cs xs/\xs.length=cs.length
 | [],[],_=>⟨rfl,rfl⟩
 | c :: cs,x :: xs,⟨h,r⟩=>by
  obtain ⟨h1,h2⟩:=r.chk rd;exact ⟨⟨[c],cs,rfl,h ρ M w rd,h1⟩,by simp [h2]⟩
 | [],_ :: _,h=>h.elim
 | _ :: _,[],h=>h.elim
theorem rwd {β:Type} [Rep β] {x:Operand} {cs:L9} {xss:List (List β)} (hx:Od Γ x (Rw cs)) (h:Rpl Γ cs xss):Od Γ x (Va xss):=λρ M w r=>by
 obtain ⟨_,_,b,hv,hc⟩:=hx ρ M w r;obtain ⟨h1,h2⟩:=h.chk r;exact ⟨[],by rw [hv,← h2];exact Va.mkList ⟨_,0,by rw [JA],.inr ⟨b,0,rfl,h1.row hc⟩⟩⟩
@[reducible] def Sm {α β:Type} (r:α ⊕ β) (E0:α->Ent) (E1:β->Ent):Ent:=match r with | .inl a=>E0 a | .inr b=>E1 b
end
end Go.Pn
namespace Go.Pn
open Go Go.RowKit
variable {rr:Option Nat}
section
variable {P:Program} {M0:Fm} {w0:World} {n:Nat} {Γ:Cx} {Q:Exit->Act->World->Prop} {a:Act} {w:World} {ty:TypeId}
def Cda (Γ:Cx):List Operand->List L9->Prop
 | [],[]=>True
 | x :: xs,c :: cs=>Od Γ x (Qa c)/\Cda Γ xs cs
 | _,_=>False
theorem ca0:Cda Γ [] []:=trivial
theorem ca1 {x:Operand} {c:L9} {xs:List Operand} {cs:List L9} (h:Od Γ x (Qa c)) (r:Cda Γ xs cs):Cda Γ (x :: xs) (c :: cs):=⟨h,r⟩
theorem Cda.map {ρ:Operand->Value} {M:Nat->Prop} {w:World} (rd:Rd (Ak Γ) M w ρ):∀ {xs:List Operand} {cs:List L9},Cda Γ xs cs->xs.map ρ=cs.map (λc=>.agg c.toArray)/\(∀ c∈cs.flatten,c.oneCell'=true)/\xs.length=cs.length
 | [],[],_=>⟨rfl,λc hc=>by simp at hc,rfl⟩
 | _ :: _,_ :: _,⟨h,r⟩=>by
  obtain ⟨_,_,hv,h1⟩:=h ρ M w rd;obtain ⟨r1,r2,r3⟩:=r.map rd;refine ⟨by rw [GQ,hv,r1];rfl,λc hc=>?_,by simp [r3]⟩;rw [L4] at hc;rcases GN.1 hc with hc | hc
  ·exact h1 c hc
  ·exact r2 c hc
theorem Za {sz:Nat}:∀ {cs:List L9},(∀ c∈cs,c.length=sz)->LitC sz (cs.map λc=>.agg c.toArray) cs
 | [],_=>trivial
 | c :: cs,h=>⟨rfl,h c (GO ..),Za λd hd=>h d (GR _ hd)⟩
theorem blyA {T e:Nat} {len sz:Nat} {parts:Array (Nat×Operand)} {xs:List Operand} {css:List L9} {cs z:L9} (hp:parts.toList=prt 0 xs) (h:Cda Γ xs css) (hT:P.underlying T=some (.array len e)) (hz:(P.info? T).map (·.zero)=some (some (.agg z.toArray))) (he:(P.info? e).map (·.size)=some sz) (hl:z.length=css.length * sz)
  (hs:css.all (λc=>c.length == sz)=true) (hcs:css.flatten=cs) :
  OR P (.build T parts) ty Γ (Qa cs):=by
 refine OR.val λρ M w r=>?_;obtain ⟨h1,h2,h3⟩:=h.map r;refine ⟨.agg cs.toArray,λ_ _ _ _=>?_,rfl,rfl,by rw [← hcs];exact h2⟩;cases hi:P.info? T with
 | none=>simp [hi] at hz
 | some i=>
  cases hie:P.info? e with
  | none=>simp [hie] at he
  | some ie=>
   simp only [hi,hie,GZ,Option.some.injEq] at hz he;have hpm:(parts.map λ(i,x)=>(i,ρ x)).toList=prt 0 (css.map λc=>.agg c.toArray):=by
    rw [JL,hp];have:∀ (l:List Operand) (k:Nat),List.map (λ(x:Nat×Operand)=>(x.1,ρ x.2)) (prt k l)=prt k (l.map ρ):=by
     intro l
     induction l with
     | nil=>intro k;rfl
     | cons x l ih=>intro k;simp [prt,ih]
    rw [← h1];exact this xs 0
   have hsz:∀ c∈css,c.length=sz:=λc hc=>by simpa using GJ.1 hs c hc
   have hfl:=Js (sz:=sz) (vs:=css.map λc=>.agg c.toArray) (cs:=css) (z:=z) (k:=0) (Za hsz) (by simp [hl]);simp only [JA,LJ,KP,JG,JJ] at hfl;rw [GT om_,HL,hcs] at hfl;simp only [execOp,Instr.build,zeroValue,typeInfo,F9,run_program,F7,hi,GB,hz,run_underlying hT,sizeOf,hie,he,Value.cells,hpm];rw [hfl];rfl
theorem D7 {T sz:TypeId} {xs:Array Value} {o:Nat} {w:World} (h:(P.underlying T).map Cr=some true) (hs:(P.info? T).map (·.size)=some sz):(part T xs o).run P w=.ok (.agg (xs.extract o (o + sz))) w:=by
 have hr:(sizeOf T).run P w=.ok sz w:=by
  cases hie:P.info? T with
  | none=>simp [hie] at hs
  | some i=>simp [hie] at hs;simp [sizeOf,typeInfo,hie,hs]
 simp only [part,F9,Ty.run_agg h,F7];simp [hr]
theorem aixA {T e len sz:Nat} {x i:Operand} {m:Int} {j:Nat} {cs:L9} {cols:List L9} (h:Od Γ x (Qa cs)) (hi:Od Γ i (Va m)) (hT:P.underlying T=some (.array len e)) (he:(P.info? e).map (·.size)=some sz) (ha:(P.underlying e).map Cr=some true)
  (hc:((List.range len).map λk=>(cs.drop (k * sz)).take sz)=(List.range len).map λk=>cols.map (Qo k)) (hy:idx (List.range len) m=some j):OR P (.index T x i) ty Γ (Qa (cols.map (Qo j))):=by
 refine OR.val λρ M w r=>?_;obtain ⟨_,_,hv,h1⟩:=h ρ M w r;obtain ⟨_,h2⟩:=hi ρ M w r;obtain ⟨hjl,h0,hlt,hj⟩:=idxr hy;have hr:(sizeOf e).run P w=.ok sz w:=by
  cases hie:P.info? e with
  | none=>simp [hie] at he
  | some i=>simp [hie] at he;simp [sizeOf,typeInfo,hie,he]
 have hcj:(cs.drop (j * sz)).take sz=cols.map (Qo j):=by
  have:=congrArg (λl=>l[j]?) hc;simpa [GW,HR hjl] using this
 have hp:=D7 (P:=P) (xs:=cs.toArray) (o:=j * sz) (w:=w) ha he;refine ⟨.agg (cs.toArray.extract (j * sz) (j * sz + sz)),λ_ _ _ _=>?_,rfl,?_,?_⟩
 ·simp only [execOp,hv,Va.int h2,Instr.index,F9,asIntOf,GB,F7,run_underlying hT];simp [h0,hlt,hr,hj,hp]
 ·rw [← hcj];congr 1;simp [List.extract_eq_take_drop]
 ·rw [← hcj];exact λc hc=>h1 c (LV (LU hc))
theorem qsi {x:Operand} {j:Nat} {cs:L9} {xs:L6} (h:Od Γ x (Qv (Qo j cs))) (hc:cs=xs.map λz=>.int .i64 z) (hj:j < xs.length):Od Γ x (Va (xs.getD j 0)):=λρ M w r=>by
 obtain ⟨F,hF,hv⟩:=h ρ M w r;refine ⟨F,hF,[.int .i64 (xs.getD j 0)],?_,rfl⟩;rw [hv,hc];simp [Qo,hj,mk]
theorem fldq {S k off:Nat} {x:Operand} {cs:L9} {c:Value} (h:Od Γ x (Qa cs)) (hf:(match P.underlying S with | some (.struct fs)=>(fs[k]?).map λf=>(f.offset,(P.underlying f.type).map Cr) | _=>none)=some (off,some false)) (hc:cs[off]?=some c):OR P (.field S x k) ty Γ (Qv c):=by
 refine OR.val λρ M w r=>?_;obtain ⟨_,_,hv,_⟩:=h ρ M w r;refine ⟨c,λ_ _ _ _=>?_,rfl,rfl⟩;cases hu:P.underlying S with
 | none=>simp [hu] at hf
 | some d=>
  cases d with
  | struct fs=>
   simp only [hu] at hf;cases hk:fs[k]? with
   | none=>simp [hk] at hf
   | some f=>
    simp only [hk,GZ,Option.some.injEq,Prod.mk.injEq] at hf;obtain ⟨h1,h2⟩:=hf;subst h1;have hp:=Br (P:=P) (T:=f.type) (xs:=cs.toArray) (o:=f.offset) (v:=c) (w:=w) h2 (by simpa using hc);simp only [execOp,hv,Instr.field,F9,run_underlying hu,F7,hk,asAgg,GB,hp]
  | _=>simp [hu] at hf
end
end Go.Pn
namespace Go.Pn
open Go Go.RowKit
variable {rr:Option Nat}
def lsr (lo hi len:Int):Option (Nat×Nat):=if 0<=lo/\lo<=hi/\hi<=len then some (lo.toNat,hi.toNat) else none
def Sbp (c:Value) (lo hi:Nat):Ent where
 p F _ _ v:=F=[]/\lo<=hi/\∃ A len cap cap',c=.slice A len cap/\hi<=len/\((lo=hi/\∃ A',v=.slice A' 0 cap')\/∃ g,A=some ⟨g,0,none⟩/\v=.slice (some ⟨g,lo,none⟩) (hi - lo) (cap' + (hi - lo)))
 st h _:=h
 sb h _:=h
instance {c:Value} {lo hi:Nat}:Zf (Sbp c lo hi):=⟨λh=>h.1⟩
section
variable {P:Program} {M0:Fm} {w0:World} {n:Nat} {Γ:Cx} {Q:Exit->Act->World->Prop} {a:Act} {w:World} {ty:TypeId}
end
end Go.Pn
namespace Go.Pn
open Go Go.RowKit
variable {rr:Option Nat}
def Si (b:Nat) (s:MA) (pos:Int):Ent where
 p F _ w _:=F=[b]/\0<=pos/\w.heap[b]?=some (.stringIter s pos.toNat)
 st h e:=by
  obtain ⟨rfl,h0,h⟩:=h;exact ⟨rfl,h0,by rw [e.block b (GA.1 h).1 smp_];exact h⟩
 sb h _:=h
def SI (s:MA):Ent where
 p F M w v:=∃ b,v=pb b 0/\(Si b s 0).p F M w v
 st h e:=let ⟨b,hv,h⟩:=h;⟨b,hv,(Si b s 0).st h e⟩
 sb h s':=let ⟨b,hv,h⟩:=h;⟨b,hv,(Si b s 0).sb h s'⟩
def srn (s:MA) (pos:Int):Kd .i32:=⟨((Utf8.decode s pos.toNat).1:Nat)⟩
def snx (s:MA) (pos:Int):Int:=if pos < s.size then pos + (Utf8.decode s pos.toNat).2 else pos
def Nx (s:MA) (pos:Int):Ent where
 p F _ _ v:=F=[]/\(pos < s.size->v=.tuple #[.bool true,.int .i64 pos,.int .i32 (Utf8.decode s pos.toNat).1])/\(¬ pos < s.size->v=.tuple #[.bool false])
 st h _:=h
 sb h _:=h
section
variable {P:Program} {M0:Fm} {w0:World} {n:Nat} {Γ:Cx} {Q:Exit->Act->World->Prop} {a:Act} {w:World} {ty:TypeId}
theorem rgs {T:TypeId} {x:Operand} {s:MA} (hx:Od Γ x (Va s)) (hT:P.underlying T=some .string):OR P (.range T x) ty Γ (SI s):=by
 refine OR.run λρ M w r=>?_;obtain ⟨_,hv⟩:=hx ρ M w r;refine ⟨pb w.heap.size 0,w.alloc (.stringIter s 0),λ_ _ _ _=>?_,Ext.alloc _ _ _,[w.heap.size],by simp,λk hk=>?_,w.heap.size,rfl,rfl,LB _,heap_alloc_new w _⟩
 ·simp only [execOp,Va.str hv,F9,run_range_string w T s hT,F7,GB];rfl
 ·simp at hk;subst hk;exact ⟨Nat.le_refl _,by simp⟩
theorem sqsi {ops:Array Oper} {rest:List Oper} {d:Nat} {op:Op} {pos:String} {aft:Array Edge} {s:MA} (K:Nat)
  (hs:St M0 w0 n Γ a w) (ho:OR P op ty Γ (SI s)) (hn:Nat.blt d n=true) (hdk:Nat.beq d K=false)
  (k:∀ b a' w',St M0 w0 n ((d,Qv (pb b 0)) :: (K,Si b s 0) :: (d,SI s) :: Γ) a' w'->wpListIn (Fr rr) 0 P ops Q rest a' w'):wpListIn (Fr rr) 0 P ops Q (⟨some d,op,ty,pos,aft,none⟩ :: rest) a w:=
 sq hs ho hn λa' w' s'=>by
  obtain ⟨M,φ,h⟩:=s';obtain ⟨b,hv,hb⟩:=h.holds d (SI s) (by simp [Ak]);refine k b a' w' ?_;unfold St;rw [Ej];exact h.split (by simp [Ak]) (G6 hdk) ⟨rfl,hv⟩ hb
theorem nxs {ops:Array Oper} {rest:List Oper} {d K:Nat} {x:Operand} {T:TypeId} {p:String} {aft:Array Edge} {b:Nat} {s:MA} {pos:Int}
  (hs:St M0 w0 n Γ a w) (hx:Od Γ x (Qv (pb b 0))) (hk:Ak Γ K=some (Si b s pos)) (hn:Nat.blt d n=true) (hdk:Nat.beq d K=false)
  (k:∀ a' w',St M0 w0 n ((d,Nx s pos) :: (K,Si b s (snx s pos)) :: Γ) a' w'->wpListIn (Fr rr) 0 P ops Q rest a' w'):wpListIn (Fr rr) 0 P ops Q (⟨some d,.next x true,T,p,aft,none⟩ :: rest) a w:=by
 refine wpListIn_plain rfl λKc hK=>?_;obtain ⟨M,φ,h⟩:=hs;obtain ⟨_,_,hv⟩:=hx _ _ _ h.rd;obtain ⟨hF,h0,hc⟩:=h.holds K _ hk;have hlt:=(GA.1 hc).1;by_cases hp:pos < s.size
 ·have hp':pos.toNat < s.size:=by omega
  have hrun:(Instr.next (pb b 0) true T).run P w=.ok (.tuple #[.bool true,.int .i64 pos,.int .i32 (Utf8.decode s pos.toNat).1]) { w with heap:=w.heap.setIfInBounds b (.stringIter s (pos.toNat + (Utf8.decode s pos.toNat).2)) }:=by
   simp only [Instr.next,getObj,setObj,F9,Sem.run,hc,Result.andThen,hp',if_true];simp only [goInt,Sem.run];have:((pos.toNat:Nat):Int)=pos:=by omega
   simp [this]
  refine Bc.upon (Bc.val (v:=.tuple #[.bool true,.int .i64 pos,.int .i32 (Utf8.decode s pos.toNat).1]) (w':={ w with heap:=w.heap.setIfInBounds b (.stringIter s (pos.toNat + (Utf8.decode s pos.toNat).2)) }) ?_ ?_)
  ·simp only [execOp,hv,F9,hrun,F7,GB]
  ·refine hK _ _ (k _ _ ?_);have h1:StF M0 w0 n (put K (Si b s (snx s pos)) (Ak Γ)) a { w with heap:=w.heap.setIfInBounds b (.stringIter s (pos.toNat + (Utf8.decode s pos.toNat).2)) }:=by
    refine h.write (b:=b) (by rw [hk];rfl) (by rw [hF];simp) ⟨rfl,rfl,rfl,by simp,λq _ hq=>by simp only [HC];rw [if_neg (λe=>hq e.symm)],GS _⟩ ⟨hF,?_,?_⟩
    ·unfold snx;rw [if_pos hp];omega
    ·have e1:(snx s pos).toNat=pos.toNat + (Utf8.decode s pos.toNat).2:=by unfold snx;rw [if_pos hp];omega
     rw [e1];simp only [HC,if_true];rw [if_pos hlt]
   obtain ⟨M',φ',h1⟩:=h1;unfold St;rw [Ah,Ah];exact h1.gives ⟨Ext.refl _ _,[],G4,λq hq=>by simp at hq,rfl,λ_=>rfl,λhh=>absurd hp hh⟩ (GD hn)
 ·have hp':¬ pos.toNat < s.size:=by omega
  have hrun:(Instr.next (pb b 0) true T).run P w=.ok (.tuple #[.bool false]) w:=by
   simp [Instr.next,getObj,Sem.run,hc,hp']
  refine Bc.upon (Bc.val (v:=.tuple #[.bool false]) (w':=w) ?_ ?_)
  ·simp only [execOp,hv,F9,hrun,F7,GB]
  ·refine hK _ _ (k _ _ ?_);have e1:snx s pos=pos:=by unfold snx;rw [if_neg hp]
   rw [e1];have h1:StF M0 w0 n (put K (Si b s pos) (Ak Γ)) a w:=StF.less ⟨M,φ,h⟩ λt e he=>by
    unfold put at he;split at he
    ·rename_i ht;rw [ht,hk];exact he
    ·exact he
   obtain ⟨M',φ',h1⟩:=h1;unfold St;rw [Ah,Ah];exact h1.gives ⟨Ext.refl _ _,[],G4,λq hq=>by simp at hq,rfl,λhh=>absurd hh hp,λ_=>rfl⟩ (GD hn)
theorem nx0 {x:Operand} {s:MA} {pos:Int} (h:Od Γ x (Nx s pos)):OR P (.extract x 0) ty Γ (Va (decide (pos < (s.size:Int)))):=OR.val λρ M w r=>by
 obtain ⟨_,_,h1,h2⟩:=h ρ M w r;by_cases hp:pos < s.size
 ·exact ⟨.bool true,λ_ _ _ _=>by simp only [execOp,h1 hp];rfl,by rw [decide_eq_true hp];exact Va.mkBool⟩
 ·exact ⟨.bool false,λ_ _ _ _=>by simp only [execOp,h2 hp];rfl,by rw [decide_eq_false hp];exact Va.mkBool⟩
theorem nx1 {x:Operand} {s:MA} {pos:Int} (h:Od Γ x (Nx s pos)) (hb:decide (pos < (s.size:Int))=true):OR P (.extract x 1) ty Γ (Va pos):=OR.val λρ M w r=>by
 obtain ⟨_,_,h1,_⟩:=h ρ M w r;have hp:pos < s.size:=by simpa using hb
 exact ⟨.int .i64 pos,λ_ _ _ _=>by simp only [execOp,h1 hp];rfl,Va.mkInt⟩
theorem nx2 {x:Operand} {s:MA} {pos:Int} (h:Od Γ x (Nx s pos)) (hb:decide (pos < (s.size:Int))=true):OR P (.extract x 2) ty Γ (Va (srn s pos)):=OR.val λρ M w r=>by
 obtain ⟨_,_,h1,_⟩:=h ρ M w r;have hp:pos < s.size:=by simpa using hb
 exact ⟨.int .i32 (Utf8.decode s pos.toNat).1,λ_ _ _ _=>by simp only [execOp,h1 hp];rfl,Ik.mkv (x:=srn s pos)⟩
end
end Go.Pn
namespace Go.Pn
open Go Go.RowKit
variable {rr:Option Nat}
def BuAt (T e b:Nat) (v:Value) (s:L9) (w:World):Prop:=
 (∃ p,(p=.pointer none\/p=pb b 0)/\w.heap[b]?=some (.cells #[p,v] T (0,0)))/\w.ownsRow 0 e 1 v s.length s/\v.ownBlock≠some b
def Bw (T e b:Nat) (s:MA):Ent where
 p F _ w _:=∃ v:Value,F=b :: v.ownBlock.toList/\BuAt T e b v (Lib.strCells s) w
 st {_ _ w _ _} h x:=by
  obtain ⟨v,rfl,⟨p,hp,hb⟩,ho,hne⟩:=h;have hl:b < w.heap.size:=(GA.1 hb).1;refine ⟨v,rfl,⟨p,hp,?_⟩,Ui ho λk hk=>?_,hne⟩
  ·rw [x.block b hl smp_];exact hb
  ·exact x.block k (ho.lt k hk).2 λhm=>hm.2 (by simp [hk])
 sb h _:=h
instance {T e b:Nat} {s:MA}:Gh (Bw T e b s):=⟨λh _=>h⟩
def MBu (T e:Nat):Ent where
 p F M w v:=∃ b,v=pb b 0/\(Bw T e b .empty).p F M w v
 st h x:=let ⟨b,hv,h⟩:=h;⟨b,hv,(Bw T e b .empty).st h x⟩
 sb h s:=let ⟨b,hv,h⟩:=h;⟨b,hv,(Bw T e b .empty).sb h s⟩
section
variable {P:Program} {M0:Fm} {w0:World} {n:Nat} {Γ:Cx} {Q:Exit->Act->World->Prop} {a:Act} {w:World} {ty:TypeId}
theorem albu {T e:TypeId} (hz1:(P.info? T).map (·.zero)=some (some (.agg #[.pointer none,.slice none 0 0]))):OR P (.alloc T) ty Γ (MBu T e):=by
 refine OR.run λρ M w r=>?_;refine ⟨.pointer (some ⟨w.heap.size,0,none⟩),w.alloc (.cells #[.pointer none,.slice none 0 0] T),λ_ _ _ _=>?_,Ext.alloc _ _ _,[w.heap.size],by simp,λk hk=>?_,w.heap.size,rfl,.slice none 0 0,rfl,⟨_,.inl rfl,Bz _ _⟩,World.ownsRow_nil _ _ _ _,by simp [Value.ownBlock]⟩
 ·cases hi:P.info? T with
  | none=>simp [hi] at hz1
  | some i=>
   simp only [hi,GZ,Option.some.injEq] at hz1;simp only [execOp,Instr.alloc,zeroValue,typeInfo,F9,run_program,F7,hi,GB,hz1,newVar,newRow,run_newObj];rfl
 ·simp at hk;subst hk;exact ⟨Nat.le_refl _,by simp⟩
theorem St.openBu {d T e:Nat} (h:St M0 w0 n Γ a w) (k:Nat) (hd:Ak Γ d=some (MBu T e)) (hne:Nat.beq d k=false):∃ b,St M0 w0 n ((d,Qv (pb b 0)) :: (k,Bw T e b .empty) :: Γ) a w:=by
 obtain ⟨M,φ,h⟩:=h;obtain ⟨b,hv,hb⟩:=h.holds d _ hd;refine ⟨b,?_⟩;unfold St;rw [Ej];exact h.split (by rw [hd];rfl) (G6 hne) ⟨rfl,hv⟩ hb
theorem sqbu {ops:Array Oper} {rest:List Oper} {d:Nat} {op:Op} {pos:String} {aft:Array Edge} {T e:Nat} (K:Nat)
  (hs:St M0 w0 n Γ a w) (ho:OR P op ty Γ (MBu T e)) (hn:Nat.blt d n=true) (hdk:Nat.beq d K=false)
  (k:∀ b a' w',St M0 w0 n ((d,Qv (pb b 0)) :: (K,Bw T e b .empty) :: (d,MBu T e) :: Γ) a' w'->wpListIn (Fr rr) 0 P ops Q rest a' w'):wpListIn (Fr rr) 0 P ops Q (⟨some d,op,ty,pos,aft,none⟩ :: rest) a w:=
 sq hs ho hn λa' w' s=>let ⟨b,s⟩:=s.openBu K (by simp [Ak]) hdk;k b a' w' s
theorem bu_ext {w w':World} {b:Nat} {v:Value} (hg:w.grownBy w' v.ownBlock) (hd:w.drawn<=w'.drawn):Ext (λk=>k=b\/v.ownBlock=some k) w w':=
 ⟨hg.os,hg.tape,hg.output,hg.size,λk hk hn=>hg.block k hk λe=>hn (.inr e.symm),hd⟩
theorem buc {f T e n0:Nat} {ps:List Ent} {vs0:L9->L9} {R:Value} {s r:MA} (hc:cal P f=true)
  (hps:∀ {M:Nat->Prop} {w:World} {vs:L9},Rx M w (Qv (pb n0 0) :: ps) vs->vs=vs0 vs)
  (h:∀ (vs:L9) (v:Value) (w:World) (M:Nat->Prop),Rx M w (Qv (pb n0 0) :: ps) vs->BuAt T e n0 v (Lib.strCells s) w->Calls P f (vs0 vs).toArray w λen w'=>en=.returned R/\Ext (λk=>k=n0\/v.ownBlock=some k) w w'/\∃ v',BuAt T e n0 v' (Lib.strCells r) w'/\∀ k,v'.ownBlock=some k->v.ownBlock=some k\/w.heap.size<=k) :
  Cg P f (Qv (pb n0 0) :: ps) [Bw T e n0 s] (Rz (λ_:Unit=>Dd) (λ_=>[Bw T e n0 r])):=by
 refine ⟨hc,λvs M w Ft hM hf ho hnd hFM=>?_⟩;obtain ⟨F1,_,rfl,hown,rfl⟩:=ho;obtain ⟨v,rfl,hb⟩:=hown undef;rw [hps hf];refine (h vs v w M hf hb).mono ?_;rintro en w' ⟨rfl,hx,v',hb',hk⟩;refine ⟨_,n0 :: v'.ownBlock.toList,rfl,hx.mono λk _ hk=>?_,?_,λk hk'=>?_,(),rfl,n0 :: v'.ownBlock.toList,[],by simp,λu=>⟨v',rfl,hb'⟩,rfl⟩
 ·rcases hk with rfl | hk
  ·simp
  ·simp [hk]
 ·cases hv:v'.ownBlock with
  | none=>simp
  | some k=>
   have:=hb'.2.2;rw [hv] at this;simp only [Option.toList_some,List.nodup_cons,JQ,List.not_mem_nil,not_false_eq_true,G4,and_self,and_true];intro e;exact this (by rw [e])
 ·simp only [GK,Option.mem_toList] at hk';rcases hk' with rfl | hk'
  ·exact .inl smp_
  ·rcases hk k hk' with h1 | h1
   ·exact .inl (by simp [h1])
   ·exact .inr ⟨h1,(hb'.2.1.lt k hk').2⟩
end
end Go.Pn
namespace Go.Proofs
open Go Go.RowKit
theorem cc_used (b:Nat) (w:World) (h0:w.cell? ⟨b,0,none⟩=some (.pointer (some ⟨b,0,none⟩))) :
  Calls Tryz.prog 124 #[.pointer (some ⟨b,0,none⟩)] w λe w'=>e=.returned (.tuple #[])/\w'=w:=by
 obtain ⟨j,hj,_⟩:=J3.1 (show (Tryz.prog.info? 165).map (·.size)=some 2 by kernel_rfl)
 go_enter Tryz.func124,Tryz.ntmps124
 go_wp2
 rw [Lib.run_neq_ptr_same w _ Tryz.underlying162 hj]
 go_wp2
 go_end0
 exact ⟨rfl,rfl⟩
theorem E7 (b:Nat) (w:World) (h0:w.cell? ⟨b,0,none⟩=some (.pointer none)) (hsh:w.shape? b=some (165,2)) (hfz:w.frozen? ⟨b,0,none⟩=false) :
  Calls Tryz.prog 124 #[.pointer (some ⟨b,0,none⟩)] w λe w'=>e=.returned (.tuple #[])/\w'=w.setCell ⟨b,0,none⟩ (.pointer (some ⟨b,0,none⟩)):=by
 obtain ⟨j,hj,hjs⟩:=J3.1 (show (Tryz.prog.info? 165).map (·.size)=some 2 by kernel_rfl)
 go_enter Tryz.func124,Tryz.ntmps124
 go_wp2
 rw [Lib.run_to_unsafe w ⟨b,0,none⟩ Tryz.underlying162 Tryz.underlying249 hj (by rw [hjs];decide) hsh (Nat.zero_lt_succ 1)];simp only [Result.andThen];rw [Oper.upon_value]
 go_wp2
 rw [run_callFunc_extern Tryz.func176 Go.Pn.kr_ Go.Pn.kr_ Go.Pn.kr_ (e:=Extern.AbiNoEscape.same) Go.Pn.kr_];rw [Lib.run_noEscape];simp only [Result.andThen];rw [Oper.upon_value]
 go_wp2
 rw [Lib.run_from_unsafe w ⟨b,0,none⟩ Tryz.underlying249 Tryz.underlying162 hj hsh Go.Pn.kr_];simp only [Result.andThen];rw [Oper.upon_value]
 go_wp2
 go_end0
 exact ⟨rfl,rfl⟩
theorem FY (b:Nat) (v:Value) (s:L9) (w:World) (h:Pn.BuAt 165 5 b v s w) :
  Calls Tryz.prog 124 #[.pointer (some ⟨b,0,none⟩)] w λe w'=>e=.returned (.tuple #[])/\w'.heap[b]?=some (.cells #[Pn.pb b 0,v] 165 (0,0))/\w'.ownsRow 0 5 1 v s.length s/\v.ownBlock≠some b/\Pn.Ext (λk=>k=b) w w':=by
 obtain ⟨⟨p,rfl | rfl,hb⟩,ho,hne⟩:=h
 ·have ha:Lib.BuilderAt 165 5 0 b (.pointer none) s w:=⟨Nat.zero_le _,v,hb,ho,hne⟩;refine (E7 b w ha.cell0 ha.shape ha.frozen0).mono ?_;rintro e w' ⟨rfl,rfl⟩;refine ⟨rfl,by simp [World.setCell,H8,hb,Pn.pb],?_,hne,Pn.Ext.setCell w ⟨b,0,none⟩ _ rfl⟩;exact ho.kept (row:=some b) ⟨rfl,rfl,rfl,by simp [World.setCell],λk _ hk=>Below.heap_setCell _ _ _ _ (λe=>hk (by simp [e]))⟩ (Or.inr hne)
 ·have ha:Lib.BuilderAt 165 5 0 b (Pn.pb b 0) s w:=⟨Nat.zero_le _,v,hb,ho,hne⟩;refine (cc_used b w ha.cell0).mono ?_;rintro e w' ⟨rfl,rfl⟩;exact ⟨rfl,hb,ho,hne,Pn.Ext.refl _ _⟩
theorem FZ {b:Nat} {p v v':Value} {s s':L9} {w w1 w2:World} (hx1:Pn.Ext (λk=>k=b) w w1) (hl:v.ownBlock≠some b) (hb2:w2.heap[b]?=some (.cells #[Pn.pb b 0,v] 165 (0,0))) (hx2:Pn.Ext (λk=>k=b\/v.ownBlock=some k) w1 w2) (hown':w2.ownsRow 0 5 1 v' s'.length s') (hk:∀ k,v'.ownBlock=some k->v.ownBlock=some k\/w.heap.size<=k) :
  Pn.Ext (λk=>k=b\/v.ownBlock=some k) w (w2.setCell ⟨b,1,none⟩ v')/\∃ v'',Pn.BuAt 165 5 b v'' s' (w2.setCell ⟨b,1,none⟩ v')/\∀ k,v''.ownBlock=some k->v.ownBlock=some k\/w.heap.size<=k:=by
 refine ⟨(hx1.mono λk _ hk=>.inl hk).trans (hx2.trans (Pn.Ext.setCell w2 ⟨b,1,none⟩ _ (.inl rfl))),v',?_,hk⟩;obtain ⟨_,v2,hb3,ho3,hne3⟩:=Lib.BuilderAt.put (T:=165) (e:=5) (JD b) hb2 hown' (by decide);have:v2=v':=by
  have h1:(w2.setCell ⟨b,1,none⟩ v').heap[b]?=some (.cells #[Pn.pb b 0,v'] 165 (0,0)):=by simp [World.setCell,H8,hb2]
  rw [h1] at hb3;simp at hb3;exact hb3.symm
 subst this;exact ⟨⟨_,.inr rfl,hb3⟩,ho3,hne3⟩
theorem bu_wb (b:Nat) (v:Value) (bs:L9) (c:Int) (w:World) (h:Pn.BuAt 165 5 b v bs w) (hlen:bs.length + 1<=140737488355328) :
  Calls Tryz.prog 95 #[.pointer (some ⟨b,0,none⟩),.int .u8 c] w λe w'=>e=.returned .nilIface/\Pn.Ext (λk=>k=b\/v.ownBlock=some k) w w'/\∃ v',Pn.BuAt 165 5 b v' (bs ++ [.int .u8 c]) w'/\∀ k,v'.ownBlock=some k->v.ownBlock=some k\/w.heap.size<=k:=by
 obtain ⟨i0,hi,hz0,hz1,hz2⟩:=info_parts (show (Tryz.prog.info? 5).map (λi=>(i.zero,i.size,i.bytes))=some (some (.int .u8 0),1,1) by kernel_rfl);have e240:∀ args w,(callFunc 124 args).run Tryz.prog w=.ok (.enter 124 args) w:=enters_of Tryz.func124 Go.Pn.kr_ rfl
 go_enter Tryz.func95,Tryz.ntmps95
 go_wp2_with (go_at_fn 124;refine (FY b v bs _ h).mono ?_)
 rintro e w1 ⟨rfl,hbk,hown,hne,hx1⟩;have c0:w1.cell? ⟨b,0,none⟩=some (.pointer (some ⟨b,0,none⟩)):=by rw [H1 hbk];rfl
 have c1:w1.cell? ⟨b,1,none⟩=some v:=by rw [H1 hbk];rfl
 obtain ⟨v',w2,hr,hown',hgrow,_,hat⟩:=run_append_own_at (P:=Tryz.prog) (w:=w1.alloc (.cells #[.int .u8 c] 5)) 0 163 163 5 i0 (.int .u8 0) 1 1 Tryz.underlying163 hi hz0 hz1 hz2 rfl (by decide) v bs.length bs (hown.alloc _) ⟨w1.heap.size,0,none⟩ 1 1 [.int .u8 c] rfl (λj u hj=>by
  match j,hj with
  | 0,hj=>simp at hj;subst hj;simp [Addr.add]) (λu hu=>by simp at hu;subst hu;rfl) (by unfold maxLen;omega) Go.Pn.om_ (JD _)
 have hdr:=Pn.app_dr (P:=Tryz.prog) Tryz.underlying163 hi hz0 hz1 hz2 (hown.alloc (.cells #[.int .u8 c] 5)) (a:=⟨w1.heap.size,0,none⟩) (news:=[.int .u8 c]) rfl (λj u hj=>by
  match j,hj with
  | 0,hj=>simp at hj;subst hj;simp [Addr.add]) (λu hu=>by simp at hu;subst hu;rfl) (by unfold maxLen;omega) Go.Pn.om_ hr
 have hlt:b < w1.heap.size:=(GA.1 hbk).1;have hb2:w2.heap[b]?=some (.cells #[.pointer (some ⟨b,0,none⟩),v] 165 (0,0)):=by
  rw [hgrow.block b (by simp;omega) (λe=>hne e.symm),Lib.alloc_old w1 _ b hlt];exact hbk
 have d0:w2.cell? ⟨b,0,none⟩=some (.pointer (some ⟨b,0,none⟩)):=by rw [H1 hb2];rfl
 have d1:w2.cell? ⟨b,1,none⟩=some v:=by rw [H1 hb2];rfl
 have f1:w2.frozen? ⟨b,1,none⟩=false:=Lib.frozen_of_heap hb2 1;obtain ⟨g,cap,rfl⟩:∃ g cap,v'=.slice (some ⟨g,0,none⟩) (bs.length + 1) cap:=by
  rcases hown'.2 with ⟨_,h0⟩ | ⟨g,cap,cur,hv,_⟩
  ·omega
  ·exact ⟨g,cap,hv⟩
 go_wp2_with (at_builtin;refine KV _ rfl _ _ _ _ rfl _ _ rfl rfl _ _ hr ?_)
 go_ret
 refine ⟨rfl,?_⟩;refine FZ (p:=.pointer none) (s:=bs) hx1 hne hb2 ((Pn.Ext.alloc _ w1 _).trans (Pn.bu_ext hgrow hdr)) (by simpa using hown') (λk hk=>?_);have:=hx1.size;rcases hat with h1 | h1
 ·exact .inl (by rw [← h1];exact hk)
 ·rw [h1] at hk;injection hk with hk;rw [World.size_alloc] at hk;exact .inr Go.Pn.om_
theorem str_own {P:Program} {t u ty e:TypeId} {i:TypeInfo} (ht:P.underlying t=some (.slice e)) (hu:P.underlying u=some .string) (hi:P.info? e=some i) (hz:i.zero=some (.int .u8 0)) (hsize:i.size=1) (hby:i.bytes=1)
  {v v':Value} {n:Nat} {xs:L9} {w w':World} {s:MA} (hown:w.ownsRow 0 e 1 v n xs) (hb:n + s.size<=140737488355328) (hr:(Builtin.append_ #[t,u] ty #[v,.string s]).run P w=.ok v' w') :
  (∀ k,v'.ownBlock=some k->v.ownBlock=some k\/w.heap.size<=k)/\w.drawn<=w'.drawn:=by
 have hxl:xs.length=n:=by simpa using hown.1
 rcases hown.2 with ⟨rfl,rfl⟩ | ⟨g,cap,cur,rfl,hbg,hg,hnc,hcm,hcs,htake⟩
 ·by_cases hm:s.size=0
  ·have hn:Lib.strCells s=[]:=HX (by rw [K6];exact hm);have hf:=Lib.run_firstCells_string (P:=P) w 1 s;rw [hm] at hf;have:(Builtin.append_ #[t,u] ty #[.slice none 0 0,.string s]).run P w=.ok (.slice none 0 0) w:=by
    simp [Builtin.append_,run_underlying ht,run_underlying hu,sizeOf,typeInfo,hi,hsize,Builtin.lenOf,hm,hf]
   rw [this] at hr;injection hr with h1 h2;subst h1 h2;exact ⟨λk hk=>by simp [Value.ownBlock] at hk,GS _⟩
  ·have:=run_append_nil_string (P:=P) w t u ty e i (.int .u8 0) ht hu hi hz s Go.Pn.om_ Go.Pn.om_ (by rw [hby];omega);rw [this] at hr;injection hr with h1 h2;subst h1 h2;exact ⟨λk hk=>by simp [Value.ownBlock] at hk;exact .inr Go.Pn.om_,KZ _⟩
 ·by_cases hroom:n + s.size<=cap
  ·have:=Lib.run_append_room_string (P:=P) w t u ty e i ht hu hi hsize g n cap cur hg s hroom Go.Pn.om_;rw [this] at hr;injection hr with h1 h2;subst h1 h2;exact ⟨λk hk=>.inl hk,GS _⟩
  ·have:=Lib.run_append_grow_string (P:=P) w t u ty e i (.int .u8 0) ht hu hi hz ⟨g,0,none⟩ n cap xs (by rw [hsize];exact hown.1) (hown.cells rfl) s Go.Pn.om_ Go.Pn.om_ (growslice_fits Go.Pn.om_ (by rw [hby];omega));rw [this] at hr;injection hr with h1 h2;subst h1 h2;exact ⟨λk hk=>by simp [Value.ownBlock] at hk;exact .inr Go.Pn.om_,KZ _⟩
theorem bu_ws (b:Nat) (v:Value) (bs:L9) (s:MA) (w:World) (h:Pn.BuAt 165 5 b v bs w) (hlen:bs.length + s.size<=140737488355328) :
  Calls Tryz.prog 93 #[.pointer (some ⟨b,0,none⟩),.string s] w λe w'=>e=.returned (.tuple #[.int .i64 s.size,.nilIface])/\Pn.Ext (λk=>k=b\/v.ownBlock=some k) w w'/\∃ v',Pn.BuAt 165 5 b v' (bs ++ Lib.strCells s) w'/\∀ k,v'.ownBlock=some k->v.ownBlock=some k\/w.heap.size<=k:=by
 obtain ⟨i0,hi,hz0,hz1,hz2⟩:=info_parts (show (Tryz.prog.info? 5).map (λi=>(i.zero,i.size,i.bytes))=some (some (.int .u8 0),1,1) by kernel_rfl);have e240:∀ args w,(callFunc 124 args).run Tryz.prog w=.ok (.enter 124 args) w:=enters_of Tryz.func124 Go.Pn.kr_ rfl
 go_enter Tryz.func93,Tryz.ntmps93
 go_wp2_with (go_at_fn 124;refine (FY b v bs _ h).mono ?_)
 rintro e w1 ⟨rfl,hbk,hown,hne,hx1⟩;have c0:w1.cell? ⟨b,0,none⟩=some (.pointer (some ⟨b,0,none⟩)):=by rw [H1 hbk];rfl
 have c1:w1.cell? ⟨b,1,none⟩=some v:=by rw [H1 hbk];rfl
 obtain ⟨v',w2,hr,hown',hgrow,_⟩:=Lib.run_append_own_string (P:=Tryz.prog) w1 0 163 9 163 5 i0 Tryz.underlying163 Tryz.underlying9 hi hz0 hz1 hz2 v bs.length bs hown s (by unfold maxLen;omega) hlen (JD _);have hat:=str_own Tryz.underlying163 Tryz.underlying9 hi hz0 hz1 hz2 hown hlen hr;have hlt:b < w1.heap.size:=(GA.1 hbk).1;have hb2:w2.heap[b]?=some (.cells #[.pointer (some ⟨b,0,none⟩),v] 165 (0,0)):=by
  rw [hgrow.block b hlt (λe=>hne e.symm)];exact hbk
 have d0:w2.cell? ⟨b,0,none⟩=some (.pointer (some ⟨b,0,none⟩)):=by rw [H1 hb2];rfl
 have d1:w2.cell? ⟨b,1,none⟩=some v:=by rw [H1 hb2];rfl
 have f1:w2.frozen? ⟨b,1,none⟩=false:=Lib.frozen_of_heap hb2 1;obtain ⟨ao,n',cap,rfl⟩:∃ ao n' cap,v'=.slice ao n' cap:=by
  rcases hown'.2 with ⟨hv,_⟩ | ⟨g,cap,cur,hv,_⟩
  ·exact ⟨_,_,_,hv⟩
  ·exact ⟨_,_,_,hv⟩
 go_wp2_with (at_builtin;refine KV _ rfl _ _ _ _ rfl _ _ rfl rfl _ _ hr ?_)
 go_ret2
 refine ⟨rfl,?_⟩;refine FZ (p:=.pointer none) (s:=bs) hx1 hne hb2 (Pn.bu_ext hgrow hat.2) (by simpa [K6] using hown') (λk hk=>?_);have:=hx1.size;rcases hat.1 k hk with h1 | h1
 ·exact .inl h1
 ·exact .inr Go.Pn.om_
theorem fz_ext {w:World} {g:Nat} (n:Nat) {M:Nat->Prop} (h:M g):Pn.Ext M w (w.freeze ⟨g,0,none⟩ n):=by
 unfold World.freeze;split
 ·exact Pn.Ext.refl _ _
 ·refine ⟨rfl,rfl,rfl,by simp,λk hk hn=>?_,GS _⟩;simp only [H8];rw [if_neg (λe=>hn (by rw [← e];exact h))]
theorem bu_s1 (b g cap:Nat) (p:Value) (cur:Array Value) (l:List UInt8) (w:World) (h0:l≠[]) (hbk:w.heap[b]?=some (.cells #[p,.slice (some ⟨g,0,none⟩) l.length cap] 165 (0,0))) (hg:w.heap[g]?=some (.cells cur 5 (0,0))) (hnc:l.length<=cap) (hcm:cap<=maxLen) (hcs:cur.size=cap) (htk:∀ j x,l[j]?=some x->w.cell? ((⟨g,0,none⟩:Addr).add j)=some (.int .u8 x.toNat)) :
  Calls Tryz.prog 96 #[.pointer (some ⟨b,0,none⟩)] w λe w'=>e=.returned (.string ⟨l.toArray⟩)/\Pn.Ext (λk=>k=g) w w':=by
 have hl0:l.length≠0:=by simpa using h0
 have c1:w.drew.cell? ⟨b,1,none⟩=some (.slice (some ⟨g,0,none⟩) l.length cap):=by
  have:w.drew.heap[b]?=some (.cells #[p,.slice (some ⟨g,0,none⟩) l.length cap] 165 (0,0)):=hbk;rw [H1 this];rfl
 have hSD:(Builtin.unsafeSliceData_ #[163] 202 #[.slice (some ⟨g,0,none⟩) l.length cap]).run Tryz.prog w.drew=.ok (.pointer (some ⟨g,0,none⟩)) w.drew:=
  Lib.run_unsafeSliceData_row _ _ _ _ _ _ Go.Pn.om_
 have hUS:(Builtin.unsafeString_ #[202,3] 9 #[.pointer (some ⟨g,0,none⟩),.int .i64 l.length]).run Tryz.prog w.drew=.ok (.string ⟨l.toArray⟩) (w.drew.freeze ⟨g,0,none⟩ l.length):=by
  refine Lib.run_unsafeString_row w.drew 202 3 9 5 Tryz.underlying202 Go.Pn.kr_ g cur.size (by have hg':w.drew.heap[g]?=some (.cells cur 5 (0,0)):=hg;simp [World.shape?,hg']) l h0 Go.Pn.om_ (by unfold maxLen at hcm;omega) ?_;intro j x hx;exact htk j x hx
 have mixed:Tryz.prog.follows Departure.mixedOrders=true:=by kernel_rfl
 go_enter Tryz.func96,Tryz.ntmps96
 go_wp2
 go_region_o
 all_goals (go_wp2;go_ret;exact ⟨rfl,(Pn.Ext.drew _ w).trans (fz_ext _ rfl)⟩)
theorem bu_s0 (b:Nat) (p:Value) (w:World) (hbk:w.heap[b]?=some (.cells #[p,.slice none 0 0] 165 (0,0))) :
  Calls Tryz.prog 96 #[.pointer (some ⟨b,0,none⟩)] w λe w'=>e=.returned (.string ⟨#[]⟩)/\Pn.Ext Pn.No w w':=by
 have hUS:∀ (W:World) (q:Option Addr),(Builtin.unsafeString_ #[202,3] 9 #[.pointer q,.int .i64 0]).run Tryz.prog W=.ok (.string .empty) W:=λW q=>LA W _ _ _ q;have c1:w.drew.cell? ⟨b,1,none⟩=some (.slice none 0 0):=by
  have:w.drew.heap[b]?=some (.cells #[p,.slice none 0 0] 165 (0,0)):=hbk;rw [H1 this];rfl
 have hSD:(Builtin.unsafeSliceData_ #[163] 202 #[.slice none 0 0]).run Tryz.prog w.drew=.ok (.pointer none) w.drew:=rfl;have mixed:Tryz.prog.follows Departure.mixedOrders=true:=by kernel_rfl
 go_enter Tryz.func96,Tryz.ntmps96
 go_wp2
 go_region_o
 all_goals (go_wp2;go_ret;exact ⟨rfl,Pn.Ext.drew _ w⟩)
theorem bu_s00 (b g:Nat) (p:Value) (cur:Array Value) (w:World) (hbk:w.heap[b]?=some (.cells #[p,.slice (some ⟨g,0,none⟩) 0 0] 165 (0,0))) (hg:w.heap[g]?=some (.cells cur 5 (0,0))) :
  Calls Tryz.prog 96 #[.pointer (some ⟨b,0,none⟩)] w λe w'=>e=.returned (.string ⟨#[]⟩)/\Pn.Ext Pn.No w w':=by
 have hUS:∀ (W:World) (q:Option Addr),(Builtin.unsafeString_ #[202,3] 9 #[.pointer q,.int .i64 0]).run Tryz.prog W=.ok (.string .empty) W:=λW q=>LA W _ _ _ q;have hlt:b < w.heap.size:=(GA.1 hbk).1;have c1:w.drew.cell? ⟨b,1,none⟩=some (.slice (some ⟨g,0,none⟩) 0 0):=by
  have:w.drew.heap[b]?=some (.cells #[p,.slice (some ⟨g,0,none⟩) 0 0] 165 (0,0)):=hbk;rw [H1 this];rfl
 have hSD:(Builtin.unsafeSliceData_ #[163] 202 #[.slice (some ⟨g,0,none⟩) 0 0]).run Tryz.prog w.drew=.ok (.pointer (some ⟨w.drew.heap.size,0,none⟩)) (w.drew.alloc (.view ⟨g,0,none⟩ 5)):=
  Lib.run_unsafeSliceData_zero w.drew _ _ 5 Tryz.underlying202 ⟨g,0,none⟩ 0 (5,cur.size) (by have hg':w.drew.heap[g]?=some (.cells cur 5 (0,0)):=hg;simp [World.shape?,hg'])
 have c2:(w.drew.alloc (.view ⟨g,0,none⟩ 5)).cell? ⟨b,1,none⟩=some (.slice (some ⟨g,0,none⟩) 0 0):=by
  have:(w.drew.alloc (.view ⟨g,0,none⟩ 5)).heap[b]?=_:=(Lib.alloc_old w.drew _ b hlt).trans hbk;rw [H1 this];rfl
 have c3:(w.alloc (.view ⟨g,0,none⟩ 5)).drew.cell? ⟨b,1,none⟩=some (.slice (some ⟨g,0,none⟩) 0 0):=c2;have c0:w.cell? ⟨b,1,none⟩=some (.slice (some ⟨g,0,none⟩) 0 0):=c1;have mixed:Tryz.prog.follows Departure.mixedOrders=true:=by kernel_rfl
 go_enter Tryz.func96,Tryz.ntmps96
 go_wp2
 go_region_o
 all_goals (go_wp2;go_ret;exact ⟨rfl,(Pn.Ext.drew _ w).trans (Pn.Ext.alloc _ _ _)⟩)
theorem bu_s01 (b g cap:Nat) (p:Value) (w:World) (hc0:cap≠0) (hbk:w.heap[b]?=some (.cells #[p,.slice (some ⟨g,0,none⟩) 0 cap] 165 (0,0))) :
  Calls Tryz.prog 96 #[.pointer (some ⟨b,0,none⟩)] w λe w'=>e=.returned (.string ⟨#[]⟩)/\Pn.Ext Pn.No w w':=by
 have hUS:∀ (W:World) (q:Option Addr),(Builtin.unsafeString_ #[202,3] 9 #[.pointer q,.int .i64 0]).run Tryz.prog W=.ok (.string .empty) W:=λW q=>LA W _ _ _ q;have c1:w.drew.cell? ⟨b,1,none⟩=some (.slice (some ⟨g,0,none⟩) 0 cap):=by
  have:w.drew.heap[b]?=some (.cells #[p,.slice (some ⟨g,0,none⟩) 0 cap] 165 (0,0)):=hbk;rw [H1 this];rfl
 have hSD:(Builtin.unsafeSliceData_ #[163] 202 #[.slice (some ⟨g,0,none⟩) 0 cap]).run Tryz.prog w.drew=.ok (.pointer (some ⟨g,0,none⟩)) w.drew:=
  Lib.run_unsafeSliceData_row _ _ _ _ _ _ hc0
 clear hc0;have mixed:Tryz.prog.follows Departure.mixedOrders=true:=by kernel_rfl
 go_enter Tryz.func96,Tryz.ntmps96
 go_wp2
 go_region_o
 all_goals (go_wp2;go_ret;exact ⟨rfl,Pn.Ext.drew _ w⟩)
theorem bu_str (b:Nat) (v:Value) (l:List UInt8) (w:World) (h:Pn.BuAt 165 5 b v (Lib.byteCells l) w) :
  Calls Tryz.prog 96 #[.pointer (some ⟨b,0,none⟩)] w λe w'=>e=.returned (.string ⟨l.toArray⟩)/\Pn.Ext (λk=>k=b\/v.ownBlock=some k) w w':=by
 obtain ⟨⟨p,_,hb⟩,ho,hne⟩:=h;rw [Lib.byteCells_length] at ho;rcases ho.2 with ⟨rfl,h0⟩ | ⟨g,cap,cur,rfl,_,hg,hnc,hcm,hcs,htk⟩
 ·obtain rfl:=HX h0;exact (bu_s0 b p w hb).mono λe w' h=>⟨h.1,h.2.no⟩
 ·cases l with
  | nil=>
   by_cases hc:cap=0
   ·subst hc;exact (bu_s00 b g p cur w hb hg).mono λe w' h=>⟨h.1,h.2.no⟩
   ·exact (bu_s01 b g cap p w hc hb).mono λe w' h=>⟨h.1,h.2.no⟩
  | cons x r=>
   refine (bu_s1 b g cap p cur (x :: r) w Go.Pn.smp_ hb hg hnc hcm Go.Pn.om_ ?_).mono λe w' h=>⟨h.1,h.2.mono λk _ hk=>.inr (by rw [hk];rfl)⟩;intro j x hx;exact ho.cells (g:=g) rfl j (.int .u8 x.toNat) (by simp only [Lib.byteCells,GW,hx,GZ])
end Go.Proofs
namespace Go.Pn
open Go Go.RowKit Go.Proofs
def m93 (f:Nat) (v0:MA) (v1:MA):Option MA:=if v1.size + v0.size<=1000000000 then some (v1 ++ v0) else none
theorem s93 (f:Nat) (n0:Nat) (v0:MA) (v1:MA) (r:MA) (hm:m93 f v0 v1=some r):Cg Tryz.prog 93 [Qv (pb n0 0),Va v0] [Bw 165 5 n0 (v1)] (Rz (λx:Unit=>Dd) (λx=>[Bw 165 5 n0 (r)])):=by
 unfold m93 at hm;split at hm
 case isFalse=>cases hm
 rename_i hb;obtain rfl:=Option.some.inj hm;refine buc (vs0:=λ_=>[pb n0 0,.string v0]) (R:=.tuple #[.int .i64 v0.size,.nilIface]) kr_ ?_ ?_
 ·intro M w vs hf
  match vs,hf with
  | [a,b],⟨⟨_,ha⟩,hb,_⟩=>rw [show a=pb n0 0 from ha,Va.str hb]
 ·intro vs v w M hf h;refine (Proofs.bu_ws n0 v (Lib.strCells v1) v0 w h (by rw [K6];omega)).mono ?_;rintro e w' ⟨rfl,h1,v',h2,h3⟩;refine ⟨rfl,h1,v',?_,h3⟩;have:Lib.strCells (v1 ++ v0)=Lib.strCells v1 ++ Lib.strCells v0:=by simp [Lib.strCells]
  rw [this];exact h2
def m95 (f:Nat) (v0:UInt8) (v1:MA):Option MA:=if v1.size + 1<=1000000000 then some (v1.push v0) else none
theorem s95 (f:Nat) (n0:Nat) (v0:UInt8) (v1:MA) (r:MA) (hm:m95 f v0 v1=some r):Cg Tryz.prog 95 [Qv (pb n0 0),Va v0] [Bw 165 5 n0 (v1)] (Rz (λx:Unit=>Dd) (λx=>[Bw 165 5 n0 (r)])):=by
 unfold m95 at hm;split at hm
 case isFalse=>cases hm
 rename_i hb;obtain rfl:=Option.some.inj hm;refine buc (vs0:=λ_=>[pb n0 0,.int .u8 v0.toNat]) (R:=.nilIface) kr_ ?_ ?_
 ·intro M w vs hf
  match vs,hf with
  | [a,b],⟨⟨_,ha⟩,hb,_⟩=>rw [show a=pb n0 0 from ha,Va.byte hb]
 ·intro vs v w M hf h;refine (Proofs.bu_wb n0 v (Lib.strCells v1) v0.toNat w h (by rw [K6];omega)).mono ?_;rintro e w' ⟨rfl,h1,v',h2,h3⟩;refine ⟨rfl,h1,v',?_,h3⟩;have:Lib.strCells (v1.push v0)=Lib.strCells v1 ++ [.int .u8 v0.toNat]:=by simp [Lib.strCells,ByteArray.push]
  rw [this];exact h2
def m96 (f:Nat) (v0:MA):Option MA:=some v0
theorem s96 (f:Nat) (n0:Nat) (v0:MA) (r:MA) (hm:m96 f v0=some r):Cg Tryz.prog 96 [Qv (pb n0 0)] [Bw 165 5 n0 (v0)] (Rz (λx:Unit=>Va (r)) (λx=>[Dd])):=by
 obtain rfl:=Option.some.inj hm;refine ⟨by kernel_rfl,λvs M w Ft hM hf ho hnd hFM=>?_⟩;obtain ⟨F1,_,rfl,hown,rfl⟩:=ho;obtain ⟨v,rfl,hb⟩:=hown undef
 match vs,hf with
 | [a],⟨⟨_,ha⟩,_⟩=>
  rw [show a=pb n0 0 from ha];refine (Proofs.bu_str n0 v v0.data.toList w (by rw [← Lib.strCells_eq];exact hb)).mono ?_;rintro e w' ⟨rfl,hx⟩;refine ⟨_,[],rfl,hx.mono λk _ hk=>?_,G4,by simp,(),?_⟩
  ·rcases hk with rfl | hk
   ·simp
   ·simp [hk]
  ·exact ⟨Va.mkStr,[],[],rfl,λ_=>rfl,rfl⟩
end Go.Pn
namespace Go.Pn
open Go Go.RowKit Go.Proofs
@[reducible] def lk:Cx->Nat->Option Ent
 | [],_=>none
 | (s,e) :: Γ,t=>match Nat.beq s t with | true=>some e | false=>lk Γ t
theorem Db:∀ (Γ:Cx) (n:Nat),lk Γ n=Ak Γ n
 | [],_=>rfl
 | (s,e) :: Γ,t=>by
  show (match Nat.beq s t with | true=>some e | false=>lk Γ t)=(match Nat.beq s t with | true=>some e | false=>Ak Γ t)
  rw [Db Γ t]
@[reducible] def gt_:List Oper->Nat->Option Tmp
 | [],_=>none
 | o :: _,0=>o.dst
 | _ :: l,j + 1=>gt_ l j
theorem gt_eq:∀ (l:List Oper) (j:Nat) (d:Tmp),gt_ l j=some d->(l[j]?).bind (·.dst)=some d
 | [],_,_,h=>by cases h
 | o :: l,0,d,h=>h
 | o :: l,j + 1,d,h=>by simpa using gt_eq l j d h
class Lk (o:Option Ent) (e:outParam Ent):Prop where h:o=some e
instance {e:Ent}:Lk (some e) e:=⟨rfl⟩
@[reducible] def lk2:Cx->Cx->Nat->Option Ent
 | [],Γ,t=>lk Γ t
 | (s,e) :: Δ,Γ,t=>match Nat.beq s t with | true=>some e | false=>lk2 Δ Γ t
theorem C0:∀ (Δ Γ:Cx) (n:Nat),lk2 Δ Γ n=lk (Δ ++ Γ) n
 | [],_,_=>rfl
 | (s,e) :: Δ,Γ,t=>by
  show (match Nat.beq s t with | true=>some e | false=>lk2 Δ Γ t)=(match Nat.beq s t with | true=>some e | false=>lk (Δ ++ Γ) t)
  rw [C0 Δ Γ t]
instance {Δ Γ:Cx} {n:Nat} {e:Ent} [h:Lk (lk2 Δ Γ n) e]:Lk (lk (Δ ++ Γ) n) e:=⟨(C0 _ _ _).symm.trans h.h⟩
class Gt (o:Option Tmp) (e:outParam Tmp):Prop where h:o=some e
instance {e:Tmp}:Gt (some e) e:=⟨rfl⟩
theorem gt_o {ops:Array Oper} {L:List Oper} {j d:Nat} (ho:ops.toList=L) (h:gt_ L j=some d):(ops[j]?).bind (·.dst)=some d:=by
 subst ho;have:=gt_eq _ _ _ h
 rwa [HW] at this
@[reducible] def F0 (d n:Nat):Option Unit:=match Nat.ble n d with | true=>none | false=>some ()
class Bf (b:Option Unit):Prop where h:b=some ()
instance:Bf (some ()):=⟨rfl⟩
theorem Bf.lt {d n:Nat} (h:Bf (F0 d n)):Nat.blt d n=true:=by
 have h:=h.h;unfold F0 at h;split at h
 ·cases h
 ·rename_i hb;cases hc:Nat.blt d n with
  | true=>rfl
  | false=>
   have h1:¬ d < n:=λhd=>by
    have:Nat.blt d n=true:=LQ hd;rw [this] at hc;cases hc
   have h2:Nat.ble n d=true:=LQ om_;rw [h2] at hb;cases hb
class AD (g:Prop) (Γ:Cx) (x:Operand) (e:outParam Ent):Prop where h:g->Od Γ x e
class AO (g:Prop) (P:Program) (op:Op) (Γ:Cx) (e:outParam Ent):Prop where h:g->∀ ty,OR P op ty Γ e
class Ug (g:Prop) (e:Ent) (e':outParam Ent):Prop where h:g->∀ F M w v,e.p F M w v->e'.p F M w v
section
variable {g:Prop} {P:Program} {Γ:Cx}
instance (priority:=low) {e:Ent}:Ug g e e:=⟨λ_ _ _ _ _ h=>h⟩
instance {b c:Bool} {e:Ent}:Ug (b=c) (Gd b c e) e:=⟨λhb _ _ _ _ h=>h.1 hb⟩
instance {b c b2 w:Bool} {e:Ent}:Ug (b=c/\b2=w) (Gd ((b == c) && (b2 == w)) true e) e:=⟨λhb _ _ _ _ h=>h.1 (g2 hb.1 hb.2)⟩
instance {n:Nat} {e e':Ent} [Lk (lk Γ n) e] [Ug g e e']:AD g Γ (.tmp n) e':=⟨λhg ρ M w r=>let ⟨F,hF⟩:=t ((Db _ _).symm.trans Lk.h) ρ M w r;⟨F,Ug.h hg _ _ _ _ hF⟩⟩
instance {n:Int}:AD g Γ (.const (.int .i64 n)) (Va n):=⟨λ_=>ci⟩
instance {n:Bool}:AD g Γ (.const (.bool n)) (Va n):=⟨λ_=>cb⟩
instance {n:MA}:AD g Γ (.const (.string n)) (Va n):=⟨λ_=>cs⟩
instance (priority:=low) {n:Value}:AD g Γ (.const n) (Qv n):=⟨λ_=>cq⟩
instance {x:Operand} {α:Type} {_:Rep α} {y:α} [AD g Γ x (Va y)]:AO g P (.move x) Γ (Va y):=⟨λh _=>mv (AD.h h)⟩
instance {x:Operand} {α:Type} {_:Rep α} {y:α} [AD g Γ x (Va y)]:AO g P (.assign x) Γ (Va y):=⟨λh _=>sa (AD.h h)⟩
instance {x:Operand} {c:Value} [AD g Γ x (Qv c)]:AO g P (.move x) Γ (Qv c):=⟨λh _=>mvq (AD.h h)⟩
instance {x:Operand} {c:Value} [AD g Γ x (Qv c)]:AO g P (.assign x) Γ (Qv c):=⟨λh _=>saq (AD.h h)⟩
instance (priority:=low) {x:Operand} {e:Ent} [AD g Γ x e] [Zf e]:AO g P (.move x) Γ e:=⟨λh _=>mve (AD.h h)⟩
instance {x y:Operand} {T T':TypeId} {m n:Int} [AD g Γ x (Va m)] [AD g Γ y (Va n)]:AO g P (.binOp .lss T x y T') Γ (Va (decide (m < n))):=⟨λh _=>lt (AD.h h) (AD.h h)⟩
instance {x y:Operand} {T T':TypeId} {m n:Int} [AD g Γ x (Va m)] [AD g Γ y (Va n)]:AO g P (.binOp .leq T x y T') Γ (Va (decide (m<=n))):=⟨λh _=>le (AD.h h) (AD.h h)⟩
instance {x y:Operand} {T T':TypeId} {m n:Int} [AD g Γ x (Va m)] [AD g Γ y (Va n)]:AO g P (.binOp .gtr T x y T') Γ (Va (decide (m > n))):=⟨λh _=>gt (AD.h h) (AD.h h)⟩
instance {x y:Operand} {T T':TypeId} {m n:Int} [AD g Γ x (Va m)] [AD g Γ y (Va n)]:AO g P (.binOp .geq T x y T') Γ (Va (decide (m>=n))):=⟨λh _=>ge (AD.h h) (AD.h h)⟩
instance {x y:Operand} {T T':TypeId} {m n:Int} [AD g Γ x (Va m)] [AD g Γ y (Va n)]:AO g P (.binOp .eql T x y T') Γ (Va (m == n)):=⟨λh _=>eq (AD.h h) (AD.h h)⟩
instance {x y:Operand} {T T':TypeId} {m n:Int} [AD g Γ x (Va m)] [AD g Γ y (Va n)]:AO g P (.binOp .neq T x y T') Γ (Va (m != n)):=⟨λh _=>ne (AD.h h) (AD.h h)⟩
instance {x y:Operand} {T T':TypeId} {m n:Int} [AD g Γ x (Va m)] [AD g Γ y (Va n)]:AO g P (.binOp .add T x y T') Γ (Va (wr (m + n))):=⟨λh _=>ad (AD.h h) (AD.h h)⟩
instance {x y:Operand} {T T':TypeId} {m n:Int} [AD g Γ x (Va m)] [AD g Γ y (Va n)]:AO g P (.binOp .sub T x y T') Γ (Va (wr (m - n))):=⟨λh _=>sb (AD.h h) (AD.h h)⟩
instance {x y:Operand} {T T':TypeId} {m n:Int} [AD g Γ x (Va m)] [AD g Γ y (Va n)]:AO g P (.binOp .mul T x y T') Γ (Va (wr (m * n))):=⟨λh _=>ml (AD.h h) (AD.h h)⟩
instance {x y:Operand} {T T':TypeId} {m n:MA} [AD g Γ x (Va m)] [AD g Γ y (Va n)]:AO g P (.binOp .eql T x y T') Γ (Va (m.toList == n.toList)):=⟨λh _=>seq (AD.h h) (AD.h h)⟩
instance {x:Operand} {T:TypeId} {b:Bool} [AD g Γ x (Va b)]:AO g P (.unOp .not T x) Γ (Va (!b)):=⟨λh _=>nt (AD.h h)⟩
instance {x:Operand} {e1 e2:Ent} [AD g Γ x (T2 e1 e2)] [Zf e1]:AO g P (.extract x 0) Γ e1:=⟨λh _=>x20 (AD.h h)⟩
instance {x:Operand} {e1 e2:Ent} [AD g Γ x (T2 e1 e2)] [Zf e2]:AO g P (.extract x 1) Γ e2:=⟨λh _=>x21 (AD.h h)⟩
instance {x:Operand} {e1 e2 e3:Ent} [AD g Γ x (T3 e1 e2 e3)] [Zf e1]:AO g P (.extract x 0) Γ e1:=⟨λh _=>Pn.x30 (AD.h h)⟩
instance {x:Operand} {e1 e2 e3:Ent} [AD g Γ x (T3 e1 e2 e3)] [Zf e2]:AO g P (.extract x 1) Γ e2:=⟨λh _=>Pn.x31 (AD.h h)⟩
instance {x:Operand} {e1 e2 e3:Ent} [AD g Γ x (T3 e1 e2 e3)] [Zf e3]:AO g P (.extract x 2) Γ e3:=⟨λh _=>Pn.x32 (AD.h h)⟩
instance {T:TypeId} {x:Operand} {α:Type} {_:Rep α} {y:α} [AD g Γ x (Pt y)] [Ty P T α]:AO g P (.load T x) Γ (Va y):=⟨λh _=>ld (AD.h h)⟩
instance {x:Operand} {b o:Nat} [AD g Γ x (Qv (pb b o))]:AO g P (.nilCheck x) Γ (Qv (pb b o)):=⟨λh _=>nkq (AD.h h)⟩
instance {x y:Operand} {T':TypeId} {b c:Bool} [AD g Γ x (Va b)] [AD g Γ y (Va c)]:AO g Tryz.prog (.binOp .eql 4 x y T') Γ (Va (b == c)):=⟨λh _=>beq (AD.h h) (AD.h h) Tryz.underlying4⟩
instance {x y:Operand} {T':TypeId} {b c:Bool} [AD g Γ x (Va b)] [AD g Γ y (Va c)]:AO g Tryz.prog (.binOp .neq 4 x y T') Γ (Va (b != c)):=⟨λh _=>bne (AD.h h) (AD.h h) Tryz.underlying4⟩
instance {x:Operand} {b:MA} [AD g Γ x (Va b)]:AO g Tryz.prog (.call { callee:=.builtin .len,args:=#[x],argTypes:=#[9] }) Γ (Va (b.size:Int)):=⟨λh _=>lns (AD.h h) Tryz.underlying9⟩
class AF (P:Program) (S k:Nat) (α:Type) (hα:Rep α) (β:outParam Type) (hβ:outParam (Rep β)) (f:outParam (α->β)):Prop where h:Fd P S k f
set_option synthInstance.checkSynthOrder false in
instance {S k:Nat} {α β:Type} {hα:Rep α} {hβ:Rep β} {f:α->β} [h:Fd P S k f]:AF P S k α hα β hβ f:=⟨h⟩
instance {S k:Nat} {x:Operand} {α β:Type} {hα:Rep α} {hβ:Rep β} {f:α->β} {y:α} [AD g Γ x (Pt y)] [h:AF P S k α hα β hβ f]:AO g P (.fieldAddr S x k) Γ (Pt (f y)):=⟨λhg _=>have:=h.h;fa (AD.h hg)⟩
instance {T:TypeId} {x:Operand} {α:Type} {_:Rep α} {y:α} [AD g Γ x (Va y)]:AO g P (.box T x) Γ (Pt y):=⟨λh _=>bx (AD.h h)⟩
instance {T:TypeId} {x:Operand} {α:Type} {_:Rep α} {xs:List α} [AD g Γ x (Va xs)] [Es P T α]:AO g P (.call { callee:=.builtin .len,args:=#[x],argTypes:=#[T] }) Γ (Va (xs.length:Int)):=⟨λh _=>ln (AD.h h)⟩
instance {c:Operand} {m:Nat} {b p:Bool} [AD g Γ c (Va b)] [hx:Lk (lk Γ m) (Gd b true (Va p))]:AO g P (.pick c (.tmp m) (.const (.bool false))) Γ (Va (b && p)):=⟨λh _=>paP (AD.h h) ((Db _ _).symm.trans hx.h)⟩
instance {c:Operand} {m:Nat} {b p:Bool} [AD g Γ c (Va b)] [hx:Lk (lk Γ m) (Gd b false (Va p))]:AO g P (.pick c (.const (.bool true)) (.tmp m)) Γ (Va (b || p)):=⟨λh _=>poP (AD.h h) ((Db _ _).symm.trans hx.h)⟩
class ADl (g:Prop) (Γ:Cx) (xs:List Operand) (es:List Ent):Prop where h:g->Odl Γ xs es
instance:ADl g Γ [] []:=⟨λ_=>on⟩
instance {x:Operand} {xs:List Operand} {e:Ent} {es:List Ent} [AD g Γ x e] [Zf e] [ADl g Γ xs es]:ADl g Γ (x :: xs) (e :: es):=⟨λh=>oc (AD.h h) (ADl.h h)⟩
class Rn (P:Program) (L:List Oper) (n:Nat) (k:Nat) (l:List Oper) (Γ:Cx) (l':outParam (List Oper)) (Γ':outParam Cx):Prop where
 h:∀ {M0 w0 a w ops Q rr},ops.toList=L->St M0 w0 n Γ a w->(∀ a w,St M0 w0 n Γ' a w->wpListIn (Fr rr) 0 P ops Q l' a w)->wpListIn (Fr rr) 0 P ops Q l a w
variable {L:List Oper} {n k:Nat}
instance {l:List Oper}:Rn P L n 0 l Γ l Γ:=⟨λ_ s h=>h _ _ s⟩
instance {op:Op} {d:Tmp} {ty:TypeId} {pos:String} {aft:Array Edge} {rest l':List Oper} {e:Ent} {Γ':Cx} [AO True P op Γ e] [hn:Bf (F0 d n)] [hr:Rn P L n k rest ((d,e) :: Γ) l' Γ'] :
  Rn P L n (k + 1) (⟨some d,op,ty,pos,aft,none⟩ :: rest) Γ l' Γ':=⟨λho s h=>sq s (AO.h trivial ty) hn.lt λ_ _ s=>hr.h ho s h⟩
instance {op:Op} {d j dj:Tmp} {b want:Bool} {ty:TypeId} {pos:String} {aft:Array Edge} {rest l':List Oper} {e:Ent} {Γ':Cx} [hj:Gt (gt_ L j) dj] [hl:Lk (lk Γ dj) (Va b)] [AO (b=want) P op Γ e] [hn:Bf (F0 d n)] [hr:Rn P L n k rest ((d,Gd b want e) :: Γ) l' Γ'] :
  Rn P L n (k + 1) (⟨some d,op,ty,pos,aft,some (j,want)⟩ :: rest) Γ l' Γ':=⟨λho s h=>sg s (gt_o ho hj.h) ((Db _ _).symm.trans hl.h) (λhb=>AO.h hb ty) hn.lt λ_ _ s=>hr.h ho s h⟩
instance {op:Op} {d j dj:Tmp} {b c b2 want:Bool} {ty:TypeId} {pos:String} {aft:Array Edge} {rest l':List Oper} {e:Ent} {Γ':Cx} [hj:Gt (gt_ L j) dj] [hl:Lk (lk Γ dj) (Gd b c (Va b2))] [AO (b=c/\b2=want) P op Γ e] [hn:Bf (F0 d n)] [hr:Rn P L n k rest ((d,Gd ((b == c) && (b2 == want)) true e) :: Γ) l' Γ'] :
  Rn P L n (k + 1) (⟨some d,op,ty,pos,aft,some (j,want)⟩ :: rest) Γ l' Γ':=⟨λho s h=>sn s (gt_o ho hj.h) ((Db _ _).symm.trans hl.h) (λhb hc=>AO.h (g:=b=c/\b2=want) ⟨hb,hc⟩ ty) hn.lt λ_ _ s=>hr.h ho s h⟩
theorem ru {ops:Array Oper} {l l':List Oper} {Γ':Cx} {M0:Fm} {w0:World} {a:Act} {w:World} {Q:Exit->Act->World->Prop} {rr:Option Nat} (k:Nat) (s:St M0 w0 n Γ a w) [hr:Rn P ops.toList n k l Γ l' Γ'] (h:∀ a w,St M0 w0 n Γ' a w->wpListIn (Fr rr) 0 P ops Q l' a w):wpListIn (Fr rr) 0 P ops Q l a w:=hr.h rfl s h
end
end Go.Pn
namespace Go.Pn
open Go Go.RowKit Go.Proofs
section
variable {rr:Option Nat} {P:Program} {M0:Fm} {w0:World} {n:Nat} {Γ:Cx} {Q:Exit->Act->World->Prop} {a:Act} {w:World} {ty:TypeId}
theorem la {c:Code} {id:Nat} {S τ:Type} {m:Nat->S->Option S} {f:Nat} {s0:S} {k:S->Option τ} {r:τ} (hm:(m f s0).bind k=some r) (I:S->Act->World->Prop) (h0:I s0 a w) (hz:∀ s,m 0 s=none)
  (hb:∀ o,k o=some r->∀ n z a w,m (n + 1) z=some o->I z a w->c.wpIn (Fr rr) 0 P (Exit.then (λa' w'=>∃ s',m n s'=some o/\I s' a' w') (Exit.inBlock id (Exit.then (I o) Q))) a w)
  (hc:∀ o,k o=some r->∀ a w,I o a w->Q .normal a w):(Code.block id (Code.loop c)).wpIn (Fr rr) 0 P Q a w:=by
 obtain ⟨o,ho,hk⟩:=bs hm;exact cpI (I o) (wpIn_block (loI m o I f s0 h0 ho hz λn z a w hm s=>hb o hk n z a w hm s)) (hc o hk)
theorem lb {c:Code} {id:Nat} {S ρ τ:Type} {m:Nat->S->Option (Lo S ρ)} {f:Nat} {s0:S} {k:Lo S ρ->Option τ} {r:τ} (hm:(m f s0).bind k=some r) (I:S->Act->World->Prop) (h0:I s0 a w) (hz:∀ s,m 0 s=none)
  (hb:∀ o,k o=some r->∀ n z a w,m (n + 1) z=some o->I z a w->c.wpIn (Fr rr) 0 P (Exit.then (λa' w'=>∃ s',m n s'=some o/\I s' a' w') (Exit.inBlock id (Exit.then (λa w=>∃ z,o=.brk z/\I z a w) Q))) a w)
  (hc:∀ z,k (.brk z)=some r->∀ a w,I z a w->Q .normal a w):(Code.block id (Code.loop c)).wpIn (Fr rr) 0 P Q a w:=by
 obtain ⟨o,ho,hk⟩:=bs hm;exact lcI o I (wpIn_block (loI m o I f s0 h0 ho hz λn z a w hm s=>hb o hk n z a w hm s)) λz a w e h=>by subst e;exact hc z hk a w h
theorem R {id:Nat} {ops:Array Oper} {d:Code} {Γ':Cx} (k:Nat) (s:St M0 w0 n Γ a w) [hr:Rn P ops.toList n k ops.toList Γ [] Γ'] (h:∀ a w,St M0 w0 n Γ' a w->d.wpIn (Fr rr) 0 P Q a w):(Code.seq (Code.region id ops false) d).wpIn (Fr rr) 0 P Q a w:=
 se (rg (hr.h rfl s λ_ _ s=>nl (h _ _ s)))
theorem R0 {id:Nat} {ops:Array Oper} {Γ':Cx} (k:Nat) (s:St M0 w0 n Γ a w) [hr:Rn P ops.toList n k ops.toList Γ [] Γ'] (h:∀ a w,St M0 w0 n Γ' a w->Q .normal a w):(Code.region id ops false).wpIn (Fr rr) 0 P Q a w:=
 rg (hr.h rfl s λ_ _ s=>nl (h _ _ s))
theorem cmf {t:Nat} {b:Bool} {c:Code} {ρ:Type} {x y:Option ρ} {r:ρ} (hs:St M0 w0 n Γ a w) [hl:Lk (lk Γ t) (Va b)] (hm:(bif b then x else y)=some r)
  (ht:b=true->x=some r->c.wpIn (Fr rr) 0 P Q a w) (hf:b=false->y=some r->Q .normal a w):(Code.cond (.tmp t) c .skip).wpIn (Fr rr) 0 P Q a w:=
 cm hs ((Db _ _).symm.trans hl.h) hm ht λh1 h2=>wpIn_skip (hf h1 h2)
theorem cmt {t:Nat} {b:Bool} {d:Code} {ρ:Type} {x y:Option ρ} {r:ρ} (hs:St M0 w0 n Γ a w) [hl:Lk (lk Γ t) (Va b)] (hm:(bif b then x else y)=some r)
  (ht:b=true->x=some r->Q .normal a w) (hf:b=false->y=some r->d.wpIn (Fr rr) 0 P Q a w):(Code.cond (.tmp t) .skip d).wpIn (Fr rr) 0 P Q a w:=
 cm hs ((Db _ _).symm.trans hl.h) hm (λh1 h2=>wpIn_skip (ht h1 h2)) hf
theorem cM {t:Nat} {b:Bool} {c d:Code} {ρ:Type} {x y:Option ρ} {r:ρ} (hs:St M0 w0 n Γ a w) [hl:Lk (lk Γ t) (Va b)] (hm:(bif b then x else y)=some r)
  (ht:b=true->x=some r->c.wpIn (Fr rr) 0 P Q a w) (hf:b=false->y=some r->d.wpIn (Fr rr) 0 P Q a w):(Code.cond (.tmp t) c d).wpIn (Fr rr) 0 P Q a w:=
 cm hs ((Db _ _).symm.trans hl.h) hm ht hf
class ADa (Γ:Cx) (xs:Array Operand) (es:List Ent):Prop where h:Odl Γ xs.toList es
instance {xs:List Operand} {es:List Ent} [h:ADl True Γ xs es]:ADa Γ xs.toArray es:=⟨h.h trivial⟩
theorem cB {ops:Array Oper} {rest:List Oper} {d:Nat} {f:FuncId} {A:Array TypeId} {args:Array Operand} {ps:List Ent} {pos:String} {aft:Array Edge} {ρ τ:Type} {m:Option ρ} {k:ρ->Option τ} {r:τ} {E:ρ->Ent} (hs:St M0 w0 n Γ a w) (hm:m.bind k=some r)
  (c:∀ x,m=some x->Sp P f ps (E x)) [hA:ADa Γ args ps] [hn:Bf (F0 d n)]
  (cont:∀ x,k x=some r->∀ a' w',St M0 w0 n ((d,E x) :: Γ) a' w'->wpListIn (Fr rr) 0 P ops Q rest a' w') :
  wpListIn (Fr rr) 0 P ops Q (⟨some d,.call { callee:=.value (.func f),args:=args,argTypes:=A },ty,pos,aft,none⟩ :: rest) a w:=
 let ⟨x,hx,hk⟩:=bs hm;sq hs (cc rfl hA.h (c x hx)) hn.lt (cont x hk)
theorem iB {ops:Array Oper} {rest:List Oper} {d T:Nat} {x i:Operand} {pos:String} {aft:Array Edge} {τ α:Type} {hα:Rep α} {xs:List α} {v:Int} {k:α->Option τ} {r:τ} (hs:St M0 w0 n Γ a w) (hm:(idx xs v).bind k=some r)
  [hx:AD True Γ x (Va xs)] [hi:AD True Γ i (Va v)] [he:Es P T α] [hn:Bf (F0 d n)]
  (cont:∀ x,k x=some r->∀ a' w',St M0 w0 n ((d,Pt x) :: Γ) a' w'->wpListIn (Fr rr) 0 P ops Q rest a' w') :
  wpListIn (Fr rr) 0 P ops Q (⟨some d,.indexAddr T x i,ty,pos,aft,none⟩ :: rest) a w:=
 let ⟨_,hx',hk⟩:=bs hm;sq hs (ix (hx.h trivial) (hi.h trivial) hx') hn.lt (cont _ hk)
class Su (Γ' Γ:Cx):Prop where h:∀ t e,Ak Γ' t=some e->Ak Γ t=some e
instance:Su [] Γ:=⟨λ_ _ h=>by cases h⟩
instance {k:Nat} {e:Ent} {Γ':Cx} [h:Lk (lk Γ k) e] [h':Su Γ' Γ]:Su ((k,e) :: Γ') Γ:=⟨λt e1 he=>by
 rw [Ah] at he;unfold put at he;split at he
 ·rename_i ht;subst ht;cases he;exact (Db _ _).symm.trans h.h
 ·exact h'.h t e1 he⟩
theorem St.fi {Γ':Cx} (s:St M0 w0 n Γ a w) [h:Su Γ' Γ]:St M0 w0 n Γ' a w:=StF.less s h.h
end
section
variable {P:Program} {M0:Fm} {w0:World} {n:Nat} {Γ:Cx} {a:Act} {w:World}
@[reducible] def nq_ (k d:Nat):Option Unit:=match Nat.beq k d with | true=>none | false=>some ()
theorem nq_h {k d:Nat} (h:Bf (nq_ k d)):Nat.beq k d=false:=by
 have h:=h.h;unfold nq_ at h;split at h
 ·cases h
 ·assumption
class AG (Γ:Cx) (b:Nat) (K:outParam Nat) (e:outParam Ent):Prop where h:Ak Γ K=some e
instance {α:Type} {_:Rep α} {K b:Nat} {x:α}:AG ((K,Mg b x) :: Γ) b K (Mg b x):=⟨by simp [Ak]⟩
instance (priority:=low) {K k b:Nat} {e e':Ent} [h:AG Γ b K e] [hn:Bf (nq_ k K)]:AG ((k,e') :: Γ) b K e:=⟨by
 have:=nq_h hn;show (match Nat.beq k K with | true=>some e' | false=>Ak Γ K)=some e
 rw [this];exact h.h⟩
instance {K b:Nat} {e:Ent} [h:AG Γ b K e]:AG ([] ++ Γ) b K e:=⟨h.h⟩
instance {K b:Nat} {p:Nat×Ent} {Δ:Cx} {e:Ent} [h:AG (p :: (Δ ++ Γ)) b K e]:AG ((p :: Δ) ++ Γ) b K e:=⟨h.h⟩
class RC (P:Program) (Γ:Cx) (r:ResultVar) (e:Ent):Prop where h:RS P Γ r e
instance {t:Nat} {e:Ent} [h:Lk (lk Γ t) e] [Zf e]:RC P Γ (.tmp t) e:=⟨rt ((Db _ _).symm.trans h.h)⟩
instance {t m:Nat} {α:Type} {_:Rep α} [h:Lk (lk Γ t) (Qv (.slice none 0 m))]:RC P Γ (.tmp t) (Va ([]:List α)):=⟨ro (qns (Pn.t ((Db _ _).symm.trans h.h)))⟩
instance {t T K b:Nat} {α:Type} {_:Rep α} {x:α} [h:Lk (lk Γ t) (Qv (pb b 0))] [h2:AG Γ b K (Mg b x)] [Ty P T α]:RC P Γ (.cell t T) (Va x):=⟨rc ((Db _ _).symm.trans h.h) h2.h⟩
class RVc (P:Program) (Γ:Cx) (rs:Array ResultVar) (e:Ent):Prop where h:RV P Γ rs e
instance {r:ResultVar} {e:Ent} [h:RC P Γ r e]:RVc P Γ #[r] e:=⟨rv1 h.h⟩
instance {r1 r2:ResultVar} {e1 e2:Ent} [h1:RC P Γ r1 e1] [h2:RC P Γ r2 e2]:RVc P Γ #[r1,r2] (T2 e1 e2):=⟨rv2 h1.h h2.h⟩
instance {r1 r2 r3:ResultVar} {e1 e2 e3:Ent} [h1:RC P Γ r1 e1] [h2:RC P Γ r2 e2] [h3:RC P Γ r3 e3]:RVc P Γ #[r1,r2,r3] (T3 e1 e2 e3):=⟨rv3 h1.h h2.h h3.h⟩
theorem rT {fn:Func} {rr:Option Nat} {Q:Exit->Act->World->Prop} {e:Ent} {r1:ResultVar} (hD:M0.ds=[]) (hs:St M0 w0 n Γ a w) (hq:bqM P fn (Pst M0 w0 e) .ret a w=Q .ret a w) (hr:fn.results=#[r1]) [h:RVc P Γ #[r1] e]:Code.ret.wpIn (Fr rr) 0 P Q a w:=wpIn_ret (hq ▸ rn hD hs hr h.h)
theorem rU {fn:Func} {rr:Option Nat} {Q:Exit->Act->World->Prop} {e:Ent} {r1 r2:ResultVar} (hD:M0.ds=[]) (hs:St M0 w0 n Γ a w) (hq:bqM P fn (Pst M0 w0 e) .ret a w=Q .ret a w) (hr:fn.results=#[r1,r2]) [h:RVc P Γ #[r1,r2] e]:Code.ret.wpIn (Fr rr) 0 P Q a w:=wpIn_ret (hq ▸ rn hD hs hr h.h)
theorem rV {fn:Func} {rr:Option Nat} {Q:Exit->Act->World->Prop} {e:Ent} {r1 r2 r3:ResultVar} (hD:M0.ds=[]) (hs:St M0 w0 n Γ a w) (hq:bqM P fn (Pst M0 w0 e) .ret a w=Q .ret a w) (hr:fn.results=#[r1,r2,r3]) [h:RVc P Γ #[r1,r2,r3] e]:Code.ret.wpIn (Fr rr) 0 P Q a w:=wpIn_ret (hq ▸ rn hD hs hr h.h)
end
end Go.Pn
namespace Go.Pn
open Go Go.RowKit
set_option synthInstance.checkSynthOrder false
class Kw (g:Prop) {ρ:Type} (m:Option ρ) (x:outParam ρ):Prop where h:g->m=some x
theorem Kw.e {ρ:Type} {m:Option ρ} {x:ρ} (h:Kw True m x):m=some x:=h.h trivial
theorem bk {α β:Type} {o:Option α} {f:α->Option β} {r:β} (h:o.bind f=some r):∃ x,Kw True o x/\f x=some r:=let ⟨x,h1,h2⟩:=bs h;⟨x,⟨λ_=>h1⟩,h2⟩
theorem gk {α ρ:Type} [Inhabited α] {B c:Bool} {o:Option α} {k:α->Option ρ} {r:ρ} (h:B=c->o.bind k=some r):∃ x,Kw (B=c) o x/\(B=c->k x=some r):=let ⟨x,h1,h2⟩:=gx h;⟨x,⟨h1⟩,h2⟩
class Kf (g:Prop) {ρ:Type} (m:Option ρ) (x:outParam ρ):Prop where h:g->m=some x
section
variable {g:Prop} {ρ:Type} {m:Option ρ} {x:ρ}
instance [h:Kw g m x]:Kf g m x:=⟨h.h⟩
end
class Pa (b p:Bool) (r:outParam Bool):Prop where
 h:b=true->p=r
 z:b=false->r=false
class Po (b p:Bool) (r:outParam Bool):Prop where
 h:b=false->p=r
 z:b=true->r=true
theorem pka {b p r:Bool} (h:b=true->some p=some r) (e:b=false->some false=some r):Pa b p r:=⟨λx=>si (h x),λx=>(si (e x)).symm⟩
theorem pko {b p r:Bool} (h:b=false->some p=some r) (e:b=true->some true=some r):Po b p r:=⟨λx=>si (h x),λx=>(si (e x)).symm⟩
class Cn (P:Program) (f:FuncId) {ρ:outParam Type} (m:outParam (Option ρ)) (ps:outParam (List Ent)) (E:outParam (ρ->Ent)):Prop where h:∀ x,m=some x->Sp P f ps (E x)
section
variable {g:Prop} {P:Program} {Γ:Cx}
class AX (g:Prop) (Γ:Cx) (x:Operand) (e:Ent):Prop where h:g->Od Γ x e
instance {x:Operand} {e:Ent} [h:AD g Γ x e]:AX g Γ x e:=⟨h.h⟩
class AXl (g:Prop) (Γ:Cx) (xs:List Operand) (es:List Ent):Prop where h:g->Odl Γ xs es
instance:AXl g Γ [] []:=⟨λ_=>on⟩
instance {x:Operand} {xs:List Operand} {e:Ent} {es:List Ent} [h:AX g Γ x e] [Zf e] [h':AXl g Γ xs es]:AXl g Γ (x :: xs) (e :: es):=⟨λhg=>oc (h.h hg) (h'.h hg)⟩
instance {f:FuncId} {ρ:Type} {m:Option ρ} {ps:List Ent} {E:ρ->Ent} {xs:List Operand} {A:Array TypeId} {x:ρ} [hc:Cn P f m ps E] [hA:AXl g Γ xs ps] [hk:Kf g m x] :
  AO g P (.call { callee:=.value (.func f),args:=xs.toArray,argTypes:=A }) Γ (E x):=⟨λhg _=>cc rfl (hA.h hg) (hc.h x (hk.h hg))⟩
instance {T:TypeId} {x i:Operand} {α:Type} {hα:Rep α} {xs:List α} {v:Int} {y:α} [hx:AD g Γ x (Va xs)] [hi:AX g Γ i (Va v)] [he:Es P T α] [hk:Kf g (idx xs v) y] :
  AO g P (.indexAddr T x i) Γ (Pt y):=⟨λhg _=>ix (hx.h hg) (hi.h hg) (hk.h hg)⟩
instance (priority:=high) {c:Operand} {m:Nat} {b p r:Bool} [hc:AD g Γ c (Va b)] [hx:Lk (lk Γ m) (Gd b true (Va p))] [hp:Pa b p r]:AO g P (.pick c (.tmp m) (.const (.bool false))) Γ (Va r):=⟨λh _=>pa (hc.h h) ((Db _ _).symm.trans hx.h) hp.h hp.z⟩
instance (priority:=high) {c:Operand} {m:Nat} {b p r:Bool} [hc:AD g Γ c (Va b)] [hx:Lk (lk Γ m) (Gd b false (Va p))] [hp:Po b p r]:AO g P (.pick c (.const (.bool true)) (.tmp m)) Γ (Va r):=⟨λh _=>po (hc.h h) ((Db _ _).symm.trans hx.h) hp.h hp.z⟩
instance {c:Operand} {m:Nat} {B w b p:Bool} [hc:AD (B=w) Γ c (Va b)] [hx:Lk (lk Γ m) (Gd ((B == w) && (b == true)) true (Va p))]:AO (B=w) P (.pick c (.tmp m) (.const (.bool false))) Γ (Va (b && p)):=⟨λh _=>pagP (hc.h h) ((Db _ _).symm.trans hx.h) λe=>g2 h e⟩
instance {c:Operand} {m:Nat} {B w b p:Bool} [hc:AD (B=w) Γ c (Va b)] [hx:Lk (lk Γ m) (Gd ((B == w) && (b == false)) true (Va p))]:AO (B=w) P (.pick c (.const (.bool true)) (.tmp m)) Γ (Va (b || p)):=⟨λh _=>pogP (hc.h h) ((Db _ _).symm.trans hx.h) λe=>g2 h e⟩
instance {x y:Operand} {T T':TypeId} {m n:Int} [hx:AD g Γ x (Va m)] [hy:AD g Γ y (Va n)]:AO g P (.call { callee:=.builtin .max,args:=#[x,y],argTypes:=#[T,T'] }) Γ (Va (if n > m then n else m)):=⟨λh _=>mx (hx.h h) (hy.h h)⟩
instance {K b:Nat} {cs:L9}:AG ((K,Mr b cs) :: Γ) b K (Mr b cs):=⟨by simp [Ak]⟩
instance {T K b:Nat} {x:Operand} {α:Type} {_:Rep α} {y:α} [hx:AD g Γ x (Qv (pb b 0))] [hk:AG Γ b K (Mg b y)] [Ty P T α]:AO g P (.load T x) Γ (Va y):=⟨λh _=>lm (hx.h h) hk.h⟩
class AFo (α:Type) (hα:Rep α) (off:Nat) (β:outParam Type) (hβ:outParam (Rep β)) (f:outParam (α->β)):Prop where h:DF f off
instance {off:Nat} {α β:Type} {hα:Rep α} {hβ:Rep β} {f:α->β} [h:DF f off]:AFo α hα off β hβ f:=⟨h⟩
instance (priority:=low) {T K b off:Nat} {x:Operand} {α β:Type} {hα:Rep α} {hβ:Rep β} {y:α} {f:α->β} [hx:AD g Γ x (Qv (pb b off))] [hk:AG Γ b K (Mg b y)] [hf:AFo α hα off β hβ f] [Ty P T β]:AO g P (.load T x) Γ (Va (f y)):=⟨λh _=>have:=hf.h;lf (hx.h h) hk.h⟩
class Fo (P:Program) (S k:Nat) (off:outParam Nat):Prop where h:∃ m,Qc P S k=some (off,m + 1)
class Pq (o off:Nat) (q:outParam Nat):Prop where h:o + off=q
instance {o:Nat}:Pq 0 o o:=⟨Nat.zero_add o⟩
instance (priority:=low) {o:Nat}:Pq o 0 o:=⟨rfl⟩
instance {S k b o off q:Nat} {x:Operand} [hx:AD g Γ x (Qv (pb b o))] [hf:Fo P S k off] [hq:Pq o off q]:AO g P (.fieldAddr S x k) Γ (Qv (pb b q)):=⟨λh _=>let ⟨_,e⟩:=hf.h;fm_ (hx.h h) e hq.h⟩
@[reducible] def nth_:L9->Nat->Option Value
 | [],_=>none
 | c :: _,0=>some c
 | _ :: l,j + 1=>nth_ l j
theorem BD:∀ (l:L9) (j:Nat),nth_ l j=l[j]?
 | [],_=>rfl
 | _ :: _,0=>rfl
 | _ :: l,j + 1=>by simpa [nth_] using BD l j
class Nt (o:Option Value) (c:outParam Value):Prop where h:o=some c
instance {c:Value}:Nt (some c) c:=⟨rfl⟩
instance (priority:=low) {T K b off:Nat} {x:Operand} {β:Type} {_:Rep β} {cs:L9} {c:Value} [hx:AD g Γ x (Qv (pb b off))] [hk:AG Γ b K (Mr b cs)] [hc:Nt (nth_ cs off) c] [Ty P T (List β)]:AO g P (.load T x) Γ (Qv c):=⟨λh _=>lrc (List β) (hx.h h) hk.h ((BD _ _).symm.trans hc.h) rfl rfl⟩
instance (priority:=low) {T K b off:Nat} {x:Operand} {cs:L9} {c:Value} [hx:AD g Γ x (Qv (pb b off))] [hk:AG Γ b K (Mr b cs)] [hc:Nt (nth_ cs off) c] [Ty P T Int]:AO g P (.load T x) Γ (Qv c):=⟨λh _=>lrc Int (hx.h h) hk.h ((BD _ _).symm.trans hc.h) rfl rfl⟩
class AR (Γ:Cx) (c:Value) (K:outParam Nat) (ei:outParam Nat) (α:outParam Type) (hα:outParam (Rep α)) (xs:outParam (List α)):Prop where h:Ak Γ K=some (Ow ei c xs)
instance {K ei:Nat} {c:Value} {α:Type} {hα:Rep α} {xs:List α}:AR ((K,Ow ei c xs) :: Γ) c K ei α hα xs:=⟨by simp [Ak]⟩
instance (priority:=low) {K k ei:Nat} {c:Value} {e':Ent} {α:Type} {hα:Rep α} {xs:List α} [h:AR Γ c K ei α hα xs] [hn:Bf (nq_ k K)]:AR ((k,e') :: Γ) c K ei α hα xs:=⟨by
 have:=nq_h hn;show (match Nat.beq k K with | true=>some e' | false=>Ak Γ K)=some (Ow ei c xs)
 rw [this];exact h.h⟩
instance {K ei:Nat} {c:Value} {α:Type} {hα:Rep α} {xs:List α} [h:AR Γ c K ei α hα xs]:AR ([] ++ Γ) c K ei α hα xs:=⟨h.h⟩
instance {K ei:Nat} {c:Value} {p:Nat×Ent} {Δ:Cx} {α:Type} {hα:Rep α} {xs:List α} [h:AR (p :: (Δ ++ Γ)) c K ei α hα xs]:AR ((p :: Δ) ++ Γ) c K ei α hα xs:=⟨h.h⟩
instance {T K e:Nat} {x i:Operand} {c:Value} {α:Type} {hα:Rep α} {xs:List α} {m:Int} {y:α} [hx:AD g Γ x (Qv c)] [hk:AR Γ c K e α hα xs] [hi:AX g Γ i (Va m)] [he:Ea P T e α] [h:Kf g (idx xs m) y]:AO g P (.indexAddr T x i) Γ (Pe c (m.toNat * Rep.sz α)):=⟨λhg _=>ixq (hx.h hg) hk.h (hi.h hg) (h.h hg)⟩
instance {T K e:Nat} {x:Operand} {c:Value} {α:Type} {hα:Rep α} {xs:List α} {m:Int} {y:α} [hx:AD g Γ x (Pe c (m.toNat * Rep.sz α))] [hk:AR Γ c K e α hα xs] [Ty P T α] [h:Kf g (idx xs m) y]:AO g P (.load T x) Γ (Va y):=⟨λhg _=>lq (hx.h hg) hk.h (Do (h.h hg))⟩
instance {T K e:Nat} {x:Operand} {c:Value} {α:Type} {hα:Rep α} {xs:List α} [hx:AD g Γ x (Qv c)] [hk:AR Γ c K e α hα xs] [he:Ea P T e α]:AO g P (.call { callee:=.builtin .len,args:=#[x],argTypes:=#[T] }) Γ (Va (xs.length:Int)):=⟨λhg _=>lnq (hx.h hg) hk.h⟩
class Smz (α:Type) [Rep α]:Prop where h:Nat.ble (Rep.sz α) 1000000=true
theorem Smz.le {α:Type} [Rep α] [h:Smz α] {k:Nat} (hk:Nat.ble k 16=true):Nat.ble (k * Rep.sz α) 16777216=true:=by
 have h1:=GD h.h;have h2:=GD hk;refine LQ ?_;exact G3 (KR h2 h1) (by decide)
instance {T e:Nat} {α:Type} {_:Rep α} [Ea P T e α] [Smz α] {x:Operand} {y:α} [hx:AX g Γ x (Va y)]:AO g P (.buildSlice T 1 #[(0,x)]) Γ (Va [y]):=⟨λhg _=>bsv (o1 (hx.h hg) o0) rfl rfl (Smz.le rfl)⟩
instance {T e:Nat} {α:Type} {_:Rep α} [Ea P T e α] [Smz α] {x x2:Operand} {y y2:α} [hx:AX g Γ x (Va y)] [hx2:AX g Γ x2 (Va y2)]:AO g P (.buildSlice T 2 #[(0,x),(1,x2)]) Γ (Va [y,y2]):=⟨λhg _=>bsv (o1 (hx.h hg) (o1 (hx2.h hg) o0)) rfl rfl (Smz.le rfl)⟩
theorem Tf {ks:L8} {t:Nat} {Δ Γ:Cx} (ht:t∈ks):Ak (Cv ks Δ ++ Γ) t=Ak (Δ ++ Γ) t:=by
 induction Δ with
 | nil=>rfl
 | cons p Δ ih=>
  obtain ⟨s,e⟩:=p;show Ak ((match ks.contains s with | true=>(s,e) :: Cv ks Δ | false=>Cv ks Δ) ++ Γ) t=(match Nat.beq s t with | true=>some e | false=>Ak (Δ ++ Γ) t)
  split
  ·show (match Nat.beq s t with | true=>some e | false=>Ak (Cv ks Δ ++ Γ) t)=_
   rw [ih]
  ·rename_i hc;split
   ·rename_i hb;have:=H9 hb;subst this;simp at hc;exact absurd ht hc
   ·exact ih
class Ot (op:Op) (n:Nat):Prop where h:n∈Ap op
class Ml (n:Nat) (xs:List Operand):Prop where h:Operand.tmp n∈xs
instance {n:Nat} {xs:List Operand}:Ml n (.tmp n :: xs):=⟨by simp⟩
instance (priority:=low) {n:Nat} {x:Operand} {xs:List Operand} [h:Ml n xs]:Ml n (x :: xs):=⟨by simp [h.h]⟩
instance {n:Nat}:Ot (.move (.tmp n)) n:=⟨by simp [Ap,Op.operands]⟩
instance {n:Nat} {o:BinOp} {T T':TypeId} {y:Operand}:Ot (.binOp o T (.tmp n) y T') n:=⟨by simp [Ap,Op.operands]⟩
instance {n:Nat} {o:BinOp} {T T':TypeId} {x:Operand}:Ot (.binOp o T x (.tmp n) T') n:=⟨by simp [Ap,Op.operands]⟩
instance {n:Nat} {o:UnOp} {T:TypeId}:Ot (.unOp o T (.tmp n)) n:=⟨by simp [Ap,Op.operands]⟩
instance {n k:Nat}:Ot (.extract (.tmp n) k) n:=⟨by simp [Ap,Op.operands]⟩
instance {n T:Nat}:Ot (.load T (.tmp n)) n:=⟨by simp [Ap,Op.operands]⟩
instance {n:Nat}:Ot (.nilCheck (.tmp n)) n:=⟨by simp [Ap,Op.operands]⟩
instance {n S k:Nat}:Ot (.fieldAddr S (.tmp n) k) n:=⟨by simp [Ap,Op.operands]⟩
instance {n T:Nat} {y:Operand}:Ot (.indexAddr T (.tmp n) y) n:=⟨by simp [Ap,Op.operands]⟩
instance {n T:Nat} {x:Operand}:Ot (.indexAddr T x (.tmp n)) n:=⟨by simp [Ap,Op.operands]⟩
instance {n:Nat} {x y:Operand}:Ot (.pick (.tmp n) x y) n:=⟨by simp [Ap,Op.operands]⟩
instance {n:Nat} {x y:Operand}:Ot (.pick x (.tmp n) y) n:=⟨by simp [Ap,Op.operands]⟩
instance {n:Nat} {x y:Operand}:Ot (.pick x y (.tmp n)) n:=⟨by simp [Ap,Op.operands]⟩
instance {n T i:Nat}:Ot (.buildSlice T 1 #[(i,.tmp n)]) n:=⟨by simp [Ap,Op.operands]⟩
instance {n:Nat} {f:FuncId} {xs:List Operand} {A:Array TypeId} [h:Ml n xs]:Ot (.call { callee:=.value (.func f),args:=xs.toArray,argTypes:=A }) n:=⟨by simp only [Ap,Op.operands,Call.operands,J4];exact ⟨.tmp n,by simp [h.h],rfl⟩⟩
instance {n:Nat} {f:Builtin} {xs:List Operand} {A:Array TypeId} [h:Ml n xs]:Ot (.call { callee:=.builtin f,args:=xs.toArray,argTypes:=A }) n:=⟨by simp only [Ap,Op.operands,Call.operands,J4];exact ⟨.tmp n,by simp [h.h],rfl⟩⟩
instance {op:Op} {Δ:Cx} {n:Nat} {e:Ent} [hl:Lk (lk2 Δ Γ n) e] [ho:Ot op n]:Lk (lk (Cv (Ap op) Δ ++ Γ) n) e:=⟨by
 rw [Db];have h1:=hl.h;rw [C0,Db] at h1;exact (Tf ho.h).trans h1⟩
class Nk (Δ:Cx) (K:Nat):Prop where h:Ak Δ K=none
instance {K:Nat}:Nk [] K:=⟨rfl⟩
instance {Δ:Cx} {K k:Nat} {e:Ent} [hn:Bf (nq_ k K)] [h:Nk Δ K]:Nk ((k,e) :: Δ) K:=⟨by
 have:=nq_h hn;show (match Nat.beq k K with | true=>some e | false=>Ak Δ K)=none
 rw [this];exact h.h⟩
theorem Jm {Δ Γ:Cx} {K:Nat} (h:Ak Δ K=none):Ak (Δ ++ Γ) K=Ak Γ K:=by
 induction Δ with
 | nil=>rfl
 | cons p Δ ih=>
  obtain ⟨k,e⟩:=p;have h':(match Nat.beq k K with | true=>some e | false=>Ak Δ K)=none:=h
  show (match Nat.beq k K with | true=>some e | false=>Ak (Δ ++ Γ) K)=Ak Γ K
  split at h'
  ·cases h'
  ·exact ih h'
theorem Gq {Δ:Cx} {ks:L8} {K:Nat} (h:Ak Δ K=none):Ak (Cv ks Δ) K=none:=by
 cases hl:Ak (Cv ks Δ) K with
 | none=>rfl
 | some e=>exact absurd (Bs hl).2 (by rw [h];simp)
instance {Δ:Cx} {ks:L8} {b K:Nat} {e:Ent} [h:AG Γ b K e] [hn:Nk Δ K]:AG (Cv ks Δ ++ Γ) b K e:=⟨(Jm (Gq hn.h)).trans h.h⟩
instance {Δ:Cx} {ks:L8} {c:Value} {K ei:Nat} {α:Type} {hα:Rep α} {xs:List α} [h:AR Γ c K ei α hα xs] [hn:Nk Δ K]:AR (Cv ks Δ ++ Γ) c K ei α hα xs:=⟨(Jm (Gq hn.h)).trans h.h⟩
class Fs (P:Program) (L:List Oper) (k:Nat) (l:List Oper) (i:Nat) (Γ Δ:Cx) (Δ':outParam Cx) (l':outParam (List Oper)):Prop where
 h:∀ {ops:Array Oper},ops.toList=L->L.drop i=l->Fl P ops Γ i Δ->Fl P ops Γ (i + k) Δ'/\L.drop (i + k)=l'
variable {L:List Oper} {k i:Nat} {Δ Δ':Cx} {l':List Oper}
instance {l:List Oper}:Fs P L 0 l i Γ Δ Δ l:=⟨λ_ h2 h=>⟨h,h2⟩⟩
theorem fs_at {ops:Array Oper} {L l:List Oper} {o:Oper} {i:Nat} (h:ops.toList=L) (hd:L.drop i=o :: l):ops[i]?=some o/\L.drop (i + 1)=l:=by
 subst h;constructor
 ·rw [← HW,← List.head?_drop,hd];rfl
 ·rw [← List.drop_drop,hd];rfl
instance {l:List Oper} {op:Op} {d:Tmp} {ty:TypeId} {pos:String} {aft:Array Edge} {e:Ent} [ho:AO True P op (Cv (Ap op) Δ ++ Γ) e] [hr:Fs P L k l (i + 1) Γ ((d,e) :: Δ) Δ' l'] :
  Fs P L (k + 1) (⟨some d,op,ty,pos,aft,none⟩ :: l) i Γ Δ Δ' l':=⟨λh1 h2 h=>by
 have h3:=fs_at h1 h2;have:=hr.h h1 h3.2 (.cons h h3.1 (ho.h trivial ty))
 rwa [Nat.add_right_comm] at this⟩
instance {l:List Oper} {op:Op} {d j dj:Tmp} {b want:Bool} {ty:TypeId} {pos:String} {aft:Array Edge} {e:Ent} [hj:Gt (gt_ L j) dj] [hl:Lk (lk Δ dj) (Va b)] [ho:AO (b=want) P op (Cv (Ap op) Δ ++ Γ) e] [hr:Fs P L k l (i + 1) Γ ((d,Gd b want e) :: Δ) Δ' l'] :
  Fs P L (k + 1) (⟨some d,op,ty,pos,aft,some (j,want)⟩ :: l) i Γ Δ Δ' l':=⟨λh1 h2 h=>by
 have h3:=fs_at h1 h2;have:=hr.h h1 h3.2 (.cong h h3.1 (gt_o h1 hj.h) ((Db _ _).symm.trans hl.h) λhb=>ho.h hb ty)
 rwa [Nat.add_right_comm] at this⟩
theorem fW {n id:Nat} {M0:Fm} {w0:World} [hmx:Mx P] {rr:Option Nat} {ops:Array Oper} {Q:Exit->Act->World->Prop} {a:Act} {w:World} (m:Nat) (hs:St M0 w0 n Γ a w) [hfl:Fs P ops.toList m ops.toList 0 Γ [] Δ l'] (hf:Jr ops m=true)
  (hdj:Δ.all (λx=>(Ak Γ x.1).isNone)=true) (hn:Δ.all (λx=>Nat.blt x.1 n)=true)
  (K:∀ a' w',St M0 w0 n (Δ ++ Γ) a' w'->wpListIn (Fr rr) 0 P ops Q l' a' w'):(Code.region id ops true).wpIn (Fr rr) 0 P Q a w:=by
 have:=hfl.h rfl rfl .nil;rw [JA] at this;exact Gr (m:=m) hs this.1 hf hdj hn λa' w' s=>by rw [this.2];exact K a' w' s
class Zc (P:Program) (T:TypeId) (cs:outParam L9):Prop where h:∀ ty Γ,OR P (.alloc T) ty Γ (MR cs)
theorem aR {n:Nat} {M0:Fm} {w0:World} {rr:Option Nat} {Q:Exit->Act->World->Prop} {a:Act} {w:World} {ops:Array Oper} {rest:List Oper} {d T:Nat} {ty:TypeId} {pos:String} {aft:Array Edge} {cs:L9} (K:Nat)
  (hs:St M0 w0 n Γ a w) [hz:Zc P T cs] [hn:Bf (F0 d n)] [hdk:Bf (nq_ d K)]
  (k:∀ b a' w',St M0 w0 n ((d,Qv (pb b 0)) :: (K,Mr b cs) :: (d,MR cs) :: Γ) a' w'->wpListIn (Fr rr) 0 P ops Q rest a' w'):wpListIn (Fr rr) 0 P ops Q (⟨some d,.alloc T,ty,pos,aft,none⟩ :: rest) a w:=
 sqr K hs (hz.h ty Γ) hn.lt (nq_h hdk) k
theorem sW {n:Nat} {M0:Fm} {w0:World} {rr:Option Nat} {Q:Exit->Act->World->Prop} {a:Act} {w:World} {ops:Array Oper} {rest:List Oper} {T K b:Nat} {x y:Operand} {ty:TypeId} {pos:String} {aft:Array Edge} {α:Type} {_:Rep α} [Ty P T α] {v:α} {cs:L9}
  (hs:St M0 w0 n Γ a w) [hx:AD True Γ x (Qv (pb b 0))] [hk:AG Γ b K (Mr b cs)] [hy:AD True Γ y (Va v)] (hl:cs.length=Rep.sz α)
  (k:∀ w',St M0 w0 n ((K,Mg b v) :: Γ) a w'->wpListIn (Fr rr) 0 P ops Q rest a w'):wpListIn (Fr rr) 0 P ops Q (⟨none,.store T x y,ty,pos,aft,none⟩ :: rest) a w:=
 swd hs (hx.h trivial) hk.h (hy.h trivial) hl k
end
end Go.Pn
namespace Go.Pn
open Go Go.RowKit
@[reducible] def ap_:Cx->Cx->Cx
 | [],Γ=>Γ
 | p :: l,Γ=>p :: ap_ l Γ
class Pj (Γ:Cx) (ks:L8) (Γ':outParam Cx):Prop where h:∀ t e,Ak Γ' t=some e->Ak Γ t=some e
instance {Γ:Cx}:Pj Γ [] []:=⟨λ_ _ h=>by cases h⟩
instance {Γ Γ':Cx} {k:Nat} {ks:L8} {e:Ent} [h:Lk (lk Γ k) e] [h':Pj Γ ks Γ']:Pj Γ (k :: ks) ((k,e) :: Γ'):=⟨λt e1 he=>by
 rw [Ah] at he;unfold put at he;split at he
 ·rename_i ht;subst ht;cases he;exact (Db _ _).symm.trans h.h
 ·exact h'.h t e1 he⟩
section
variable {rr:Option Nat} {P:Program} {M0:Fm} {w0:World} {nn:Nat} {Γ Γ0:Cx} {Q:Exit->Act->World->Prop} {a:Act} {w:World}
theorem lA {c:Code} {id:Nat} {S τ:Type} {m:Nat->S->Option S} {f:Nat} {s0:S} {k:S->Option τ} {r:τ} (hm:(m f s0).bind k=some r) (ks:L8) (s:St M0 w0 nn Γ a w) [Pj Γ ks Γ0] (C:S->Cx) (h0:St M0 w0 nn (ap_ (C s0) Γ0) a w) (hz:∀ s,m 0 s=none)
  (hb:∀ o,k o=some r->∀ n z a w,m (n + 1) z=some o->St M0 w0 nn (ap_ (C z) Γ0) a w->c.wpIn (Fr rr) 0 P (Exit.then (λa' w'=>∃ s',m n s'=some o/\St M0 w0 nn (ap_ (C s') Γ0) a' w') (Exit.inBlock id (Exit.then (λa w=>St M0 w0 nn (ap_ (C o) Γ0) a w) Q))) a w)
  (hc:∀ o,k o=some r->∀ a w,St M0 w0 nn (ap_ (C o) Γ0) a w->Q .normal a w):(Code.block id (Code.loop c)).wpIn (Fr rr) 0 P Q a w:=
 la hm (λz a w=>St M0 w0 nn (ap_ (C z) Γ0) a w) h0 hz hb hc
theorem lA1 {c:Code} {id:Nat} {S τ:Type} {m:Nat->S->Option S} {f:Nat} {s0:S} {k:S->Option τ} {r:τ} (hm:(m f s0).bind k=some r) (ks:L8) (s:St M0 w0 nn Γ a w) [Pj Γ ks Γ0] (C:S->Value->Cx) (h0:∃ v,St M0 w0 nn (ap_ (C s0 v) Γ0) a w) (hz:∀ s,m 0 s=none)
  (hb:∀ o,k o=some r->∀ n z a w,m (n + 1) z=some o->(∃ v,St M0 w0 nn (ap_ (C z v) Γ0) a w)->c.wpIn (Fr rr) 0 P (Exit.then (λa' w'=>∃ s',m n s'=some o/\∃ v,St M0 w0 nn (ap_ (C s' v) Γ0) a' w') (Exit.inBlock id (Exit.then (λa w=>∃ v,St M0 w0 nn (ap_ (C o v) Γ0) a w) Q))) a w)
  (hc:∀ o,k o=some r->∀ a w,(∃ v,St M0 w0 nn (ap_ (C o v) Γ0) a w)->Q .normal a w):(Code.block id (Code.loop c)).wpIn (Fr rr) 0 P Q a w:=
 la hm (λz a w=>∃ v,St M0 w0 nn (ap_ (C z v) Γ0) a w) h0 hz hb hc
theorem lB {c:Code} {id:Nat} {S ρ τ:Type} {m:Nat->S->Option (Lo S ρ)} {f:Nat} {s0:S} {k:Lo S ρ->Option τ} {r:τ} (hm:(m f s0).bind k=some r) (ks:L8) (s:St M0 w0 nn Γ a w) [Pj Γ ks Γ0] (C:S->Cx) (h0:St M0 w0 nn (ap_ (C s0) Γ0) a w) (hz:∀ s,m 0 s=none)
  (hb:∀ o,k o=some r->∀ n z a w,m (n + 1) z=some o->St M0 w0 nn (ap_ (C z) Γ0) a w->c.wpIn (Fr rr) 0 P (Exit.then (λa' w'=>∃ s',m n s'=some o/\St M0 w0 nn (ap_ (C s') Γ0) a' w') (Exit.inBlock id (Exit.then (λa w=>∃ z,o=.brk z/\St M0 w0 nn (ap_ (C z) Γ0) a w) Q))) a w)
  (hc:∀ z,k (.brk z)=some r->∀ a w,St M0 w0 nn (ap_ (C z) Γ0) a w->Q .normal a w):(Code.block id (Code.loop c)).wpIn (Fr rr) 0 P Q a w:=
 lb hm (λz a w=>St M0 w0 nn (ap_ (C z) Γ0) a w) h0 hz hb hc
theorem lB1 {c:Code} {id:Nat} {S ρ τ:Type} {m:Nat->S->Option (Lo S ρ)} {f:Nat} {s0:S} {k:Lo S ρ->Option τ} {r:τ} (hm:(m f s0).bind k=some r) (ks:L8) (s:St M0 w0 nn Γ a w) [Pj Γ ks Γ0] (C:S->Value->Cx) (h0:∃ v,St M0 w0 nn (ap_ (C s0 v) Γ0) a w) (hz:∀ s,m 0 s=none)
  (hb:∀ o,k o=some r->∀ n z a w,m (n + 1) z=some o->(∃ v,St M0 w0 nn (ap_ (C z v) Γ0) a w)->c.wpIn (Fr rr) 0 P (Exit.then (λa' w'=>∃ s',m n s'=some o/\∃ v,St M0 w0 nn (ap_ (C s' v) Γ0) a' w') (Exit.inBlock id (Exit.then (λa w=>∃ z,o=.brk z/\∃ v,St M0 w0 nn (ap_ (C z v) Γ0) a w) Q))) a w)
  (hc:∀ z,k (.brk z)=some r->∀ a w,(∃ v,St M0 w0 nn (ap_ (C z v) Γ0) a w)->Q .normal a w):(Code.block id (Code.loop c)).wpIn (Fr rr) 0 P Q a w:=
 lb hm (λz a w=>∃ v,St M0 w0 nn (ap_ (C z v) Γ0) a w) h0 hz hb hc
theorem lB2 {c:Code} {id:Nat} {S ρ τ:Type} {m:Nat->S->Option (Lo S ρ)} {f:Nat} {s0:S} {k:Lo S ρ->Option τ} {r:τ} (hm:(m f s0).bind k=some r) (ks:L8) (s:St M0 w0 nn Γ a w) [Pj Γ ks Γ0] (C:S->Value->Value->Cx) (h0:∃ v u,St M0 w0 nn (ap_ (C s0 v u) Γ0) a w) (hz:∀ s,m 0 s=none)
  (hb:∀ o,k o=some r->∀ n z a w,m (n + 1) z=some o->(∃ v u,St M0 w0 nn (ap_ (C z v u) Γ0) a w)->c.wpIn (Fr rr) 0 P (Exit.then (λa' w'=>∃ s',m n s'=some o/\∃ v u,St M0 w0 nn (ap_ (C s' v u) Γ0) a' w') (Exit.inBlock id (Exit.then (λa w=>∃ z,o=.brk z/\∃ v u,St M0 w0 nn (ap_ (C z v u) Γ0) a w) Q))) a w)
  (hc:∀ z,k (.brk z)=some r->∀ a w,(∃ v u,St M0 w0 nn (ap_ (C z v u) Γ0) a w)->Q .normal a w):(Code.block id (Code.loop c)).wpIn (Fr rr) 0 P Q a w:=
 lb hm (λz a w=>∃ v u,St M0 w0 nn (ap_ (C z v u) Γ0) a w) h0 hz hb hc
theorem cP {c:Code} (ks:L8) (s:St M0 w0 nn Γ a w) [Pj Γ ks Γ0] (C:Cx) (h:c.wpIn (Fr rr) 0 P (Exit.then (λa w=>St M0 w0 nn (ap_ C Γ0) a w) Q) a w) (h':∀ a w,St M0 w0 nn (ap_ C Γ0) a w->Q .normal a w):c.wpIn (Fr rr) 0 P Q a w:=cpI _ h h'
theorem cP1 {c:Code} (ks:L8) (s:St M0 w0 nn Γ a w) [Pj Γ ks Γ0] (C:Value->Cx) (h:c.wpIn (Fr rr) 0 P (Exit.then (λa w=>∃ v,St M0 w0 nn (ap_ (C v) Γ0) a w) Q) a w) (h':∀ a w,(∃ v,St M0 w0 nn (ap_ (C v) Γ0) a w)->Q .normal a w):c.wpIn (Fr rr) 0 P Q a w:=cpI _ h h'
end
end Go.Pn
namespace Go.Pn
open Go Go.RowKit
section
variable {Γ:Cx} {x:Operand} {α:Type} [Rep α]
theorem pv {y:α} (h:Od Γ x (Pt y)):Od Γ x (Va (some y)):=λρ M w r=>by
 obtain ⟨F,hF,b,o,hv,hp⟩:=h ρ M w r;exact ⟨F,hF,[.pointer (some ⟨b,o,none⟩)],hv,b,o,rfl,hp⟩
theorem vp {y:α} {o:Option α} (h:Od Γ x (Va o)) (e:o=some y):Od Γ x (Pt y):=λρ M w r=>by
 subst e;obtain ⟨F,hF,cs,hv,b,o,rfl,hp⟩:=h ρ M w r;exact ⟨F,hF,b,o,hv,hp⟩
theorem pnl (h:Od Γ x (Qv (.pointer none))):Od Γ x (Va (none:Option α)):=λρ M w r=>by
 obtain ⟨F,hF,hv⟩:=h ρ M w r;exact ⟨F,hF,[.pointer none],hv,rfl⟩
end
end Go.Pn
set_option maxRecDepth 100000
namespace Go.Pn
open Go Go.RowKit Go.Proofs
instance:Fo Tryz.prog 26 2 2:=⟨0,by kernel_rfl⟩
instance:Fo Tryz.prog 70 0 0:=⟨0,by kernel_rfl⟩
instance:Fo Tryz.prog 70 1 1:=⟨0,by kernel_rfl⟩
instance:Fo Tryz.prog 77 0 0:=⟨0,by kernel_rfl⟩
instance:Fo Tryz.prog 77 1 1:=⟨0,by kernel_rfl⟩
instance:Fo Tryz.prog 95 0 0:=⟨0,by kernel_rfl⟩
instance:Fo Tryz.prog 95 1 1:=⟨0,by kernel_rfl⟩
instance:Fo Tryz.prog 95 3 3:=⟨0,by kernel_rfl⟩
instance:Fo Tryz.prog 105 0 0:=⟨0,by kernel_rfl⟩
instance:Fo Tryz.prog 105 1 1:=⟨0,by kernel_rfl⟩
instance:Fo Tryz.prog 105 2 2:=⟨0,by kernel_rfl⟩
instance:Fo Tryz.prog 105 3 3:=⟨0,by kernel_rfl⟩
instance:Fo Tryz.prog 105 4 4:=⟨0,by kernel_rfl⟩
instance:Fo Tryz.prog 133 0 0:=⟨0,by kernel_rfl⟩
instance:Fo Tryz.prog 133 1 1:=⟨0,by kernel_rfl⟩
instance:Fo Tryz.prog 133 2 2:=⟨2,by kernel_rfl⟩
instance:Fo Tryz.prog 133 3 5:=⟨2,by kernel_rfl⟩
instance:Fo Tryz.prog 133 4 8:=⟨0,by kernel_rfl⟩
instance:Fo Tryz.prog 133 5 9:=⟨0,by kernel_rfl⟩
instance:Fo Tryz.prog 136 1 2:=⟨0,by kernel_rfl⟩
instance:Fo Tryz.prog 238 0 0:=⟨4,by kernel_rfl⟩
instance:Fo Tryz.prog 238 1 5:=⟨0,by kernel_rfl⟩
instance:Fo Tryz.prog 238 2 6:=⟨2,by kernel_rfl⟩
instance:Fo Tryz.prog 246 0 0:=⟨4,by kernel_rfl⟩
instance:Fo Tryz.prog 299 0 0:=⟨4,by kernel_rfl⟩
instance:Fo Tryz.prog 299 1 5:=⟨4,by kernel_rfl⟩
instance:Fo Tryz.prog 299 2 10:=⟨0,by kernel_rfl⟩
instance:Fo Tryz.prog 309 0 0:=⟨0,by kernel_rfl⟩
instance:Fo Tryz.prog 309 1 1:=⟨0,by kernel_rfl⟩
instance:Fo Tryz.prog 326 0 0:=⟨0,by kernel_rfl⟩
instance:Fo Tryz.prog 326 1 1:=⟨0,by kernel_rfl⟩
instance:Fo Tryz.prog 326 2 2:=⟨0,by kernel_rfl⟩
instance:Zc Tryz.prog 24 [(.slice none 0 0)]:=⟨λ_ _=>alr (z:=(.slice none 0 0)) kr_ rfl rfl⟩
instance:Zc Tryz.prog 29 [(.slice none 0 0),(.slice none 0 0)]:=⟨λ_ _=>alr (z:=.agg #[(.slice none 0 0),(.slice none 0 0)]) kr_ rfl rfl⟩
instance:Zc Tryz.prog 70 [(.slice none 0 0),(.slice none 0 0)]:=⟨λ_ _=>alr (z:=.agg #[(.slice none 0 0),(.slice none 0 0)]) kr_ rfl rfl⟩
instance:Zc Tryz.prog 77 [(.slice none 0 0),(.slice none 0 0)]:=⟨λ_ _=>alr (z:=.agg #[(.slice none 0 0),(.slice none 0 0)]) kr_ rfl rfl⟩
instance:Zc Tryz.prog 95 [(.slice none 0 0),(.int .i64 (0:Int)),(.map none),(.slice none 0 0)]:=⟨λ_ _=>alr (z:=.agg #[(.slice none 0 0),(.int .i64 (0:Int)),(.map none),(.slice none 0 0)]) kr_ rfl rfl⟩
instance:Zc Tryz.prog 105 [(.slice none 0 0),(.slice none 0 0),(.slice none 0 0),(.slice none 0 0),(.slice none 0 0)]:=⟨λ_ _=>alr (z:=.agg #[(.slice none 0 0),(.slice none 0 0),(.slice none 0 0),(.slice none 0 0),(.slice none 0 0)]) kr_ rfl rfl⟩
instance:Zc Tryz.prog 111 [(.map none)]:=⟨λ_ _=>alr (z:=(.map none)) kr_ rfl rfl⟩
instance:Zc Tryz.prog 129 [(.int .i64 (0:Int)),(.int .i64 (0:Int)),(.slice none 0 0)]:=⟨λ_ _=>alr (z:=.agg #[(.int .i64 (0:Int)),(.int .i64 (0:Int)),(.slice none 0 0)]) kr_ rfl rfl⟩
instance:Zc Tryz.prog 133 [(.string ByteArray.empty),(.int .i64 (0:Int)),(.int .i64 (0:Int)),(.int .i64 (0:Int)),(.slice none 0 0),(.int .i64 (0:Int)),(.int .i64 (0:Int)),(.slice none 0 0),(.int .i64 (0:Int)),(.bool false)]:=⟨λ_ _=>alr (z:=.agg #[(.string ByteArray.empty),(.int .i64 (0:Int)),(.int .i64 (0:Int)),(.int .i64 (0:Int)),(.slice none 0 0),(.int .i64 (0:Int)),(.int .i64 (0:Int)),(.slice none 0 0),(.int .i64 (0:Int)),(.bool false)]) kr_ rfl rfl⟩
instance:Zc Tryz.prog 155 [(.int .i64 (0:Int)),(.int .i64 (0:Int))]:=⟨λ_ _=>alr (z:=.agg #[(.int .i64 (0:Int)),(.int .i64 (0:Int))]) kr_ rfl rfl⟩
instance:Zc Tryz.prog 248 [.nilFunc,.nilFunc,.nilFunc]:=⟨λ_ _=>alr (z:=.agg #[.nilFunc,.nilFunc,.nilFunc]) kr_ rfl rfl⟩
instance:Zc Tryz.prog 323 [.nilFunc,.nilFunc,.nilFunc]:=⟨λ_ _=>alr (z:=.agg #[.nilFunc,.nilFunc,.nilFunc]) kr_ rfl rfl⟩
instance:Smz Int:=⟨rfl⟩
instance:Smz Bool:=⟨rfl⟩
instance:Smz MA:=⟨rfl⟩
instance:Smz Ab:=⟨rfl⟩
instance:Smz Ac:=⟨rfl⟩
instance:Smz Ae:=⟨rfl⟩
instance:Smz Expr:=⟨rfl⟩
instance:Smz Ad:=⟨rfl⟩
instance {α:Type} [Rep α]:Smz (List α):=⟨rfl⟩
end Go.Pn
namespace Go.Pn
open Go Go.RowKit
variable {rr:Option Nat}
section
variable {P:Program} {ops:Array Oper} {Γ:Cx}
theorem AW {F:Fence} {n:Nat} {o:Oper} {a:Act} {w:World} {K D:Act->World->Prop} {Q:Exit->Act->World->Prop} (h:o.wpIn F n P a w K (Exit.then D Q)):o.wpIn F n P a w K Q:=by
 unfold Oper.wpIn at *;refine ⟨h.1,?_⟩;have h:=h.2;generalize (o.semAt F.round a.eval).run P w=r at *;cases r with
 | ok x w'=>cases x <;> exact h
 | halt x w'=>cases x <;> exact h
inductive F3 (P:Program) (ops:Array Oper) (Γ:Cx) (k:Nat):Nat->Cx->Prop
 | nil:F3 P ops Γ k k []
 | cons {i d:Nat} {Δ:Cx} {op:Op} {ty:TypeId} {pos:String} {aft:Array Edge} {e:Ent} (h:F3 P ops Γ k i Δ)
   (ho:ops[i]?=some ⟨some d,op,ty,pos,aft,none⟩) (hr:OR P op ty (Cv (Ap op) Δ ++ Γ) e):F3 P ops Γ k (i + 1) ((d,e) :: Δ)
theorem F3.ge {k i:Nat} {Δ:Cx} (h:F3 P ops Γ k i Δ):k<=i:=by
 induction h with
 | nil=>exact GS _
 | cons _ _ _ ih=>omega
theorem F3.key {k i:Nat} {Δ:Cx} (h:F3 P ops Γ k i Δ):∀ t e,Ak Δ t=some e->∃ j,k<=j/\j < i/\Ba ops j=some t:=by
 induction h with
 | nil=>intro t e h;cases h
 | cons h ho hr ih=>
  rename_i i d Δ op ty pos aft e;intro t e' he;rw [Ah] at he;unfold put at he;split at he
  ·rename_i ht;subst ht;exact ⟨i,h.ge,by omega,by simp [Ba,ho]⟩
  ·obtain ⟨j,a,b,c⟩:=ih t e' he;exact ⟨j,a,by omega,c⟩
theorem F3.at_ {k N:Nat} {Δ:Cx} (h:F3 P ops Γ k N Δ) (hu:∀ i j,k<=i->i < N->k<=j->j < N->i≠j->∀ d,Ba ops i=some d->Ba ops j≠some d):∀ i,k<=i->i < N->∃ d op ty pos aft e Δi,ops[i]?=some ⟨some d,op,ty,pos,aft,none⟩/\OR P op ty (Cv (Ap op) Δi ++ Γ) e/\Ak Δ d=some e/\(∀ t e',Ak Δi t=some e'->Ak Δ t=some e'):=by
 induction h with
 | nil=>intro i h1 h2;omega
 | cons h ho hr ih=>
  rename_i n d Δ op ty pos aft e;intro i h1 h2;have keep:∀ t e',Ak Δ t=some e'->Ak ((d,e) :: Δ) t=some e':=λt e' he=>by
   obtain ⟨j,b1,b2,b3⟩:=h.key t e' he;have hne:t≠d:=λhh=>by
    subst hh;exact hu j n b1 om_ h.ge om_ om_ t b3 (by simp [Ba,ho])
   rw [Ah];unfold put;rw [if_neg hne];exact he
  by_cases hin:i=n
  ·subst hin;exact ⟨d,op,ty,pos,aft,e,Δ,ho,hr,by rw [Ah];unfold put;rw [if_pos rfl],keep⟩
  ·obtain ⟨d',op',ty',pos',aft',e',Δi,a1,a2,a3,a4⟩:=ih (λi j p1 p2 p3 p4 p5 d hd=>hu i j p1 om_ p3 om_ p5 d hd) i h1 om_;exact ⟨d',op',ty',pos',aft',e',Δi,a1,a2,keep _ _ a3,λt x hx=>keep _ _ (a4 t x hx)⟩
open Classical in
noncomputable def gC (ops:Array Oper) (Γ Δ:Cx) (k:Nat) (listed:Array Bool):Mp:=λt=>if ∃ j,k<=j/\listed.getD j false=true/\Ba ops j=some t then Ak Δ t else Ak Γ t
def D3_ (P:Program) (ops:Array Oper) (k:Nat) (M0:Fm) (w0:World) (n:Nat) (Q:Exit->Act->World->Prop) (a:Act) (w:World):Prop:=
 ∃ Γ Δ:Cx,St M0 w0 n Γ a w/\F3 P ops Γ k ops.size Δ/\Δ.all (λx=>(Ak Γ x.1).isNone)=true/\Δ.all (λx=>Nat.blt x.1 n)=true/\∀ a w,St M0 w0 n (Δ ++ Γ) a w->Q .normal a w
end
end Go.Pn
namespace Go.Pn
open Go Go.RowKit
variable {rr:Option Nat}
def Wr {α:Type} (xs:List α) (r:Nat×Nat) (m:Int):Option α:=if 0<=m/\m < ((r.2 - r.1:Nat):Int) then xs[r.1 + m.toNat]? else none
theorem Jq {α:Type} {xs:List α} {r:Nat×Nat} {m:Int} {y:α} (h:Wr xs r m=some y):0<=m/\m < ((r.2 - r.1:Nat):Int)/\xs[r.1 + m.toNat]?=some y:=by
 unfold Wr at h;split at h
 ·rename_i hc;exact ⟨hc.1,hc.2,h⟩
 ·cases h
section
variable {α:Type} [Rep α] {M:Nat->Prop} {w:World}
theorem Chk.take1 (h1:Rep.sz α=1):∀ {xs:List α} {cs:L9} (n:Nat),Chk M w cs xs->Chk M w (cs.take n) (xs.take n)
 | [],_,n,h=>by
  have h:_=[]:=h;subst h;simp;rfl
 | x :: xs,_,0,_=>by simp;rfl
 | x :: xs,_,n + 1,⟨c,d,rfl,h2,h3⟩=>by
  have hl:=Rep.len h2;rw [h1] at hl
  match c,hl with
  | [v],_=>exact ⟨[v],d.take n,rfl,h2,Chk.take1 h1 n h3⟩
theorem Chk.drop1 (h1:Rep.sz α=1):∀ {xs:List α} {cs:L9} (n:Nat),Chk M w cs xs->Chk M w (cs.drop n) (xs.drop n)
 | [],_,n,h=>by
  have h:_=[]:=h;subst h;simp;rfl
 | x :: xs,_,0,h=>h
 | x :: xs,_,n + 1,⟨c,d,rfl,h2,h3⟩=>by
  have hl:=Rep.len h2;rw [h1] at hl
  match c,hl with
  | [v],_=>exact Chk.drop1 h1 n h3
theorem Chk.rep1 {z:Value} {zv:α} (hz:Rep.rep M w [z] zv):∀ n:Nat,Chk M w (List.replicate n z) (List.replicate n zv)
 | 0=>rfl
 | n + 1=>⟨[z],List.replicate n z,rfl,hz,Chk.rep1 hz n⟩
theorem Ow.full {e:Nat} {c:Value} {xs:List α} {F:L8} {v:Value} (h1:Rep.sz α=1) (h:(Ow e c xs).p F M w v) :
  (xs=[]/\∃ A,c=.slice A 0 0/\(A=none\/∃ g,A=some ⟨g,0,none⟩))\/∃ g cap cur,F=[g]/\c=.slice (some ⟨g,0,none⟩) xs.length cap/\w.heap[g]?=some (.cells cur e (0,0))/\xs.length<=cap/\cap<=maxLen/\cur.size=cap/\Chk M w (cur.toList.take xs.length) xs:=by
 obtain ⟨hF,cs,ho,hc⟩ | ⟨hF,rfl,g,rfl⟩:=h
 case inr=>exact .inl ⟨rfl,_,rfl,.inr ⟨g,rfl⟩⟩
 rcases ho.2 with ⟨rfl,h0⟩ | ⟨g,cap,cur,rfl,_,hg,hle,hcap,hsz,htk⟩
 ·exact .inl ⟨List.eq_nil_of_length_eq_zero h0,none,rfl,.inl rfl⟩
 ·refine .inr ⟨g,cap,cur,by rw [hF];rfl,rfl,hg,hle,hcap,by rw [hsz,h1,HN],?_⟩;rw [h1,HN] at htk;rw [htk];exact hc
theorem Ow.mkFull {e g cap:Nat} {cur:Array Value} {xs:List α} {v:Value} (h1:Rep.sz α=1) (hg:w.heap[g]?=some (.cells cur e (0,0))) (hle:xs.length<=cap) (hcap:cap<=maxLen) (hsz:cur.size=cap) (hc:Chk M w (cur.toList.take xs.length) xs) :
  (Ow e (.slice (some ⟨g,0,none⟩) xs.length cap) xs).p [g] M w v:=by
 refine .inl ⟨rfl,cur.toList.take xs.length,⟨?_,.inr ⟨g,cap,cur,rfl,JD _,hg,hle,hcap,by rw [hsz,h1,HN],by rw [h1,HN]⟩⟩,hc⟩;rw [h1,HN,H6];have:cur.toList.length=cap:=by simp [hsz]
 omega
end
section
variable {P:Program} {M0:Fm} {w0:World} {n:Nat} {Γ:Cx} {Q:Exit->Act->World->Prop} {a:Act} {w:World} {ty:TypeId} {α:Type} [Rep α]
theorem sbgo {T e:TypeId} {x y:Operand} {c:Value} {k:Nat} {xs:List α} {l:Int} {r:Nat×Nat} (h1:Rep.sz α=1) (he:P.underlying T=some (.slice (P.elem T))) (hs:(P.info? (P.elem T)).map (·.size)=some 1) (hx:Od Γ x (Qv c)) (hk:Ak Γ k=some (Ow e c xs))
  (hy:Od Γ y (Va l)) (hr:lsr l xs.length xs.length=some r):OR P (.slice T x (some y) none none) ty Γ (Sbp c r.1 r.2):=by
 unfold lsr at hr;split at hr
 case isFalse=>cases hr
 rename_i hc;obtain rfl:=Option.some.inj hr;refine OR.val λρ M w rd=>?_;obtain ⟨_,_,hv⟩:=hx ρ M w rd;obtain ⟨F,hp⟩:=rd.tmp _ _ hk;obtain ⟨ad,cap,hcv,hcc⟩:∃ ad cap,c=.slice ad xs.length cap/\(xs=[]\/∃ g,ad=some ⟨g,0,none⟩/\xs.length<=cap):=by
  rcases Ow.full h1 hp with ⟨h0,A,hA,_⟩ | ⟨g,cap,cur,_,h1,_,h2,_⟩
  ·exact ⟨A,0,by rw [hA,h0];rfl,.inl h0⟩
  ·exact ⟨_,cap,h1,.inr ⟨g,rfl,h2⟩⟩
 have hsz:∀ w,(sizeOf (P.elem T)).run P w=.ok 1 w:=λw=>by
  cases hie:P.info? (P.elem T) with
  | none=>simp [hie] at hs
  | some i=>simp [hie] at hs;simp [sizeOf,typeInfo,hie,hs]
 refine ⟨sliced ad l.toNat xs.length cap 1,λ_ _ _ _=>?_,?_⟩
 ·obtain ⟨_,hy2⟩:=hy ρ M w rd;have:=run_slice_l w T ad xs.length cap he .i64 l hc.1 hc.2.1;simp only [execOp,hv,hcv,H4,GZ,Va.int hy2,F9];rw [run_sliceAt_slice _ _ _ _ _ _ he,this,hsz];try simp
 ·have hc1:=hc.2.1;refine ⟨rfl,by show l.toNat<=(xs.length:Int).toNat;omega,ad,xs.length,cap,cap - xs.length,hcv,by show (xs.length:Int).toNat<=_;omega,?_⟩;rw [show ((xs.length:Int).toNat)=xs.length by omega];rcases hcc with h0 | ⟨g,rfl,h2⟩
  ·have:(xs.length:Int)=0:=by rw [h0];rfl
   have h3:l.toNat=0:=by omega
   have h4:xs.length=0:=by omega
   exact .inl ⟨by rw [h3,h4],_,by unfold sliced;rw [h3,h4]⟩
  ·by_cases hl:l.toNat=xs.length
   ·exact .inl ⟨hl,_,by unfold sliced;rw [hl,LL]⟩
   ·refine .inr ⟨g,rfl,?_⟩;unfold sliced;rw [if_neg om_];simp [Bj];omega
theorem lnb {T:Nat} {x:Operand} {c:Value} {lo hi:Nat} (he:P.underlying T=some (.slice (P.elem T))) (hx:Od Γ x (Sbp c lo hi)):OR P (.call { callee:=.builtin .len,args:=#[x],argTypes:=#[T] }) ty Γ (Va ((hi - lo:Nat):Int)):=by
 refine OR.val λρ M w r=>?_;obtain ⟨_,_,hlh,A,len,cap,cap',hc,hhl,hv⟩:=hx ρ M w r;refine ⟨.int .i64 ((hi - lo:Nat):Int),λ_ _ _ _=>?_,Va.mkInt⟩;rcases hv with ⟨h1,A',h2⟩ | ⟨g,h1,h2⟩
 ·have:hi - lo=0:=by omega
  rw [this];simp [execOp,resolve,h2,invoke,builtin,Builtin.len_,run_underlying he,goInt]
 ·simp [execOp,resolve,h2,invoke,builtin,Builtin.len_,run_underlying he,goInt]
theorem ixs {T k e:Nat} {x i:Operand} {c:Value} {xs:List α} {r:Nat×Nat} {m:Int} {y:α} (h1:Rep.sz α=1) (he:P.underlying T=some (.slice (P.elem T))) (hs:(P.info? (P.elem T)).map (·.size)=some 1) (hx:Od Γ x (Sbp c r.1 r.2)) (hk:Ak Γ k=some (Ow e c xs)) (hi:Od Γ i (Va m)) (h:Wr xs r m=some y) :
  OR P (.indexAddr T x i) ty Γ (Pe c ((r.1 + m.toNat) * Rep.sz α)):=by
 refine OR.val λρ M w rd=>?_;obtain ⟨_,_,hlh,A,len,cap,cap',hc,hhl,hv⟩:=hx ρ M w rd;obtain ⟨_,h2⟩:=hi ρ M w rd;obtain ⟨h0,hl,hg⟩:=Jq h;have hsz:∀ w,(sizeOf (P.elem T)).run P w=.ok 1 w:=λw=>by
  cases hie:P.info? (P.elem T) with
  | none=>simp [hie] at hs
  | some i=>simp [hie] at hs;simp [sizeOf,typeInfo,hie,hs]
 rcases hv with ⟨h3,A',h4⟩ | ⟨g,h3,h4⟩
 ·omega
 ·refine ⟨.pointer (some ⟨g,r.1 + m.toNat,none⟩),λ_ _ _ _=>?_,rfl,g,by rw [hc,h3];rfl,by rw [h1,HN]⟩;have hm:m.toNat < r.2 - r.1:=by omega
  simp only [execOp,h4,Va.int h2,Instr.indexAt,F9,asIntOf,GB,F7,run_underlying he];simp [h0,hl,hsz,Bj]
theorem clS {ops:Array Oper} {rest:List Oper} {T e e2 k:Nat} {x:Operand} {pos:String} {aft:Array Edge} {c:Value} {r:Nat×Nat} {xs:List α} {z:Value} {zv:α} (h1:Rep.sz α=1)
  (he:P.underlying T=some (.slice e2)) (hzz:∀ w,(zeroValue e2).run P w=.ok z w) (hzc:z.cells=#[z]) (hz:∀ M w,Rep.rep M w [z] zv) (hs:St M0 w0 n Γ a w) (hx:Od Γ x (Sbp c r.1 r.2)) (hk:Ak Γ k=some (Ow e c xs))
  (cont:∀ w',St M0 w0 n ((k,Ow e c (xs.take r.1 ++ (List.replicate (r.2 - r.1) zv ++ xs.drop (r.1 + (r.2 - r.1))))) :: Γ) a w'->wpListIn (Fr rr) 0 P ops Q rest a w') :
  wpListIn (Fr rr) 0 P ops Q (⟨none,.call { callee:=.builtin .clear,args:=#[x],argTypes:=#[T] },ty,pos,aft,none⟩ :: rest) a w:=by
 refine wpListIn_plain rfl λK hK=>?_;obtain ⟨M,φ,h⟩:=hs;obtain ⟨_,_,hlh,A,len,cap,cap',hc,hhl,hv⟩:=hx _ _ _ h.rd;have hp:=h.holds k _ hk;have fin:∀ w' (e':Ent),StF M0 w0 n (put k e' (Ak Γ)) a w'->St M0 w0 n ((k,e') :: Γ) a w':=by
  intro w' e' h';unfold St;rw [Ah];exact h'
 have same:r.2 - r.1=0->xs.take r.1 ++ (List.replicate (r.2 - r.1) zv ++ xs.drop (r.1 + (r.2 - r.1)))=xs:=by
  intro h0;rw [h0];simp
 by_cases hlt:r.2 - r.1=0
 ·have hdv:∃ A' dc,a.eval x=.slice A' 0 dc:=by
   rcases hv with ⟨_,A',h2⟩ | ⟨g,_,h2⟩
   ·exact ⟨A',cap',h2⟩
   ·exact ⟨_,_,by rw [h2,hlt]⟩
  obtain ⟨A',dc,hdv⟩:=hdv;refine Bc.upon (Bc.val (v:=.tuple #[]) (w':=w) ?_ ?_)
  ·cases A' <;> simp [execOp,resolve,invoke,builtin,hdv,Builtin.clear_,run_underlying he]
  ·refine hK _ _ (cont _ (fin w _ (StF.less ⟨M,φ,h⟩ λt e' he'=>?_)));rw [same hlt] at he';unfold put at he';split at he'
   ·rename_i ht;rw [ht,hk];exact he'
   ·exact he'
 ·rcases Ow.full h1 hp with ⟨h0,A',hA,_⟩ | ⟨g,cap2,cur,hF,hcg,hg,hle,hcap,hsz,hch⟩
  ·rw [hA] at hc;injection hc with _ hl _;omega
  ·have hcx:=hc;rw [hcg] at hcx;injection hcx with hA hl _;have hdv:a.eval x=.slice (some ⟨g,r.1,none⟩) (r.2 - r.1) (cap' + (r.2 - r.1)):=by
    rcases hv with ⟨h1,_⟩ | ⟨g',h1,h2⟩
    ·omega
    ·rw [← hA] at h1;have:g'=g:=by injection h1 with h1;injection h1 with h1;exact h1.symm
     rw [h2,this]
   have hzc2:(Builtin.zeroCells z.cells (r.2 - r.1)).toList=List.replicate (r.2 - r.1) z:=by
    rw [hzc];simp [Builtin.zeroCells];apply List.ext_getElem
    ·simp
    ·intro i h1 h2;simp [Nat.mod_one]
   have hst:=run_storeCells_at P g r.1 e (List.replicate (r.2 - r.1) z) 0 cur w hg (by simp;omega) (λv hv=>by rw [LE hv];exact Rep.one (hz M w) _ smp_);rw [J8,J0] at hst;have hgk:g∈φ k:=by rw [hF];simp
   have hMg:M g:=((h.own k (by rw [hk];rfl)).2 _ hgk).1;obtain ⟨m,hm⟩:∃ m,r.2 - r.1=m + 1:=⟨r.2 - r.1 - 1,by omega⟩;refine Bc.upon (Bc.val (v:=.tuple #[]) (w':=w.setRow g (cur.toList.take r.1 ++ List.replicate (r.2 - r.1) z ++ cur.toList.drop (r.1 + (r.2 - r.1))).toArray) ?_ ?_)
   ·simp only [execOp,resolve,invoke,builtin,F9,GB,F7,HF,GQ,HO,hdv];have:(Builtin.clear_ #[T] ty #[.slice (some ⟨g,r.1,none⟩) (r.2 - r.1) (cap' + (r.2 - r.1))]).run P w=.ok (.tuple #[]) (w.setRow g (cur.toList.take r.1 ++ List.replicate (r.2 - r.1) z ++ cur.toList.drop (r.1 + (r.2 - r.1))).toArray):=by
     rw [hm];rw [hm] at hst hzc2;simp [Builtin.clear_,run_underlying he,hzz,hzc2,hst]
    rw [this];rfl
   ·refine hK _ _ (cont _ (fin _ _ ?_));refine h.write (b:=g) (by rw [hk];rfl) hgk (Ext.setRow w g _) ?_;have hcl:cur.toList.length=cap2:=by rw [K4,hsz]
    have hlen:(xs.take r.1 ++ (List.replicate (r.2 - r.1) zv ++ xs.drop (r.1 + (r.2 - r.1)))).length=xs.length:=by
     simp;omega
    have hA:(cur.toList.take r.1).length=r.1:=by rw [H6];omega
    have htk:((cur.toList.take r.1 ++ List.replicate (r.2 - r.1) z ++ cur.toList.drop (r.1 + (r.2 - r.1))).toArray.toList.take xs.length) =
      (cur.toList.take xs.length).take r.1 ++ (List.replicate (r.2 - r.1) z ++ (cur.toList.take xs.length).drop (r.1 + (r.2 - r.1))):=by
     show List.take xs.length (cur.toList.take r.1 ++ List.replicate (r.2 - r.1) z ++ cur.toList.drop (r.1 + (r.2 - r.1)))=_;rw [G2,List.take_append,List.take_append,hA,J8,LS,LS,List.drop_take,List.take_replicate];rw [show min xs.length r.1=min r.1 xs.length by omega,show min (xs.length - r.1) (r.2 - r.1)=r.2 - r.1 by omega,show xs.length - r.1 - (r.2 - r.1)=xs.length - (r.1 + (r.2 - r.1)) by omega]
    have hch2:Chk M w ((cur.toList.take xs.length).take r.1 ++ (List.replicate (r.2 - r.1) z ++ (cur.toList.take xs.length).drop (r.1 + (r.2 - r.1)))) (xs.take r.1 ++ (List.replicate (r.2 - r.1) zv ++ xs.drop (r.1 + (r.2 - r.1)))):=
     (hch.take1 h1 r.1).append ((Chk.rep1 (hz M w) _).append (hch.drop1 h1 _))
    have hsz2:(cur.toList.take r.1 ++ List.replicate (r.2 - r.1) z ++ cur.toList.drop (r.1 + (r.2 - r.1))).toArray.size=cap2:=by
     rw [JO,GC,GC,LF,J8,hA,hcl];omega
    have:=Ow.mkFull (e:=e) (g:=g) (cap:=cap2) (xs:=xs.take r.1 ++ (List.replicate (r.2 - r.1) zv ++ xs.drop (r.1 + (r.2 - r.1)))) (M:=M) (v:=a.get k) h1 (setRow_heap w g cur _ e _ hg) om_ hcap
     hsz2 (by rw [hlen,htk];exact hch2.ext ((Ext.setRow w g _).mono λq _ hq=>by subst hq;exact hMg))
    rw [hF,hcg];rw [hlen] at this;exact this
theorem slO {ops:Array Oper} {rest:List Oper} {T e k d:Nat} {x y:Operand} {pos:String} {aft:Array Edge} {c:Value} {l:Int} {xs zs:List α} (h1:Rep.sz α=1)
  (he:P.underlying T=some (.slice (P.elem T))) (hsz1:(P.info? (P.elem T)).map (·.size)=some 1) (hs:St M0 w0 n Γ a w) (hx:Od Γ x (Qv c)) (hk:Ak Γ k=some (Ow e c xs)) (hy:Od Γ y (Va l)) (hl:lsl xs 0 l=some zs)
  (hn:Nat.blt d n=true) (hdk:Nat.beq d k=false)
  (cont:∀ c' a' w',St M0 w0 n ((d,Qv c') :: (k,Ow e c' zs) :: Γ) a' w'->wpListIn (Fr rr) 0 P ops Q rest a' w') :
  wpListIn (Fr rr) 0 P ops Q (⟨some d,.slice T x none (some y) none,ty,pos,aft,none⟩ :: rest) a w:=by
 refine wpListIn_plain rfl λK hK=>?_;obtain ⟨M,φ,h⟩:=hs;obtain ⟨_,_,hv⟩:=hx _ _ _ h.rd;obtain ⟨_,hy2⟩:=hy _ _ _ h.rd;have hp:=h.holds k _ hk;have hl':0<=l/\l<=xs.length/\zs=xs.take l.toNat:=by
  unfold lsl at hl;split at hl
  ·rename_i hc;obtain rfl:=Option.some.inj hl;exact ⟨hc.2.1,hc.2.2,rfl⟩
  ·cases hl
 obtain ⟨hl0,hl1,rfl⟩:=hl';have hsz:∀ w,(sizeOf (P.elem T)).run P w=.ok 1 w:=λw=>by
  cases hie:P.info? (P.elem T) with
  | none=>simp [hie] at hsz1
  | some i=>simp [hie] at hsz1;simp [sizeOf,typeInfo,hie,hsz1]
 have fin:∀ (v:Value),StF M0 w0 n (put k (Ow e v (xs.take l.toNat)) (Ak Γ)) a w->St M0 w0 n ((d,Qv v) :: (k,Ow e v (xs.take l.toNat)) :: Γ) (a.put (some d) v) w:=by
  intro v ⟨M',φ',h'⟩;unfold St;rw [Ah,Ah];exact h'.gives ⟨Ext.refl _ _,[],G4,λq hq=>by simp at hq,rfl,rfl⟩ (GD hn)
 have hlt:(xs.take l.toNat).length=l.toNat:=by rw [H6];omega
 rcases Ow.full h1 hp with ⟨h0,A,hA,_⟩ | ⟨g,cap,cur,hF,hcg,hg,hle,hcap,hszc,hch⟩
 ·have hl2:l=0:=by rw [h0] at hl1;simp at hl1;omega
  subst hl2;have:=run_slice_h (P:=P) w T A 0 0 he .i64 0 (LB _) (LB _);refine Bc.upon (Bc.val (v:=c) (w':=w) ?_ ?_)
  ·simp only [execOp,hv,hA,H4,GZ,Va.int hy2,F9];rw [run_sliceAt_slice _ _ _ _ _ _ he,this,hsz];simp [sliced]
  ·refine hK _ _ (cont _ _ _ (fin _ (StF.less ⟨M,φ,h⟩ λt e' he'=>?_)));rw [h0] at he';unfold put at he';split at he'
   ·rename_i ht;rw [ht,hk,h0];simpa using he'
   ·exact he'
 ·have hle2:l<=cap:=by omega
  have:=run_slice_h (P:=P) w T (some ⟨g,0,none⟩) xs.length cap he .i64 l hl0 hle2;refine Bc.upon (Bc.val (v:=.slice (some ⟨g,0,none⟩) l.toNat cap) (w':=w) ?_ ?_)
  ·simp only [execOp,hv,hcg,H4,GZ,Va.int hy2,F9];rw [run_sliceAt_slice _ _ _ _ _ _ he,this,hsz];simp [sliced,Bj]
  ·refine hK _ _ (cont _ _ _ (fin _ (h.write (b:=g) (by rw [hk];rfl) (by rw [hF];simp) (Ext.refl _ _) ?_)));have:=Ow.mkFull (e:=e) (g:=g) (cap:=cap) (xs:=xs.take l.toNat) (M:=M) (w:=w) (v:=a.get k) h1 hg om_ hcap hszc (by
    rw [hlt];have:=hch.take1 h1 l.toNat
    rwa [LS,Nat.min_eq_left om_] at this)
   rw [hF];rw [hlt] at this;exact this
def Vf (xs:List α):Ent where
 p F M w v:=F=[]/\∃ A,v=.slice A xs.length xs.length/\(xs=[]\/∃ b o,A=some ⟨b,o,none⟩/\Row M w b o xs)
 st h e:=let ⟨hF,A,hv,hr⟩:=h;⟨hF,A,hv,hr.imp id λ⟨b,o,ha,hr⟩=>⟨b,o,ha,hr.ext (e.mono λ_ _ hk=>hk.1)⟩⟩
 sb h s:=let ⟨hF,A,hv,hr⟩:=h;⟨hF,A,hv,hr.imp id λ⟨b,o,ha,hr⟩=>⟨b,o,ha,hr.sub s⟩⟩
theorem Row.take {M:Nat->Prop} {w:World} {b:Nat} {xs:List α} {o:Nat} (l:Nat) (h:Row M w b o xs):Row M w b o (xs.take l):=by
 refine Row.of_get λi x hx=>?_;rw [JK] at hx;split at hx
 ·exact h.get hx
 ·cases hx
theorem slf {T e:Nat} [he:Ea P T e α] {x y z:Operand} {xs zs:List α} {l:Int} (hx:Od Γ x (Va xs)) (hy:Od Γ y (Va l)) (hz:Od Γ z (Va l)) (h:lsl xs 0 l=some zs):OR P (.slice T x none (some y) (some z)) ty Γ (Vf zs):=by
 refine OR.val λρ M w r=>?_;obtain ⟨_,hv⟩:=hx ρ M w r;obtain ⟨_,h2⟩:=hy ρ M w r;obtain ⟨_,h3⟩:=hz ρ M w r;obtain ⟨A,cap,hv,hr⟩:=Va.list hv;unfold lsl at h;split at h
 case isFalse=>cases h
 rename_i hc;obtain rfl:=Option.some.inj h;obtain ⟨i,zz,hii,_,hs,_⟩:=he.inf;have hel:=he.el;have hel2:P.underlying T=some (.slice (P.elem T)):=by rw [hel];simp [Program.elem,hel]
 have hee:P.elem T=e:=by rw [hel] at hel2;injection hel2 with h4;injection h4 with h4;exact h4.symm
 have hsz:(sizeOf (P.elem T)).run P w=.ok (Rep.sz α) w:=by rw [hee];simp [sizeOf,typeInfo,hii,hs]
 have hl:(xs.take l.toNat).length=l.toNat:=by rw [H6];omega
 have hrun:=run_slice_hm (P:=P) w T A xs.length (cap + xs.length) hel2 .i64 .i64 l l hc.2.1 (LB _) om_;simp only [Int.toNat_zero,GL,LK];refine ⟨sliced A 0 l.toNat l.toNat (Rep.sz α),λ_ _ _ _=>?_,rfl,(if l.toNat=0 then A else A.map (·.add (0 * Rep.sz α))),?_,?_⟩
 ·simp only [execOp,hv,H4,GZ,Va.int h2,Va.int h3,F9];rw [run_sliceAt_slice _ _ _ _ _ _ hel2,hrun,hsz];rfl
 ·rw [hl];simp [sliced]
 ·rcases hr with rfl | ⟨b,o,hA,hr⟩
  ·exact .inl smp_
  ·refine .inr ⟨b,o,?_,hr.take _⟩;rw [hA];split
   ·rfl
   ·simp [Bj]
def appn (xs ys:List α):Option (List α):=match ys with
 | []=>none
 | _ :: _=>app xs ys
end
end Go.Pn
namespace Go.Pn
open Go Go.RowKit Go.Sort Go.Proofs
set_option linter.unusedSectionVars false
def insF {α:Type} (lt:α->α->Bool) (x:α):List α->List α
 | []=>[x]
 | y :: l=>bif lt y x then y :: insF lt x l else x :: y :: l
def Mi {α:Type} (lt:α->α->Bool):List α->List α
 | []=>[]
 | x :: l=>insF lt x (Mi lt l)
section
variable {α:Type} [Inhabited α] {lt:α->α->Bool}
theorem Pw (x:α):∀ l:List α,(insF lt x l).Perm (x :: l)
 | []=>.refl _
 | y :: l=>by
  unfold insF;cases lt y x with
  | false=>exact .refl _
  | true=>exact ((Pw x l).cons y).trans (.swap x y l)
theorem Dc:∀ l:List α,(Mi lt l).Perm l
 | []=>.refl _
 | x :: l=>(Pw x _).trans ((Dc l).cons x)
theorem C2 (hO:SWO lt) (x:α):∀ l:List α,l.Pairwise (λa b=>lt b a=false)->(insF lt x l).Pairwise (λa b=>lt b a=false)
 | [],_=>by unfold insF;simp
 | y :: l,h=>by
  obtain ⟨h1,h2⟩:=HM.1 h;unfold insF;cases hx:lt y x with
  | true=>
   refine HM.2 ⟨λz hz=>?_,C2 hO x l h2⟩;rcases GK.1 ((Pw x l).mem_iff.1 hz) with rfl | hz
   ·cases hc:lt z y with
    | false=>rfl
    | true=>have:=hO.trans _ _ _ hx hc;rw [hO.irrefl] at this;cases this
   ·exact h1 z hz
  | false=>
   refine HM.2 ⟨λz hz=>?_,h⟩;rcases GK.1 hz with rfl | hz
   ·exact hx
   ·exact hO.ntrans _ _ _ (h1 z hz) hx
theorem Sd (hO:SWO lt):∀ l:List α,(Mi lt l).Pairwise (λa b=>lt b a=false)
 | []=>.nil
 | x :: l=>C2 hO x _ (Sd hO l)
theorem Zx (hO:SWO lt) (hT:∀ x y,lt x y=false->lt y x=false->x=y) {l l':List α} (h:l'.Perm l) (hs:l'.Pairwise (λa b=>lt b a=false)):l'=Mi lt l:=
 List.Perm.eq_of_pairwise (λa b _ _ h1 h2=>hT a b h2 h1) hs (Sd hO l) (h.trans (Dc l).symm)
theorem De (l:List α):(Mi lt l).length=l.length:=(Dc l).length_eq
end
theorem Ext.grow {w w':World} (h:Ext No w w'):∃ q os,w'=Sort.grow (w.drewN q) os:=by
 refine ⟨w'.drawn - w.drawn,w'.heap.extract w.heap.size w'.heap.size,?_⟩;obtain ⟨heap,tape,drawn,os,output⟩:=w';obtain ⟨heap0,tape0,drawn0,os0,output0⟩:=w;obtain ⟨rfl,rfl,rfl,h4,h5,h6⟩:=h;have h4:heap0.size<=heap.size:=h4;have h6:drawn0<=drawn:=h6;have h1:heap=heap0 ++ heap.extract heap0.size heap.size:=by
  refine Array.ext_getElem? λk=>?_;rcases H3 k heap0.size with hk | hk
  ·rw [JN hk];exact h5 k hk id
  ·rw [Array.getElem?_append_right hk,Array.getElem?_extract];split
   ·rw [Nat.add_sub_cancel' hk]
   ·exact Array.getElem?_eq_none om_
 show World.mk _ _ _ _ _=World.mk _ _ _ _ _;congr 1;show drawn=drawn0 + (drawn - drawn0);omega
structure El {α:Type} [Rep α] (M:Nat->Prop) (w:World) (xs:List α) where
 v:Value
 x:α
 rp:Rep.rep M w [v] x
 mm:x∈xs
section
variable {α:Type} [Rep α] {M:Nat->Prop} {w:World} {xs:List α}
theorem Chk.els (hz:Rep.sz α=1):∀ {ys:List α} {cs:L9},Chk M w cs ys->(∀ y∈ys,y∈xs)->∃ ps:List (El M w xs),ps.map (λp=>p.v)=cs/\ps.map (λp=>p.x)=ys
 | [],_,h,_=>⟨[],by rw [h];rfl,rfl⟩
 | y :: ys,_,⟨c,d,rfl,h1,h2⟩,hm=>by
  obtain ⟨ps,h3,h4⟩:=Chk.els hz h2 λz hz=>hm z (GR _ hz);have hl:=Rep.len h1;rw [hz] at hl
  match c,hl with
  | [v],_=>exact ⟨⟨v,y,h1,hm y (GO ..)⟩ :: ps,by rw [GQ,h3];rfl,by rw [GQ,h4]⟩
theorem Chk.ofEls:∀ ps:List (El M w xs),Chk M w (ps.map (λp=>p.v)) (ps.map (λp=>p.x))
 | []=>rfl
 | p :: ps=>⟨[p.v],ps.map (λp=>p.v),rfl,p.rp,Chk.ofEls ps⟩
end
section
variable {β:Type} [Inhabited β] {enc:β->Value} {w w':World} {b n:Nat} {d:Array β} {cur:Array Value} {e:TypeId}
theorem C4 {fz:Nat×Nat} (h:w.heap[b]?=some (.cells cur e fz)):(putRow enc w b 0 d).heap[b]?=some (.cells (putCells enc 0 d cur) e fz):=by
 unfold putRow mapBlock;simp only [H8,if_true,h,GZ,onCells]
theorem AM {k:Nat} (h:k≠b):(putRow enc w b 0 d).heap[k]?=w.heap[k]?:=by
 unfold putRow mapBlock;simp only [H8];rw [if_neg (λe=>h e.symm)]
theorem Yb {os:Array Obj} (h:w.heap[b]?=some (.cells cur e (0,0))) (hw:w'=Sort.grow (putRow enc (Sort.ahead w n) b 0 d) os) :
  Ext (λk=>k=b) w w'/\w'.heap[b]?=some (.cells (putCells enc 0 d cur) e (0,0)):=by
 subst hw;have hsz:(putRow enc (Sort.ahead w n) b 0 d).heap.size=w.heap.size:=by simp [putRow,mapBlock,Sort.ahead]
 have hb:b < w.heap.size:=(GA.1 h).1;refine ⟨⟨rfl,rfl,rfl,?_,λk hk hne=>?_,JE _ _⟩,?_⟩
 ·simp [Sort.grow,hsz]
 ·simp only [Sort.grow];rw [JN (by rw [hsz];exact hk),AM hne];rfl
 ·simp only [Sort.grow];rw [JN (by rw [hsz];exact hb)];exact C4 h
theorem Qp (h:d.size<=cur.size):(putCells enc 0 d cur).toList.take d.size=d.toList.map enc:=by
 refine HV λj=>?_;rw [JK];split
 ·rename_i hj;rw [HW];simp only [putCells,Array.getElem?_mapIdx,GW,HW];rw [HA om_,HA hj];simp [hj]
 ·rename_i hj;rw [HE (by simp;omega)]
theorem Qq:(putCells enc 0 d cur).size=cur.size:=by simp [putCells]
theorem AL {g:Nat} {zs:List β} (h:w.heap[g]?=some (.cells cur e (0,0))) (ht:cur.toList.take zs.length=zs.map enc):Holds enc w g 0 zs.toArray:=by
 intro j hj;have hj:j < zs.length:=by simpa using hj
 have h1:(cur.toList.take zs.length)[j]?=some (enc zs[j]):=by rw [ht];simp [hj]
 rw [H7 hj,HW] at h1;refine ⟨?_,?_⟩
 ·simp [World.cell?,h,h1,hj]
 ·simp [World.frozen?,h]
end
def SortsF (P:Program) (N g:Nat):Prop:=
 (∀ (p:Option Addr) (cap:Nat) (w:World),Calls P N #[.slice p 0 cap,.func (.func g) #[] #[]] w λen w'=>en=.returned (.tuple #[])/\w'=w) /\
 ∀ (β:Type) [Inhabited β] (enc:β->Value) (_:OneCell enc) (cf:β->β->Int) (_:SWO (ltOf cf)) (b cap:Nat) (d:Array β) (w:World),
  CmpLays1 P g #[] enc cf b 0 d.size w->Holds enc w b 0 d->b < w.heap.size->d.size < 4611686018427387904 ->
  Calls P N #[.slice (some ⟨b,0,none⟩) d.size cap,.func (.func g) #[] #[]] w λen w'=>
   en=.returned (.tuple #[])/\∃ d' n os,PermIn 0 d.size d d'/\SortedIn (ltOf cf) 0 d.size d'/\w'=sortWorld enc w b 0 n d' os
theorem SortedIn.pw {β:Type} [Inhabited β] {lt:β->β->Bool} {d:Array β} (h:SortedIn lt 0 d.size d):d.toList.Pairwise (λa b=>lt b a=false):=by
 refine JX.2 λi j hi hj hij=>?_;have hj':j < d.size:=by simpa using hj
 have:=h i j (JD _) hij hj';rw [getElem!_pos d j hj',getElem!_pos d i om_] at this;simpa using this
theorem inpF {P:Program} {N e g:Nat} {c:Value} {α:Type} [Rep α] [Inhabited α] {xs:List α} (hz:Rep.sz α=1) (ha:Rep.agg α=false) (hcal:cal P N=true) (hS:SortsF P N g) (cf:α->α->Int) (hO:SWO (ltOf cf))
  (hT:∀ x y,ltOf cf x y=false->ltOf cf y x=false->x=y) (hsm:xs.length < 4611686018427387904)
  (hc:∀ x∈xs,∀ y∈xs,Sp P g [Va x,Va y] (Va (cf x y))) :
  Cg P N [Qv c,Qv (.func (.func g) #[] #[])] [Ow e c xs] (Rz (λ_:Unit=>Dd) (λ_=>[Ow e c (Mi (ltOf cf) xs)])):=by
 refine ⟨hcal,?_⟩;intro vs M w Ft hM hf ho hnd hFM
 match vs,hf with
 | [v,fv],⟨⟨_,hv⟩,⟨_,hfv⟩,_⟩=>
  have hv:v=c:=hv;subst hv;have hfv:fv=_:=hfv;subst hfv;obtain ⟨F1,_,rfl,hown,rfl⟩:=ho;rcases hown undef with ⟨hF,cs,hr,hch⟩ | ⟨hF,hx,g0,hv⟩
  ·rcases hr.2 with ⟨hn,hx⟩ | ⟨k0,cap,cur,hn,_,hg,hle,hcap,hsz,htk⟩
   ·have hx:xs=[]:=J1.1 hx;subst hx;rw [hn];refine (hS.1 none 0 w).mono ?_;rintro en w' ⟨rfl,rfl⟩;refine ⟨_,F1,rfl,Ext.refl _ _,by simpa using hnd,λk hk=>.inl (by simpa using hk),(),rfl,F1,[],by simp,λu=>?_,rfl⟩;rw [← hn];exact (Ow e v []).sb (hown u) (λk _ hk=>by rcases hk with h | h;exact h.1;exact hFM k (by simpa using h))
   ·rcases hxs:xs with _ | ⟨x0,xs0⟩
    ·subst hxs;rw [hn];refine (hS.1 _ cap w).mono ?_;rintro en w' ⟨rfl,rfl⟩;refine ⟨_,F1,rfl,Ext.refl _ _,by simpa using hnd,λk hk=>.inl (by simpa using hk),(),rfl,F1,[],by simp,λu=>?_,rfl⟩;rw [← hn];exact (Ow e v []).sb (hown u) (λk _ hk=>by rcases hk with h | h;exact h.1;exact hFM k (by simpa using h))
    rw [← hxs];obtain ⟨ps,hp1,hp2⟩:=Chk.els (xs:=xs) hz hch λy hy=>hy;have hpl:ps.length=xs.length:=by have:=congrArg List.length hp2;simpa using this
    have hx0:0 < xs.length:=by rw [hxs];simp
    have hp0:0 < ps.length:=by omega
    letI:Inhabited (El M w xs):=⟨ps[0]⟩;have hsz1:cur.size=cap:=by rw [hsz,hz];omega
    have htk1:cur.toList.take ps.length=ps.map (λp:El M w xs=>p.v):=by rw [hp1,← htk,hpl,hz,HN]
    have hgl:k0 < w.heap.size:=(GA.1 hg).1;have hF1:F1=[k0]:=by rw [hF,hn];rfl
    subst hF1;have hk0:M k0:=hFM k0 smp_;have hone:OneCell (λp:El M w xs=>p.v):=λp=>Rep.one p.rp _ smp_;have hO':SWO (ltOf λp q:El M w xs=>cf p.x q.x):=⟨λx=>hO.irrefl _,λx y z=>hO.trans _ _ _,λx y z=>hO.ntrans _ _ _⟩;rw [hn,← hpl];have hcmp:CmpLays1 P g #[] (λp:El M w xs=>p.v) (λp q=>cf p.x q.x) k0 0 ps.toArray.size w:=by
     intro m os dk hs x y;obtain ⟨hx,_⟩:=Yb (enc:=λp:El M w xs=>p.v) (n:=m) (d:=dk) (os:=os) hg rfl;have hxM:Ext M w (sortWorld (λp:El M w xs=>p.v) w k0 0 m dk os):=hx.mono λk _ hk=>by subst hk;exact hk0
     have h1:V x.x M (sortWorld (λp:El M w xs=>p.v) w k0 0 m dk os) x.v:=⟨[x.v],by rw [ha];rfl,Rep.ext x.rp hxM⟩;have h2:V y.x M (sortWorld (λp:El M w xs=>p.v) w k0 0 m dk os) y.v:=⟨[y.v],by rw [ha];rfl,Rep.ext y.rp hxM⟩;have:=hc x.x x.mm y.x y.mm [x.v,y.v] M (sortWorld (λp:El M w xs=>p.v) w k0 0 m dk os) (λk hk=>HB (hM k hk) hx.size) ⟨⟨rfl,h1⟩,⟨rfl,h2⟩,trivial⟩;refine this.2.mono ?_;rintro en w' ⟨r,rfl,hext,F,_,_,hrF,cs',rfl,hcs'⟩;have hcs':cs'=[.int .i64 (cf x.x y.x)]:=hcs';subst hcs';exact ⟨rfl,hext.grow⟩
    refine (hS.2 (El M w xs) (λp=>p.v) hone (λp q=>cf p.x q.x) hO' k0 cap ps.toArray w hcmp (AL hg htk1) hgl (by simp;omega)).mono ?_;rintro en w' ⟨rfl,d',n,os,hpm,hst,hw⟩;obtain ⟨hx,hb⟩:=Yb hg hw;have hds:d'.size=xs.length:=by have:=hpm.1;simp at this;omega
    have hperm:d'.toList.Perm ps:=by
     have:=hpm.2.2;have h1:d'.extract 0 ps.toArray.size=d':=by rw [← hpm.1];simp
     rw [h1] at this;simpa using this
    have hsort:d'.toList.map (λp=>p.x)=Mi (ltOf cf) xs:=by
     refine Zx hO hT ?_ ?_
     ·have:=hperm.map (λp=>p.x)
      rwa [hp2] at this
     ·have h1:SortedIn (ltOf λp q:El M w xs=>cf p.x q.x) 0 d'.size d':=by rw [hpm.1];exact hst
      exact List.pairwise_map.2 (SortedIn.pw h1)
    refine ⟨_,[k0],rfl,hx.mono λk _ hk=>by subst hk;simp,by simp,λk hk=>.inl (by simpa using hk),(),rfl,[k0],[],by simp,λu=>.inl ⟨rfl,d'.toList.map (λp=>p.v),⟨?_,.inr ⟨k0,cap,_,?_,JD _,hb,?_,hcap,?_,?_⟩⟩,?_⟩,rfl⟩
    ·rw [De,JJ,K4,hds,hz,HN]
    ·rw [De,hpl]
    ·rw [De];exact hle
    ·rw [Qq];exact hsz
    ·rw [De,hz,HN,← hds];exact Qp (enc:=λp:El M w xs=>p.v) (d:=d') (cur:=cur) om_
    ·rw [← hsort];have h1:=Chk.ofEls (M:=M) (w:=w) (xs:=xs) d'.toList;refine (h1.ext (hx.mono λk _ hk=>by subst hk;exact hk0)).sub λk _ hk=>?_;rcases hk with h | h
     ·exact h.1
     ·rw [JQ.1 h];exact hk0
  ·subst hx;rw [hv];refine (hS.1 _ 0 w).mono ?_;rintro en w' ⟨rfl,rfl⟩;refine ⟨_,F1,rfl,Ext.refl _ _,by simpa using hnd,λk hk=>.inl (by simpa using hk),(),rfl,F1,[],by simp,λu=>?_,rfl⟩;rw [← hv];exact (Ow e v []).sb (hown u) (λk _ hk=>by rcases hk with h | h;exact h.1;exact hFM k (by simpa using h))
end Go.Pn
namespace Go.Proofs
open Go.Shelf
def Tryz.laysSf_ren:Go.Shelf.Ren:=⟨λ| 6=>86 | 15=>115 | 14=>118 | 28=>148 | 29=>149 | 20=>150 | 21=>151 | 22=>152 | 23=>153 | 24=>154 | 25=>155 | 26=>156 | 27=>157 | 46=>191 | 47=>187 | 48=>188 | 49=>192 | 50=>193 | 57=>227 | n=>n,λ| 22=>37 | 24=>48 | 25=>85 | 3=>3 | 39=>193 | 0=>0 | 53=>226 | 55=>228 | 4=>4 | 46=>219 | 45=>218 | 50=>113 | 5=>5 | 9=>9 | 66=>254 | 70=>258 | 76=>282 | 77=>88 | n=>n,λ| n=>n⟩
theorem Tryz.laysSf:Go.Proofs.SlLaysF.n6 Tryz.prog Tryz.laysSf_ren:={
 mixed:=by kernel_rfl
 f6:=⟨Tryz.f86.name,by decide,Tryz.func86.trans (congrArg some Go.Pn.kr_)⟩
 f14:=⟨Tryz.f118.name,by decide,Tryz.func118.trans (congrArg some Go.Pn.kr_)⟩
 f15:=Tryz.func115.trans (congrArg some Go.Pn.kr_)
 f20:=⟨Tryz.f150.name,by decide,Tryz.func150.trans (congrArg some Go.Pn.kr_)⟩
 f21:=⟨Tryz.f151.name,by decide,Tryz.func151.trans (congrArg some Go.Pn.kr_)⟩
 f22:=⟨Tryz.f152.name,by decide,Tryz.func152.trans (congrArg some Go.Pn.kr_)⟩
 f23:=⟨Tryz.f153.name,by decide,Tryz.func153.trans (congrArg some Go.Pn.kr_)⟩
 f24:=⟨Tryz.f154.name,by decide,Tryz.func154.trans (congrArg some Go.Pn.kr_)⟩
 f25:=⟨Tryz.f155.name,by decide,Tryz.func155.trans (congrArg some Go.Pn.kr_)⟩
 f26:=⟨Tryz.f156.name,by decide,Tryz.func156.trans (congrArg some Go.Pn.kr_)⟩
 f27:=⟨Tryz.f157.name,by decide,Tryz.func157.trans (congrArg some Go.Pn.kr_)⟩
 f28:=Tryz.func148.trans (congrArg some Go.Pn.kr_)
 f29:=Tryz.func149.trans (congrArg some Go.Pn.kr_)
 f46:=⟨Tryz.f191.name,by decide,Tryz.func191.trans (congrArg some Go.Pn.kr_)⟩
 f47:=Tryz.func187.trans (congrArg some Go.Pn.kr_)
 f48:=Tryz.func188.trans (congrArg some Go.Pn.kr_)
 f49:=⟨Tryz.f192.name,by decide,Tryz.func192.trans (congrArg some Go.Pn.kr_)⟩
 f50:=⟨Tryz.f193.name,by decide,Tryz.func193.trans (congrArg some Go.Pn.kr_)⟩
 f57:=⟨Tryz.f227.name,by decide,Tryz.func227.trans (congrArg some Go.Pn.kr_)⟩
 t0:=Tryz.underlying0
 a0:=Tryz.isAgg0
 z0:=Tryz.sizeOf0
 v0:=Tryz.zeroValue0
 t3:=Tryz.underlying3
 a3:=Tryz.isAgg3
 z3:=Tryz.sizeOf3
 v3:=Tryz.zeroValue3
 t4:=Tryz.underlying4
 a4:=Tryz.isAgg4
 z4:=Tryz.sizeOf4
 v4:=Tryz.zeroValue4
 t5:=Tryz.underlying5
 a5:=Tryz.isAgg5
 z5:=Tryz.sizeOf5
 v5:=Tryz.zeroValue5
 t9:=Tryz.underlying9
 a9:=Tryz.isAgg9
 z9:=Tryz.sizeOf9
 v9:=Tryz.zeroValue9
 t22:=Tryz.underlying37
 a22:=Tryz.isAgg37
 z22:=Tryz.sizeOf37
 v22:=Tryz.zeroValue37
 a24:=Tryz.isAgg48
 z24:=Tryz.sizeOf48
 t25:=Tryz.underlying85
 a25:=Tryz.isAgg85
 z25:=Tryz.sizeOf85
 v25:=Tryz.zeroValue85
 t39:=Tryz.underlying193
 a39:=Tryz.isAgg193
 z39:=Tryz.sizeOf193
 v39:=Tryz.zeroValue193
 t45:=Tryz.underlying218
 a45:=Tryz.isAgg218
 z45:=Tryz.sizeOf218
 v45:=Tryz.zeroValue218
 t46:=Tryz.underlying219
 a46:=Tryz.isAgg219
 z46:=Tryz.sizeOf219
 v46:=Tryz.zeroValue219
 t50:=Tryz.underlying113
 a50:=Tryz.isAgg113
 z50:=Tryz.sizeOf113
 v50:=Tryz.zeroValue113
 t53:=Tryz.underlying226
 a53:=Tryz.isAgg226
 z53:=Tryz.sizeOf226
 v53:=Tryz.zeroValue226
 t55:=Tryz.underlying228
 a55:=Tryz.isAgg228
 z55:=Tryz.sizeOf228
 v55:=Tryz.zeroValue228
 t66:=Tryz.underlying254
 a66:=Tryz.isAgg254
 z66:=Tryz.sizeOf254
 v66:=Tryz.zeroValue254
 t70:=Tryz.underlying258
 a70:=Tryz.isAgg258
 z70:=Tryz.sizeOf258
 v70:=Tryz.zeroValue258
 t76:=Tryz.underlying282
 a76:=Tryz.isAgg282
 z76:=Tryz.sizeOf282
 v76:=Tryz.zeroValue282
 t77:=Tryz.underlying88
 a77:=Tryz.isAgg88
 z77:=Tryz.sizeOf88
 v77:=Tryz.zeroValue88 }
theorem Tryz.sortsF {g:Nat} (eg:∀ args w,(callFunc g args).run Tryz.prog w=.ok (.enter g args) w):Go.Pn.SortsF Tryz.prog 86 g:=
 ⟨λp cap w=>AnyF.slices_SortFunc_none { Tryz.laysSf with } p cap _ w,λ_ _ enc h1 cf hO b cap d w hc hH hb hs=>Any.slices_SortFunc Tryz.laysSf enc h1 cf hO g #[] b 0 cap d w eg hc hH hb hs⟩
end Go.Proofs
namespace Go.Pn
section
variable {L S:Type}
structure Ord_ (lt:L->L->Prop):Prop where
 irr:∀ a,¬ lt a a
 tr:∀ a b c,lt a b->lt b c->lt a c
 tot:∀ a b,a=b\/lt a b\/lt b a
variable {lt:L->L->Prop}
def Tr (nx:S->List L) (st:S->L->S) (bad:S->Bool):S->List L->S->Prop
 | s,[],x=>s=x
 | s,a :: l,x=>a∈nx s/\bad s=false/\Tr nx st bad (st s a) l x
variable {nx:S->List L} {st:S->L->S} {bad:S->Bool}
variable {s0:S} {l:List S} {tr:List (List L)} {i:Nat} {done:List L}
end
theorem pw_eq {L:Type} {r:L->L->Prop} (hi:∀ a,¬ r a a) (ht:∀ a b c,r a b->r b c->r a c):∀ {l m:List L},l.Pairwise r->m.Pairwise r->(∀ a,a∈l↔a∈m)->l=m
 | [],[],_,_,_=>rfl
 | [],b :: m,_,_,h=>by have:=(h b).2 (GO ..);simp at this
 | a :: l,[],_,_,h=>by have:=(h a).1 (GO ..);simp at this
 | a :: l,b :: m,h1,h2,h=>by
  obtain ⟨h3,h4⟩:=HM.1 h1;obtain ⟨h5,h6⟩:=HM.1 h2;have e:a=b:=by
   rcases GK.1 ((h a).1 (GO ..)) with e | e
   ·exact e
   ·rcases GK.1 ((h b).2 (GO ..)) with e' | e'
    ·exact e'.symm
    ·exact (hi a (ht _ _ _ (h3 b e') (h5 a e))).elim
  subst e;congr 1;refine pw_eq hi ht h4 h6 λx=>⟨λhx=>?_,λhx=>?_⟩
  ·rcases GK.1 ((h x).1 (GR _ hx)) with e | e
   ·subst e;exact (hi x (h3 x hx)).elim
   ·exact e
  ·rcases GK.1 ((h x).2 (GR _ hx)) with e | e
   ·subst e;exact (hi x (h5 x hx)).elim
   ·exact e
end Go.Pn
namespace Go.Pn
open Go.Sort Go.Proofs
def sd (a b:Ab):Int:=if a.Actuator=b.Actuator then (if a.Out=b.Out then 0 else if b.Out=true then -1 else 1) else a.Actuator - b.Actuator
def lcs:List Ab->List Ab->Int
 | [],[]=>0
 | [],_ :: _=>-1
 | _ :: _,[]=>1
 | a :: l,b :: m=>if sd a b=0 then lcs l m else sd a b
theorem Bq {a b:Ab}:sd a b=0↔a=b:=by
 obtain ⟨x,p⟩:=a;obtain ⟨y,q⟩:=b;unfold sd;dsimp only;constructor
 ·intro h;split at h
  ·rename_i h1;subst h1;split at h
   ·rename_i h2;subst h2;rfl
   ·split at h <;> omega
  ·omega
 ·intro h;injection h with h1 h2;subst h1 h2;simp
theorem sd_neg {a b:Ab}:sd a b < 0↔0 < sd b a:=by
 obtain ⟨x,p⟩:=a;obtain ⟨y,q⟩:=b;unfold sd;dsimp only;by_cases h:x=y
 ·subst h;cases p <;> cases q <;> simp
 ·rw [if_neg h,if_neg λe=>h e.symm];omega
theorem D2 {a b c:Ab} (h:sd a b < 0) (h':sd b c < 0):sd a c < 0:=by
 obtain ⟨x,p⟩:=a;obtain ⟨y,q⟩:=b;obtain ⟨z,r⟩:=c;unfold sd at h h' ⊢;dsimp only at h h' ⊢;by_cases h1:x=y
 ·subst h1;by_cases h2:x=z
  ·subst h2;cases p <;> cases q <;> cases r <;> simp_all
  ·rw [if_neg h2] at h' ⊢;exact h'
 ·rw [if_neg h1] at h;by_cases h2:y=z
  ·subst h2;rw [if_neg h1];exact h
  ·rw [if_neg h2] at h';rw [if_neg om_];omega
theorem Ax:∀ {a b:List Ab},lcs a b=0↔a=b
 | [],[]=>by simp [lcs]
 | [],_ :: _=>by simp [lcs]
 | _ :: _,[]=>by simp [lcs]
 | a :: l,b :: m=>by
  unfold lcs;split
  ·rename_i h;rw [Bq] at h;subst h;rw [Ax];simp
  ·rename_i h;constructor
   ·intro h';exact (h h').elim
   ·intro h';injection h' with h1 h2;exact (h (Bq.2 h1)).elim
theorem Th:∀ {a b:List Ab},lcs a b < 0↔0 < lcs b a
 | [],[]=>by simp [lcs]
 | [],_ :: _=>by simp [lcs]
 | _ :: _,[]=>by simp [lcs]
 | a :: l,b :: m=>by
  unfold lcs;by_cases h:a=b
  ·subst h;rw [if_pos (Bq.2 rfl),if_pos (Bq.2 rfl)];exact Th
  ·rw [if_neg λe=>h (Bq.1 e),if_neg λe=>h (Bq.1 e).symm];exact sd_neg
theorem Jp:∀ {a b c:List Ab},lcs a b < 0->lcs b c < 0->lcs a c < 0
 | [],[],_,h,_=>by simp [lcs] at h
 | [],_ :: _,[],_,h=>by simp [lcs] at h
 | [],_ :: _,_ :: _,_,_=>by simp [lcs]
 | _ :: _,[],_,h,_=>by simp [lcs] at h
 | _ :: _,_ :: _,[],_,h=>by simp [lcs] at h
 | a :: l,b :: m,c :: n,h,h'=>by
  unfold lcs at h h' ⊢;by_cases h1:a=b
  ·subst h1;rw [if_pos (Bq.2 rfl)] at h;by_cases h2:a=c
   ·subst h2;rw [if_pos (Bq.2 rfl)] at h' ⊢;exact Jp h h'
   ·rw [if_neg λe=>h2 (Bq.1 e)] at h' ⊢;exact h'
  ·rw [if_neg λe=>h1 (Bq.1 e)] at h;by_cases h2:b=c
   ·subst h2;rw [if_neg λe=>h1 (Bq.1 e)];exact h
   ·rw [if_neg λe=>h2 (Bq.1 e)] at h';have h3:=D2 h h';rw [if_neg om_];exact h3
theorem C1:SWO (ltOf lcs) where
 irrefl x:=by unfold ltOf;rw [Ax.2 rfl];rfl
 trans x y z h h':=by
  unfold ltOf at *;exact dt_ (Jp (of_decide_eq_true h) (of_decide_eq_true h'))
 ntrans x y z h h':=by
  unfold ltOf at *;have h:=of_decide_eq_false h;have h':=of_decide_eq_false h';refine df_ λh3=>?_;by_cases e1:lcs x y=0
  ·rw [Ax] at e1;subst e1;exact h' h3
  ·have e2:lcs y x < 0:=Th.2 om_;exact h' (Jp e2 h3)
theorem lcs_tot (x y:List Ab) (h:ltOf lcs x y=false) (h':ltOf lcs y x=false):x=y:=by
 unfold ltOf at *;have h:=of_decide_eq_false h;have h':=of_decide_eq_false h';rw [Th] at h';exact Ax.1 om_
def lL (a b:List Ab):Prop:=lcs a b < 0
theorem Mf:Ord_ lL where
 irr a h:=by
  have h:lcs a a < 0:=h;rw [Ax.2 rfl] at h;omega
 tr a b c:=Jp
 tot a b:=by
  unfold lL;rcases Int.lt_trichotomy (lcs a b) 0 with h | h | h
  ·exact .inr (.inl h)
  ·exact .inl (Ax.1 h)
  ·exact .inr (.inr (Th.2 h))
def Co:List (List Ab)->List (List Ab)
 | []=>[]
 | [x]=>[x]
 | x :: y :: l=>if lcs x y=0 then Co (y :: l) else x :: Co (y :: l)
theorem Mq:∀ {l:List (List Ab)} {x:List Ab},x∈Co l↔x∈l
 | [],_=>.rfl
 | [_],_=>.rfl
 | a :: b :: l,x=>by
  unfold Co;split
  ·rename_i h;obtain rfl:=Ax.1 h;rw [Mq];simp
  ·rw [GK,Mq,GK,GK,GK]
theorem Xg:∀ {l:List (List Ab)},l.Pairwise (λa b=>ltOf lcs b a=false)->(Co l).Pairwise lL
 | [],_=>.nil
 | [_],_=>by simp [Co]
 | a :: b :: l,h=>by
  obtain ⟨h1,h2⟩:=HM.1 h;unfold Co;split
  ·exact Xg h2
  ·rename_i hne;refine HM.2 ⟨λz hz=>?_,Xg h2⟩;rw [Mq] at hz;have hab:lL a b:=by
    rcases Mf.tot a b with e | e | e
    ·exact (hne (Ax.2 e)).elim
    ·exact e
    ·have:=h1 b (GO ..);unfold ltOf at this;exact (of_decide_eq_false this e).elim
   rcases GK.1 hz with rfl | hz
   ·exact hab
   ·rcases Mf.tot b z with e | e | e
    ·exact e ▸ hab
    ·exact Mf.tr _ _ _ hab e
    ·have:=(HM.1 h2).1 z hz;unfold ltOf at this;exact (of_decide_eq_false this e).elim
end Go.Pn
namespace Go.Pn
open Go Go.Sort Go.Proofs
def lcz (a b:List Ab):Int:=if lcs a b < 0 then -1 else if 0 < lcs a b then 1 else 0
theorem lcz_lt {a b:List Ab}:lcz a b < 0↔lcs a b < 0:=by unfold lcz; split <;> (try split) <;> omega
theorem Mo:ltOf lcz=ltOf lcs:=by
 funext a b
 unfold ltOf;rw [decide_eq_decide];exact lcz_lt
theorem lcz_swo:SWO (ltOf lcz):=by rw [Mo];exact C1
theorem lcz_tot (x y:List Ab) (h:ltOf lcz x y=false) (h':ltOf lcz y x=false):x=y:=lcs_tot x y (by rw [← Mo];exact h) (by rw [← Mo];exact h')
end Go.Pn
namespace Go.Pn
open Go Go.RowKit
def Oz {α:Type} [Rep α] (e:TypeId) (c:Value) (xs:List α):Ent where
 p F M w _:=(xs=[]/\F=[]/\∃ A,c=.slice A 0 0)\/∃ g o cap cur,F=[g]/\c=.slice (some ⟨g,o,none⟩) xs.length cap/\w.heap[g]?=some (.cells cur e (0,0))/\xs.length<=cap/\cap<=maxLen/\cur.size=o + cap/\Chk M w ((cur.toList.drop o).take xs.length) xs
 st h x:=by
  rcases h with h | ⟨g,o,cap,cur,hF,hc,hg,h1,h2,h3,h4⟩
  ·exact .inl h
  ·exact .inr ⟨g,o,cap,cur,hF,hc,by rw [x.block g (GA.1 hg).1 (λhm=>hm.2 (by rw [hF];simp))];exact hg,h1,h2,h3,h4.ext (x.mono λ_ _ hk=>hk.1)⟩
 sb h s:=h.imp id λ⟨g,o,cap,cur,hF,hc,hg,h1,h2,h3,h4⟩=>⟨g,o,cap,cur,hF,hc,hg,h1,h2,h3,h4.sub s⟩
instance {α:Type} [Rep α] {e:TypeId} {c:Value} {xs:List α}:Gh (Oz e c xs):=⟨λh _=>h⟩
def Pz (c:Value) (j:Nat):Ent where
 p F _ _ v:=F=[]/\∃ g o n cap,c=.slice (some ⟨g,o,none⟩) n cap/\v=.pointer (some ⟨g,o + j,none⟩)
 st h _:=h
 sb h _:=h
section
variable {rr:Option Nat} {P:Program} {M0:Fm} {w0:World} {n:Nat} {Γ:Cx} {Q:Exit->Act->World->Prop} {a:Act} {w:World} {ty:TypeId} {α:Type} [Rep α]
theorem Oz.val {e:Nat} {c:Value} {xs:List α} {F:L8} {M:Nat->Prop} {v:Value} (h:(Oz e c xs).p F M w v):∃ ad cap,c=.slice ad xs.length cap/\xs.length<=cap/\(xs=[]\/∃ g o,ad=some ⟨g,o,none⟩):=by
 rcases h with ⟨rfl,_,A,rfl⟩ | ⟨g,o,cap,cur,_,rfl,_,h1,_⟩
 ·exact ⟨A,0,rfl,GS _,.inl rfl⟩
 ·exact ⟨_,cap,rfl,h1,.inr ⟨g,o,rfl⟩⟩
theorem Oz.at_ {e:Nat} {c:Value} {xs:List α} {F:L8} {M:Nat->Prop} {v:Value} {i g o m cap:Nat} {y:α} (h1:Rep.sz α=1) (h:(Oz e c xs).p F M w v) (hg:c=.slice (some ⟨g,o,none⟩) m cap) (hi:xs[i]?=some y) :
  ∃ m,Rep.rep M w m y/\∀ j u,m[j]?=some u->w.cell? ⟨g,o + i + j,none⟩=some u:=by
 rcases h with ⟨rfl,_⟩ | ⟨g',o',cap',cur,_,hc,hb,hle,_,hsz,hch⟩
 ·simp at hi
 ·rw [hc] at hg;injection hg with h2 _ _;injection h2 with h2;injection h2 with h2 h3 _;subst h2 h3;obtain ⟨p,k,q,hcs,hl,hr,_⟩:=hch.get hi;refine ⟨k,hr,λj u hj=>?_⟩;have hk:k.length=1:=by rw [Rep.len hr,h1]
  have hj0:j=0:=by
   have:=(GE.1 hj).1;omega
  subst hj0;have h4:((cur.toList.drop o').take xs.length)[i]?=some u:=by
   rw [hcs,G0 (by rw [hl,h1];omega),hl,h1,HN,LL,GP om_];exact hj
  rw [JK] at h4;split at h4
  case isFalse=>cases h4
  rw [JV] at h4;rw [J0,cell_of_row w g' (o' + i) cur e (0,0) hb];simpa using h4
theorem St.toZ {k e:Nat} {c:Value} {xs:List α} (h1:Rep.sz α=1) (h:St M0 w0 n Γ a w) (hk:Ak Γ k=some (Ow e c xs)):St M0 w0 n ((k,Oz e c xs) :: Γ) a w:=
 h.turn1 hk λF M v _ hp=>by
  have hp0:=hp;rcases Ow.full h1 hp with ⟨rfl,A,hA,_⟩ | ⟨g,cap,cur,hF,hc,hg,h2,h3,h4,h5⟩
  ·rcases hp0 with ⟨hF,cs,ho,hc⟩ | ⟨hF,_,_⟩
   ·rcases ho.2 with ⟨rfl,_⟩ | ⟨g,cap,cur,rfl,_,hg,hle,hcap,hsz,htk⟩
    ·exact .inl ⟨rfl,by rw [hF];rfl,_,rfl⟩
    ·injection hA with _ _ h6;subst h6;exact .inr ⟨g,0,0,cur,by rw [hF];rfl,rfl,hg,GS _,JD _,by rw [hsz];omega,rfl⟩
   ·exact .inl ⟨rfl,hF,A,hA⟩
  ·exact .inr ⟨g,0,cap,cur,hF,hc,hg,h2,h3,by omega,by rw [GL];exact h5⟩
theorem toz {R:Prop} (k:Nat) {e:Nat} {c:Value} {xs:List α} (h1:Rep.sz α=1) (h:St M0 w0 n Γ a w) (hk:Ak Γ k=some (Ow e c xs)) (r:St M0 w0 n ((k,Oz e c xs) :: Γ) a w->R):R:=r (St.toZ h1 h hk)
theorem lnz {T k e:Nat} {x:Operand} {c:Value} {xs:List α} [he:Ea P T e α] (hx:Od Γ x (Qv c)) (hk:Ak Γ k=some (Oz e c xs)):OR P (.call { callee:=.builtin .len,args:=#[x],argTypes:=#[T] }) ty Γ (Va (xs.length:Int)):=by
 refine OR.val λρ M w r=>?_;obtain ⟨_,_,hv⟩:=hx ρ M w r;obtain ⟨_,ho⟩:=r.tmp _ _ hk;obtain ⟨ad,cap,rfl,_⟩:=Oz.val ho;refine ⟨.int .i64 xs.length,λ_ _ _ _=>?_,Va.mkInt⟩;simp [execOp,resolve,hv,invoke,builtin,Builtin.len_,run_underlying he.el,goInt]
theorem ixz {T k e:Nat} {x i:Operand} [he:Ea P T e α] {c:Value} {xs:List α} {m:Int} {y:α} (h1:Rep.sz α=1) (hx:Od Γ x (Qv c)) (hk:Ak Γ k=some (Oz e c xs)) (hi:Od Γ i (Va m)) (h:idx xs m=some y):OR P (.indexAddr T x i) ty Γ (Pz c m.toNat):=by
 refine OR.val λρ M w r=>?_;obtain ⟨_,_,hv⟩:=hx ρ M w r;obtain ⟨_,h2⟩:=hi ρ M w r;obtain ⟨_,ho⟩:=r.tmp _ _ hk;obtain ⟨h0,hl,hg⟩:=Ay h;obtain ⟨ad,cap,rfl,_,h3⟩:=Oz.val ho;obtain ⟨ii,z,hii,_,hs,_⟩:=he.inf;obtain rfl | ⟨g,o,rfl⟩:=h3
 ·simp at hg
 ·refine ⟨.pointer (some ⟨g,o + m.toNat,none⟩),λ_ _ _ _=>?_,rfl,g,o,_,cap,rfl,rfl⟩;simp only [execOp,hv,Va.int h2,Instr.indexAt,F9,asIntOf,GB,F7,run_underlying he.el];simp [h0,hl,sizeOf,typeInfo,hii,hs,Bj,h1]
theorem ldz {T k e i:Nat} {x:Operand} [Ty P T α] {c:Value} {xs:List α} {y:α} (h1:Rep.sz α=1) (hx:Od Γ x (Pz c i)) (hk:Ak Γ k=some (Oz e c xs)) (h:xs[i]?=some y):OR P (.load T x) ty Γ (Va y):=by
 refine OR.val λρ M w r=>?_;obtain ⟨_,_,g,o,m,cap,hg,hv⟩:=hx ρ M w r;obtain ⟨_,ho⟩:=r.tmp _ _ hk;obtain ⟨m,hr,hc⟩:=Oz.at_ h1 ho hg h;refine ⟨mk (Rep.agg α) m,λ_ _ _ _=>?_,rfl,m,rfl,hr⟩;simp only [execOp,hv,Instr.loadAt,Instr.sureAddr,F9,GB,F7,Bv hc hr]
theorem slz {ops:Array Oper} {rest:List Oper} {T e k d:Nat} {x y:Operand} {pos:String} {aft:Array Edge} {c:Value} {l:Int} {xs zs:List α} (h1:Rep.sz α=1)
  (he:P.underlying T=some (.slice (P.elem T))) (hsz1:(P.info? (P.elem T)).map (·.size)=some 1) (hs:St M0 w0 n Γ a w) (hx:Od Γ x (Qv c)) (hk:Ak Γ k=some (Oz e c xs)) (hy:Od Γ y (Va l)) (hl:lsl xs l (xs.length:Int)=some zs)
  (hn:Nat.blt d n=true) (hdk:Nat.beq d k=false)
  (cont:∀ c' a' w',St M0 w0 n ((d,Qv c') :: (k,Oz e c' zs) :: Γ) a' w'->wpListIn (Fr rr) 0 P ops Q rest a' w') :
  wpListIn (Fr rr) 0 P ops Q (⟨some d,.slice T x (some y) none none,ty,pos,aft,none⟩ :: rest) a w:=by
 refine wpListIn_plain rfl λK hK=>?_;obtain ⟨M,φ,h⟩:=hs;obtain ⟨_,_,hv⟩:=hx _ _ _ h.rd;obtain ⟨_,hy2⟩:=hy _ _ _ h.rd;have hp:=h.holds k _ hk;have hl':0<=l/\l<=xs.length/\zs=xs.drop l.toNat:=by
  unfold lsl at hl;split at hl
  ·rename_i hc;obtain rfl:=Option.some.inj hl;refine ⟨hc.1,hc.2.1,?_⟩;rw [HG smp_]
  ·cases hl
 obtain ⟨hl0,hl1,rfl⟩:=hl';have hsz:∀ w,(sizeOf (P.elem T)).run P w=.ok 1 w:=λw=>by
  cases hie:P.info? (P.elem T) with
  | none=>simp [hie] at hsz1
  | some i=>simp [hie] at hsz1;simp [sizeOf,typeInfo,hie,hsz1]
 have fin:∀ (v:Value),StF M0 w0 n (put k (Oz e v (xs.drop l.toNat)) (Ak Γ)) a w->St M0 w0 n ((d,Qv v) :: (k,Oz e v (xs.drop l.toNat)) :: Γ) (a.put (some d) v) w:=by
  intro v ⟨M',φ',h'⟩;unfold St;rw [Ah,Ah];exact h'.gives ⟨Ext.refl _ _,[],G4,λq hq=>by simp at hq,rfl,rfl⟩ (GD hn)
 obtain ⟨ad,cap,hcv,hle,_⟩:=Oz.val hp;have hrun:=run_slice_l (P:=P) w T ad xs.length cap he .i64 l hl0 hl1;refine Bc.upon (Bc.val (v:=sliced ad l.toNat xs.length cap 1) (w':=w) ?_ ?_)
 ·simp only [execOp,hv,hcv,H4,GZ,Va.int hy2,F9];rw [run_sliceAt_slice _ _ _ _ _ _ he,hrun,hsz];try simp
 ·refine hK _ _ (cont (sliced ad l.toNat xs.length cap 1) _ _ ?_);by_cases hcl:cap=l.toNat
  ·-- nothing is left
   have hx0:xs.drop l.toNat=[]:=GT om_;have hs0:sliced ad l.toNat xs.length cap 1=.slice ad 0 0:=by
    unfold sliced;rw [if_pos hcl];congr 1 <;> omega
   rw [hx0,hs0];unfold St;rw [Ej];exact h.own2 (F:=[]) (by rw [hk];rfl) (GD hn) (G6 hdk) (Ext.refl _ _) G4 (λq hq=>by simp at hq) λu=>.inl ⟨rfl,rfl,_,rfl⟩
  ·refine fin _ ?_;rcases hp with ⟨h0,_,A,hA⟩ | ⟨g,o,cap',cur,hF,hc,hg,h2,h3,h4,h5⟩
   ·exfalso;rw [hcv] at hA;injection hA with _ _ hA;rw [h0] at hl1;simp at hl1;omega
   ·rw [hcv] at hc;injection hc with hc1 _ hc3;subst hc1 hc3;have hs1:sliced (some ⟨g,o,none⟩) l.toNat xs.length cap 1=.slice (some ⟨g,o + l.toNat,none⟩) (xs.drop l.toNat).length (cap - l.toNat):=by
     unfold sliced;rw [if_neg hcl];simp [Bj]
    rw [hs1];refine h.write (b:=g) (by rw [hk];rfl) (by rw [hF];simp) (Ext.refl _ _) (.inr ⟨g,o + l.toNat,cap - l.toNat,cur,hF,rfl,hg,by simp;omega,by omega,by omega,?_⟩);have h6:=h5.drop1 h1 l.toNat
    rw [LF,← List.drop_drop];rw [List.drop_take] at h6;exact h6
theorem Zy (w:World) (t ty e:TypeId) (i:TypeInfo) (ht:P.underlying t=some (.slice e)) (hi:P.info? e=some i) (his:i.size=1)
  (g o sLen sCap:Nat) (cur:Array Value) (hg:w.heap[g]?=some (.cells cur e (0,0)))
  (a:Addr) (m c:Nat) (news:L9) (hl:news.length=m) (hnews:∀ j u,news[j]?=some u->w.cell? (a.add j)=some u) (h1:∀ u∈news,u.oneCell'=true)
  (hroom:sLen + m<=sCap) (hfit:o + sLen + news.length<=cur.size) :
  (Builtin.append_ #[t,t] ty #[.slice (some ⟨g,o,none⟩) sLen sCap,.slice (some a) m c]).run P w =
   .ok (.slice (some ⟨g,o,none⟩) (sLen + m) sCap) (w.setRow g (cur.toList.take (o + sLen) ++ news ++ cur.toList.drop (o + sLen + news.length)).toArray):=by
 have hf:=run_firstCells_some (P:=P) w i.size m a m c news (by rw [his,hl];omega) hnews;have hst:=run_storeCells_at P g (o + sLen) e news 0 cur w hg (by simpa using hfit) h1;simp only [J0] at hst;rw [his] at hf;simp [Builtin.append_,run_underlying ht,sizeOf,typeInfo,hi,his,Builtin.lenOf,hroom,hf,Addr.add_lit,hst]
theorem D4 {T e:Nat} [he:Ea P T e α] (h1:Rep.sz α=1) {M:Nat->Prop} {w:World} {F:L8} {c v u0:Value} {xs ys zs:List α} (ho:(Oz e c xs).p F M w u0) (hFM:∀ q∈F,M q) (hy:Sl M w v ys) (hne:ys.isEmpty=false) (ha:app xs ys=some zs) (ty:TypeId) :
  ∃ v' w' F',(Builtin.append_ #[T,T] ty #[c,v]).run P w=.ok v' w'/\Ext (λq=>q∈F) w w'/\F'.Nodup/\(∀ q∈F',q∈F\/(w.heap.size<=q/\q < w'.heap.size))/\∀ u,(Oz e v' zs).p F' (λq=>M q\/q∈F') w' u:=by
 unfold app at ha;split at ha
 case isFalse=>cases ha
 rename_i hlen;cases ha
 obtain ⟨i,z,hi,hz,hs,hb,hzs⟩:=he.inf;have hb':=GD hb;rw [h1] at hs hzs;obtain ⟨ad,cap2,rfl,hy⟩:=hy;have hyp:0 < ys.length:=by
  cases ys with
  | nil=>cases hne
  | cons y ys=>simp
 obtain ⟨b,o2,rfl,hrow⟩:∃ b o,ad=some ⟨b,o,none⟩/\Row M w b o ys:=by
  rcases hy with rfl | h
  ·cases hne
  ·exact h
 obtain ⟨ds,hd,hcl⟩:=hrow.chk;have hdl:ds.length=ys.length:=by rw [hd.len,h1,HN]
 have hcell:∀ j u,ds[j]?=some u->w.cell? ((⟨b,o2,none⟩:Addr).add j)=some u:=λj u hj=>by rw [Bj];exact (hcl j u hj).2
 have hbytes:∀ k:Nat,k<=1073741824->k * i.bytes<=140737488355328:=λk hk=>G3 (KR hk hb') (by decide)
 -- a new block
 have fresh:∀ (olds:L9) (cap':Nat),Chk M w olds xs->xs.length + ys.length<=cap'->cap'<=maxLen ->
   Ext (λq=>q∈F) w (w.drew.alloc (.cells (olds.toArray ++ ds.toArray ++ Builtin.zeroCells z.cells (cap' - (xs.length + ys.length))) e)) /\
   ∀ u,(Oz e (.slice (some ⟨w.heap.size,0,none⟩) (xs.length + ys.length) cap') (xs ++ ys)).p [w.heap.size] (λq=>M q\/q∈[w.heap.size]) (w.drew.alloc (.cells (olds.toArray ++ ds.toArray ++ Builtin.zeroCells z.cells (cap' - (xs.length + ys.length))) e)) u:=by
  intro olds cap' hch h2 h3;have hol:olds.length=xs.length:=by rw [hch.len,h1,HN]
  have hx:∀ N:Nat->Prop,Ext N w (w.drew.alloc (.cells (olds.toArray ++ ds.toArray ++ Builtin.zeroCells z.cells (cap' - (xs.length + ys.length))) e)):=λN=>
   ⟨rfl,rfl,rfl,by show w.heap.size<=(w.heap.push _).size;simp,λk hk _=>by
    show (w.heap.push _)[k]?=_;rw [Array.getElem?_push_lt hk,HA hk],KZ _⟩
  refine ⟨hx _,λu=>.inr ⟨w.heap.size,0,cap',_,rfl,by rw [GC],heap_alloc_new w.drew _,by rw [GC];exact h2,h3,?_,?_⟩⟩
  ·rw [J7,J7,size_zeroCells,hzs];simp [hol,hdl];omega
  ·have:((olds.toArray ++ ds.toArray ++ Builtin.zeroCells z.cells (cap' - (xs.length + ys.length))).toList.drop 0).take (xs ++ ys).length=olds ++ ds:=by
    rw [GL,K3,K3,GC];exact LM (by simp [hol,hdl])
   rw [this];exact Chk.ext (hx _) (Chk.sub (λk hk hm=>by
    rcases hm with hm | hm
    ·exact hm
    ·simp at hm;omega) (hch.append hd))
 have hmax:xs.length + ys.length<=maxLen:=by unfold maxLen;omega
 rcases ho with ⟨rfl,rfl,A,rfl⟩ | ⟨g,o,cap,cur,rfl,rfl,hg,h2,h3,h4,h5⟩
 ·obtain ⟨f1,f2⟩:=fresh [] (grownCap w ys.length 0 e) rfl (by simpa using grownCap_ge w ys.length 0 e) (grownCap_le_maxLen w _ _ e (by simpa using hmax));have hsz:(w.drew.alloc (.cells (([]:L9).toArray ++ ds.toArray ++ Builtin.zeroCells z.cells (grownCap w ys.length 0 e - (([]:List α).length + ys.length))) e)).heap.size=w.heap.size + 1:=by show (w.heap.push _).size=_;simp
  refine ⟨_,_,[w.heap.size],?_,f1,by simp,λq hq=>.inr (by simp at hq;subst hq;rw [hsz];omega),f2⟩;cases A with
  | none=>
   have:=run_append_nil (P:=P) w T ty e i z he.el hi hz ⟨b,o2,none⟩ ys.length (cap2 + ys.length) ds (by rw [hs,hdl,HN]) hcell hyp (by simp at hlen;omega) (by have:=hbytes ys.length (by simp at hlen;omega);omega);rw [this];simp
  | some b0=>
   have:=run_append_grow (P:=P) w T ty e i z he.el hi hz b0 0 0 [] smp_ (λj v hj=>by simp at hj) ⟨b,o2,none⟩ ys.length (cap2 + ys.length) ds (by rw [hs,hdl,HN]) hcell om_ (by simp at hlen;omega) (growslice_fits om_ (hbytes _ (by simp at hlen;omega)));rw [this];simp
 ·by_cases hroom:xs.length + ys.length<=cap
  ·have hrun:=Zy (P:=P) w T ty e i he.el hi hs g o xs.length cap cur hg ⟨b,o2,none⟩ ys.length (cap2 + ys.length) ds hdl hcell hd.one hroom om_;have hx:Ext (λq=>q∈[g]) w (w.setRow g (cur.toList.take (o + xs.length) ++ ds ++ cur.toList.drop (o + xs.length + ds.length)).toArray):=⟨rfl,rfl,rfl,by simp [World.setRow],λk _ hk=>by
    have:g≠k:=λe=>hk (by rw [e];simp);simp [World.setRow,H8,this],GS _⟩
   refine ⟨_,_,[g],hrun,hx,by simp,λq hq=>.inl hq,λu=>.inr ⟨g,o,cap,(cur.toList.take (o + xs.length) ++ ds ++ cur.toList.drop (o + xs.length + ds.length)).toArray,rfl,by rw [GC],?_,by rw [GC];exact hroom,h3,?_,?_⟩⟩
   ·simp [World.setRow,H8,hg]
   ·simp;omega
   ·have hcl2:cur.toList.length=cur.size:=by simp
    have h6:(((cur.toList.take (o + xs.length) ++ ds ++ cur.toList.drop (o + xs.length + ds.length)).toArray.toList.drop o).take (xs ++ ys).length)=(cur.toList.drop o).take xs.length ++ ds:=by
     rw [G2,List.drop_append_of_le_length (by rw [H6];omega),List.drop_take,show o + xs.length - o=xs.length by omega,← G2];exact LM (by rw [GC,GC,H6,LF];omega)
    rw [h6];exact Chk.ext (hx.mono λq _ hq=>.inr hq) (Chk.sub (λk hk hm=>by
     rcases hm with hm | hm
     ·exact hm
     ·exact hFM k hm) (h5.append hd))
  ·have hol:((cur.toList.drop o).take xs.length).length=xs.length:=by rw [h5.len,h1,HN]
   have hcells:∀ j v,((cur.toList.drop o).take xs.length)[j]?=some v->w.cell? ((⟨g,o,none⟩:Addr).add j)=some v:=λj v hj=>by
    rw [JK] at hj;split at hj
    case isFalse=>cases hj
    rw [JV] at hj;rw [Bj,cell_of_row w g (o + j) cur e (0,0) hg];simpa using hj
   obtain ⟨f1,f2⟩:=fresh ((cur.toList.drop o).take xs.length) (grownCap w (xs.length + ys.length) cap e) h5 (grownCap_ge w _ _ e) (grownCap_le_maxLen w _ _ e hmax);have hrun:=run_append_grow (P:=P) w T ty e i z he.el hi hz ⟨g,o,none⟩ xs.length cap _ (by rw [hol,hs,HN]) hcells ⟨b,o2,none⟩ ys.length (cap2 + ys.length) ds (by rw [hs,hdl,HN]) hcell om_ om_ (growslice_fits om_ (hbytes _ hlen));exact ⟨_,_,[w.heap.size],hrun,f1,by simp,λq hq=>.inr (by simp at hq;subst hq;exact ⟨Nat.le_refl _,by show w.heap.size < (w.heap.push _).size;simp⟩),f2⟩
theorem apz {ops:Array Oper} {rest:List Oper} {d:Nat} {T e:Nat} {pos:String} {aft:Array Edge} {x y:Operand} [he:Ea P T e α] {c:Value} {k:Nat} {xs ys zs:List α} (h1:Rep.sz α=1)
  (hs:St M0 w0 n Γ a w) (hx:Od Γ x (Qv c)) (hk:Ak Γ k=some (Oz e c xs)) (hy:Od Γ y (Va ys)) (hne:ys.isEmpty=false) (ha:app xs ys=some zs) (hn:Nat.blt d n=true) (hdk:Nat.beq d k=false)
  (cont:∀ c' a' w',St M0 w0 n ((d,Qv c') :: (k,Oz e c' zs) :: Γ) a' w'->wpListIn (Fr rr) 0 P ops Q rest a' w') :
  wpListIn (Fr rr) 0 P ops Q (⟨some d,.call { callee:=.builtin .append,args:=#[x,y],argTypes:=#[T,T] },ty,pos,aft,none⟩ :: rest) a w:=by
 refine wpListIn_plain rfl λK hK=>?_;obtain ⟨M,φ,h⟩:=hs;obtain ⟨_,_,hv⟩:=hx _ _ _ h.rd;obtain ⟨_,hyv⟩:=hy _ _ _ h.rd;obtain ⟨v',w',F',g1,g2,g3,g4,g5⟩:=D4 (P:=P) (T:=T) h1 (h.holds k _ hk) (λq hq=>((h.own k (by rw [hk];rfl)).2 q hq).1) (Va.list hyv) hne ha ty;refine Bc.upon (Bc.val (v:=v') (w':=w') ?_ ?_)
 ·simp only [execOp,resolve,invoke,builtin,F9,GB,F7,HF,GQ,HO,hv,g1]
 ·refine hK _ _ (cont v' _ _ ?_);unfold St;rw [Ej];exact h.own2 (F:=F') (by rw [hk];rfl) (GD hn) (G6 hdk) g2 g3 g4 g5
theorem ocz {k e:Nat} {c:Value} {xs:List α} (h:Ak Γ k=some (Oz e c xs)):Oc Γ c:=λρ M w r=>by
 obtain ⟨F,hF⟩:=r.tmp _ _ h;obtain ⟨ad,cap,rfl,_⟩:=Oz.val hF;rfl
end
end Go.Pn
namespace Go.Pn
open Go Go.RowKit
section
variable {P:Program} {Γ:Cx} {ty:TypeId}
theorem vaq2 {x:Operand} {y:Int×Int} (h:Od Γ x (Va y)):Od Γ x (Qa [.int .i64 y.1,.int .i64 y.2]):=λρ M w r=>by
 obtain ⟨F,hF,cs,hv,c,d,hcs,h1,h2⟩:=h ρ M w r;have h1:c=[.int .i64 y.1]:=h1;have h2:d=[.int .i64 y.2]:=h2;subst h1 h2 hcs;exact ⟨F,hF,hv,by simp [Value.oneCell']⟩
theorem rpA2 {a b:Int}:Rp Γ [.int .i64 a,.int .i64 b] (a,b):=rpp rpi rpi
theorem vfv {α:Type} [Rep α] {x:Operand} {xs:List α} (h:Od Γ x (Vf xs)):Od Γ x (Va xs):=λρ M w r=>by
 obtain ⟨F,hF,A,hv,hr⟩:=h ρ M w r;exact ⟨F,hF,[_],by rw [hv];rfl,_,rfl,A,0,by rw [JA],hr⟩
theorem cqe {v c:Value} {x:Operand} (h:c=v) (k:Od Γ x (Qv v)):Od Γ x (Qv c):=by rw [h];exact k
theorem nilx {M0:Fm} {w0:World} {n:Nat} {a:Act} {w:World} {α:Type} [Rep α] {R:Prop} (k e:Nat) (h:St M0 w0 n Γ a w) (r:∀ c,c=.slice none 0 0->St M0 w0 n ((k,Ow e c ([]:List α)) :: Γ) a w->R):R:=nilr k e h λs=>r _ rfl s
end
end Go.Pn
namespace Go.Pn
open Go Go.RowKit
def Vq {κ ν:Type} [Rep ν] (M:Nat->Prop) (w:World):List (κ×Value)->List (κ×ν)->Prop
 | [],[]=>True
 | p :: l,q :: m=>p.1=q.1/\V q.2 M w p.2/\Vq M w l m
 | _,_=>False
section
variable {κ ν:Type} [Rep ν] {M M':Nat->Prop} {w w':World}
theorem Vq.imp (hf:∀ (y:ν) v,V y M w v->V y M' w' v):∀ {l:List (κ×Value)} {m:List (κ×ν)},Vq M w l m->Vq M' w' l m
 | [],[],h=>h
 | _ :: _,_ :: _,h=>⟨h.1,hf _ _ h.2.1,Vq.imp hf h.2.2⟩
 | [],_ :: _,h=>h
 | _ :: _,[],h=>h
theorem Vq.find {eqb:κ->κ->Bool} {k:κ}:∀ {l:List (κ×Value)} {m:List (κ×ν)} {i:Nat},Vq M w l m->(Bk eqb k l i=none/\Bk eqb k m i=none)\/∃ j v y,Bk eqb k l i=some (j,v)/\Bk eqb k m i=some (j,y)/\V y M w v
 | [],[],i,_=>.inl ⟨rfl,rfl⟩
 | (a,v) :: l,(b,y) :: m,i,h=>by
  obtain ⟨h1,h2,h3⟩:=h;have h1:a=b:=h1;subst h1;unfold Bk;cases eqb k a with
  | true=>exact .inr ⟨i,v,y,rfl,rfl,h2⟩
  | false=>exact Vq.find h3
 | [],_ :: _,_,h=>h.elim
 | _ :: _,[],_,h=>h.elim
theorem Vq.push {k:κ} {u:Value} {y:ν} (hu:V y M w u):∀ {l:List (κ×Value)} {m:List (κ×ν)},Vq M w l m->Vq M w (l ++ [(k,u)]) (m ++ [(k,y)])
 | [],[],_=>⟨rfl,hu,trivial⟩
 | _ :: _,_ :: _,h=>⟨h.1,h.2.1,Vq.push hu h.2.2⟩
 | [],_ :: _,h=>h.elim
 | _ :: _,[],h=>h.elim
theorem Vq.mod {u:Value} {y:ν} (hu:V y M w u):∀ {l:List (κ×Value)} {m:List (κ×ν)} {i:Nat},Vq M w l m->Vq M w (l.modify i λp=>(p.1,u)) (m.modify i λp=>(p.1,y))
 | [],[],_,h=>by simpa using h
 | _ :: _,_ :: _,0,h=>⟨h.1,hu,h.2.2⟩
 | _ :: _,_ :: _,i + 1,h=>by
  simp only [List.modify_succ_cons];exact ⟨h.1,h.2.1,Vq.mod hu h.2.2⟩
 | [],_ :: _,_,h=>h.elim
 | _ :: _,[],_,h=>h.elim
theorem Vq.put {eqb:κ->κ->Bool} {k:κ} {u:Value} {y:ν} {l:List (κ×Value)} {m:List (κ×ν)} (h:Vq M w l m) (hu:V y M w u):Vq M w (Ep eqb l k u) (Ep eqb m k y):=by
 unfold Ep;rcases Vq.find (eqb:=eqb) (k:=k) (i:=0) h with ⟨h1,h2⟩ | ⟨j,v,z,h1,h2,_⟩
 ·rw [h1,h2];exact h.push hu
 ·rw [h1,h2];exact h.mod hu
theorem Vq.len:∀ {l:List (κ×Value)} {m:List (κ×ν)},Vq M w l m->l.length=m.length
 | [],[],_=>rfl
 | _ :: _,_ :: _,h=>by simp [Vq.len h.2.2]
 | [],_ :: _,h=>h.elim
 | _ :: _,[],h=>h.elim
end
def Bn (es:Array MapEntry) (clock:Nat):Prop:=(∀ x∈es.toList,x.born < clock)/\(es.toList.map (·.born)).Nodup
theorem Bn.push {es:Array MapEntry} {cl:Nat} {k v:Value} (h:Bn es cl):Bn (es.push { key:=k,val:=v,born:=cl }) (cl + 1):=by
 constructor
 ·intro x hx;simp at hx;rcases hx with hx | rfl
  ·have:=h.1 x (by simpa using hx);omega
  ·exact Nat.lt_succ_self _
 ·simp only [Array.toList_push,LN,GQ,HO];refine JT.2 ⟨h.2,by simp,λx hx y hy=>?_⟩;obtain rfl:y=cl:=by simpa using hy
  obtain ⟨e,he,rfl⟩:=H2.1 hx;have:=h.1 e he;omega
theorem Bn.mod {es:Array MapEntry} {cl i:Nat} {k v:Value} (h:Bn es cl):Bn (es.modify i λe=>{ e with key:=k,val:=v }) cl:=by
 have hb:(es.modify i λe=>{ e with key:=k,val:=v }).toList.map (·.born)=es.toList.map (·.born):=by
  rw [K1];refine HV λq=>?_;simp only [GW,KY];by_cases hq:i=q
  ·subst hq;cases es.toList[i]? <;> simp
  ·simp [hq]
 constructor
 ·intro x hx;have:x.born∈(es.modify i λe=>{ e with key:=k,val:=v }).toList.map (·.born):=H2.2 ⟨x,hx,rfl⟩;rw [hb] at this;obtain ⟨e,he,hee⟩:=H2.1 this;rw [← hee];exact h.1 e he
 ·rw [hb];exact h.2
def Oq {κ ν:Type} [Rep κ] [FV κ] [Rep ν] (r:Nat) (m:List (κ×ν)):Ent where
 p F M w _:=F=[r]/\∃ es clock l,w.heap[r]?=some (.map es clock)/\es.toList.map (λe=>(e.key,e.val))=l.map (λp:κ×Value=>(FV.val p.1,p.2))/\Bn es clock/\Vq M w l m
 st h e:=by
  obtain ⟨rfl,es,cl,l,hc,hm,hb,hv⟩:=h;exact ⟨rfl,es,cl,l,by rw [e.block r (GA.1 hc).1 smp_];exact hc,hm,hb,hv.imp λy v hy=>hy.ext (e.mono λ_ _ hk=>hk.1)⟩
 sb h s:=by
  obtain ⟨rfl,es,cl,l,hc,hm,hb,hv⟩:=h;exact ⟨rfl,es,cl,l,hc,hm,hb,hv.imp λy v hy=>hy.sub s⟩
instance {κ ν:Type} [Rep κ] [FV κ] [Rep ν] {r:Nat} {m:List (κ×ν)}:Gh (Oq r m):=⟨λh _=>h⟩
def OQ {κ ν:Type} [Rep κ] [FV κ] [Rep ν] (m:List (κ×ν)):Ent where
 p F M w v:=∃ r,v=.map (some r)/\(Oq r m).p F M w v
 st h e:=let ⟨r,hv,h⟩:=h;⟨r,hv,(Oq r m).st h e⟩
 sb h s:=let ⟨r,hv,h⟩:=h;⟨r,hv,(Oq r m).sb h s⟩
section
variable {rr:Option Nat} {P:Program} {M0:Fm} {w0:World} {n:Nat} {Γ:Cx} {Q:Exit->Act->World->Prop} {a:Act} {w:World} {ty:TypeId}
theorem mkq {κ ν:Type} [Rep κ] [FV κ] [Rep ν] {T:TypeId}:OR P (.makeMap T none) ty Γ (OQ ([]:List (κ×ν))):=by
 refine OR.run λρ M w r=>?_;refine ⟨.map (some w.heap.size),w.alloc (.map #[] 0),λ_ _ _ _=>?_,Ext.alloc _ _ _,[w.heap.size],by simp,λk hk=>?_,w.heap.size,rfl,rfl,#[],0,[],Bz _ _,rfl,⟨by simp,by simp⟩,trivial⟩
 ·simp only [execOp,H4,Instr.makeMap,F9,run_newObj,F7,GB];rfl
 ·simp at hk;subst hk;exact ⟨Nat.le_refl _,by simp⟩
theorem opq {κ ν:Type} [Rep κ] [FV κ] [Rep ν] {d:Nat} {m:List (κ×ν)} {R:Prop} (k:Nat) (h:St M0 w0 n Γ a w) (hd:Ak Γ d=some (OQ m)) (hne:Nat.beq d k=false) (r:∀ b,St M0 w0 n ((d,Qv (.map (some b))) :: (k,Oq b m) :: Γ) a w->R):R:=by
 obtain ⟨M,φ,h⟩:=h;obtain ⟨b,hv,hb⟩:=h.holds d _ hd;refine r b ?_;unfold St;rw [Ej];exact h.split (by rw [hd];rfl) (G6 hne) ⟨rfl,hv⟩ hb
theorem sqqm {ops:Array Oper} {rest:List Oper} {d:Nat} {op:Op} {pos:String} {aft:Array Edge} {κ ν:Type} [Rep κ] [FV κ] [Rep ν] {m:List (κ×ν)} (K:Nat)
  (hs:St M0 w0 n Γ a w) (ho:OR P op ty Γ (OQ m)) (hn:Nat.blt d n=true) (hdk:Nat.beq d K=false)
  (k:∀ b a' w',St M0 w0 n ((d,Qv (.map (some b))) :: (K,Oq b m) :: (d,OQ m) :: Γ) a' w'->wpListIn (Fr rr) 0 P ops Q rest a' w'):wpListIn (Fr rr) 0 P ops Q (⟨some d,op,ty,pos,aft,none⟩ :: rest) a w:=
 sq hs ho hn λa' w' s=>opq K s (by simp [Ak]) hdk λb s=>k b a' w' s
theorem Uc {κ:Type} [Rep κ] [FV κ] {T K E:Nat} {eqb:κ->κ->Bool} [mk:MK P K κ eqb] {zv:Value} {r:Nat} {es:Array MapEntry} {cl:Nat} {l:List (κ×Value)} {w:World} (hc:w.heap[r]?=some (.map es cl)) (hm:es.toList.map (λe=>(e.key,e.val))=l.map (λp:κ×Value=>(FV.val p.1,p.2))) (hT:Gz P T=some (K,E)) (k:κ) (hz:(P.info? E).map (·.zero)=some (some zv)) (c:Bool) :
  (Instr.lookup T (.map (some r)) (FV.val k) c).run P w=.ok (let q:=match Bk eqb k l 0 with | some y=>(y.2,true) | none=>(zv,false);if c then .tuple #[q.1,.bool q.2] else q.1) w:=by
 have hf:=mk.find k l es.toList w hm;have hchk:=mk.check k es.isEmpty w;have hzr:(zeroValue E).run P w=.ok zv w:=by
  cases hi:P.info? E with
  | none=>simp [hi] at hz
  | some i=>
   simp only [hi,GZ,Option.some.injEq] at hz;simp only [zeroValue,typeInfo,F9,run_program,F7,hi,GB,hz]
 have hg:(getObj r).run P w=.ok (.map es cl) w:=MapKept.run_getObj_map hc;simp only [Instr.lookup,F9,run_underlying (Ca hT),F7,hg,GB,hchk,hf];cases hq:Bk eqb k l 0 with
 | none=>simp only [F9,hzr,F7,GB]
 | some q=>rfl
theorem lkq {κ ν:Type} [Rep κ] [FV κ] [Rep ν] {T K E KK:Nat} {eqb:κ->κ->Bool} [MK P K κ eqb] {z:ν} {zv:Value} {x y:Operand} {r:Nat} {m:List (κ×ν)} {k:κ} (hx:Od Γ x (Qv (.map (some r)))) (hk:Ak Γ KK=some (Oq r m)) (hy:Od Γ y (Va k)) (hT:Gz P T=some (K,E)) (hz:(P.info? E).map (·.zero)=some (some zv)) (hzv:∀ M w,V z M w zv) :
  OR P (.lookup T x y false) ty Γ (Va ((mat eqb m k).getD z)):=by
 refine OR.val λρ M w rd=>?_;obtain ⟨_,_,hv⟩:=hx ρ M w rd;obtain ⟨_,hb⟩:=hy ρ M w rd;obtain ⟨_,_,es,cl,l,hc,hm,_,hvq⟩:=rd.tmp _ _ hk;have hr:=Uc (P:=P) (eqb:=eqb) hc hm hT k hz false;unfold mat
 rcases Vq.find (eqb:=eqb) (k:=k) (i:=0) hvq with ⟨h1,h2⟩ | ⟨j,v,u,h1,h2,h3⟩
 ·rw [h1] at hr;rw [h2];exact ⟨zv,λ_ _ _ _=>by simp only [execOp,hv,Va.fv hb,F9,hr,F7,GB];rfl,rfl,hzv _ _⟩
 ·rw [h1] at hr;rw [h2];exact ⟨v,λ_ _ _ _=>by simp only [execOp,hv,Va.fv hb,F9,hr,F7,GB];rfl,rfl,h3⟩
theorem lkoq {κ ν:Type} [Rep κ] [FV κ] [Rep ν] {T K E KK:Nat} {eqb:κ->κ->Bool} [MK P K κ eqb] {z:ν} {zv:Value} {x y:Operand} {r:Nat} {m:List (κ×ν)} {k:κ} (hx:Od Γ x (Qv (.map (some r)))) (hk:Ak Γ KK=some (Oq r m)) (hy:Od Γ y (Va k)) (hT:Gz P T=some (K,E)) (hz:(P.info? E).map (·.zero)=some (some zv)) (hzv:∀ M w,V z M w zv) :
  OR P (.lookup T x y true) ty Γ (T2 (Va ((mat eqb m k).getD z)) (Va (mat eqb m k).isSome)):=by
 refine OR.val λρ M w rd=>?_;obtain ⟨_,_,hv⟩:=hx ρ M w rd;obtain ⟨_,hb⟩:=hy ρ M w rd;obtain ⟨_,_,es,cl,l,hc,hm,_,hvq⟩:=rd.tmp _ _ hk;have hr:=Uc (P:=P) (eqb:=eqb) hc hm hT k hz true;unfold mat
 rcases Vq.find (eqb:=eqb) (k:=k) (i:=0) hvq with ⟨h1,h2⟩ | ⟨j,v,u,h1,h2,h3⟩
 ·rw [h1] at hr;rw [h2];exact ⟨.tuple #[zv,.bool false],λ_ _ _ _=>by simp only [execOp,hv,Va.fv hb,F9,hr,F7,GB];rfl,_,_,[],[],rfl,rfl,⟨rfl,hzv _ _⟩,Va.mkBool⟩
 ·rw [h1] at hr;rw [h2];exact ⟨.tuple #[v,.bool true],λ_ _ _ _=>by simp only [execOp,hv,Va.fv hb,F9,hr,F7,GB];rfl,_,_,[],[],rfl,rfl,⟨rfl,h3⟩,Va.mkBool⟩
theorem D3 {κ:Type} [Rep κ] [FV κ] {T K E:Nat} {eqb:κ->κ->Bool} [hmk:MK P K κ eqb] {r:Nat} {es:Array MapEntry} {cl:Nat} {l:List (κ×Value)} {w:World} (hc:w.heap[r]?=some (.map es cl)) (hm:es.toList.map (λe=>(e.key,e.val))=l.map (λp:κ×Value=>(FV.val p.1,p.2))) (hT:Gz P T=some (K,E)) (hbn:Bn es cl) (k:κ) (v:Value) :
  ∃ es' cl',(Instr.mapUpdate T (.map (some r)) (FV.val k) v).run P w=.ok () { w with heap:=w.heap.setIfInBounds r (.map es' cl') }/\es'.toList.map (λe=>(e.key,e.val))=(Ep eqb l k v).map (λp=>(FV.val p.1,p.2))/\Bn es' cl':=by
 have hf:=hmk.find k l es.toList w hm;have hchk:=hmk.check k false w;have hg:(getObj r).run P w=.ok (.map es cl) w:=MapKept.run_getObj_map hc;have hset:=λo=>MapKept.run_setObj_map (P:=P) (w:=w) o hc;simp only [Instr.mapUpdate,F9,run_underlying (Ca hT),F7,hg,hchk,hf];unfold Ep;cases hq:Bk eqb k l 0 with
 | none=>
  refine ⟨es.push { key:=FV.val k,val:=v,born:=cl },cl + 1,?_,?_,hbn.push⟩
  ·exact hset _
  ·simp [hm]
 | some q=>
  obtain ⟨i,y⟩:=q;obtain ⟨k',_,h2,h3⟩:=Di hq;have hkk:=hmk.stays k k' h3;subst hkk;rw [LK] at h2;have hi:(es.toList.map (λe=>(e.key,e.val)))[i]?=some (FV.val k',y):=by rw [hm,GW,h2];rfl
  rw [GW] at hi;obtain ⟨e,he,hee⟩:=J3.1 hi;have hek:e.key=FV.val k':=congrArg Prod.fst hee;have hei:es[i]?=some e:=by rw [← HW];exact he
  refine ⟨es.modify i λe=>{ e with key:=FV.val k',val:=v },cl,?_,?_,hbn.mod⟩
  ·simp only [hei,KB,hek,Instr.keyThatStays,hmk.same,if_true,GB,F9,F7,GZ];exact hset _
  ·rw [K1];refine HV λq=>?_;have hmq:(es.toList[q]?).map (λe=>(e.key,e.val))=(l[q]?).map λp=>(FV.val p.1,p.2):=by rw [← GW,hm,GW]
   simp only [GW,KY];by_cases hiq:i=q
   ·subst hiq;rw [he,h2];simp
   ·simp only [hiq,if_false];rw [show (λa:MapEntry=>a) <$> es.toList[q]?=es.toList[q]? by simp,show (λa:κ×Value=>a) <$> l[q]?=l[q]? by simp];exact hmq
theorem lnmq {κ ν:Type} [Rep κ] [FV κ] [Rep ν] {T K E KK:Nat} {x:Operand} {r:Nat} {m:List (κ×ν)} (hx:Od Γ x (Qv (.map (some r)))) (hk:Ak Γ KK=some (Oq r m)) (hT:Gz P T=some (K,E)):OR P (.call { callee:=.builtin .len,args:=#[x],argTypes:=#[T] }) ty Γ (Va (m.length:Int)):=by
 refine OR.val λρ M w rd=>?_;obtain ⟨_,_,hv⟩:=hx ρ M w rd;obtain ⟨_,_,es,cl,l,hc,hm,_,hvq⟩:=rd.tmp _ _ hk;have hg:(getObj r).run P w=.ok (.map es cl) w:=MapKept.run_getObj_map hc;have hl:es.size=m.length:=by
  have:=congrArg List.length hm;rw [← hvq.len];simpa using this
 refine ⟨.int .i64 m.length,λ_ _ _ _=>?_,Va.mkInt⟩;simp [execOp,hg,hl,resolve,hv,invoke,builtin,Builtin.len_,run_underlying (Ca hT),goInt]
theorem vqn {α:Type} [Rep α]:∀ M w,V ([]:List α) M w (.slice none 0 0):=λ_ _=>⟨_,rfl,_,rfl,none,0,rfl,.inl rfl⟩
theorem stq_ {κ ν:Type} [Rep κ] [FV κ] [Rep ν] {ops:Array Oper} {rest:List Oper} {T K E KK:Nat} {eqb:κ->κ->Bool} [hmk:MK P K κ eqb] {x y u:Operand} {pos:String} {aft:Array Edge} {r:Nat} {m:List (κ×ν)} {k:κ} {v:ν} (ins:Bool)
  (hs:St M0 w0 n Γ a w) (hx:Od Γ x (Qv (.map (some r)))) (hk:Ak Γ KK=some (Oq r m)) (hy:Od Γ y (Va k)) (hu:Od Γ u (Va v)) (hT:Gz P T=some (K,E))
  (cont:∀ w',St M0 w0 n ((KK,Oq r (Ep eqb m k v)) :: Γ) a w'->wpListIn (Fr rr) 0 P ops Q rest a w'):wpListIn (Fr rr) 0 P ops Q (⟨none,(bif ins then .insert T x y u else .mapUpdate T x y u),ty,pos,aft,none⟩ :: rest) a w:=by
 refine wpListIn_plain (by cases ins <;> rfl) λKc hK=>?_
 obtain ⟨M,φ,h⟩:=hs;obtain ⟨_,_,hv⟩:=hx _ _ _ h.rd;obtain ⟨_,hb⟩:=hy _ _ _ h.rd;obtain ⟨_,_,hd⟩:=hu _ _ _ h.rd;have hown:=h.own KK (by rw [hk];rfl);obtain ⟨hF,es,cl,l,hc,hm,hbn,hvq⟩:=h.holds KK _ hk;have hMr:M r:=(hown.2 r (by rw [hF];simp)).1;have hlt:=(GA.1 hc).1;obtain ⟨es',cl',hrun,hm',hbn'⟩:=D3 (P:=P) (eqb:=eqb) hc hm hT hbn k (a.eval u);have hext:Ext (λq=>q=r) w { w with heap:=w.heap.setIfInBounds r (.map es' cl') }:=⟨rfl,rfl,rfl,by simp,λq _ hq=>by
  simp only [HC];rw [if_neg (λe=>hq e.symm)],GS _⟩
 have hextM:Ext M w { w with heap:=w.heap.setIfInBounds r (.map es' cl') }:=hext.mono λq _ e=>by subst e;exact hMr
 refine Bc.upon (Bc.skip (w':={ w with heap:=w.heap.setIfInBounds r (.map es' cl') }) ?_ ?_)
 ·cases ins <;> simp only [cond_true,cond_false,execOp,hv,Va.fv hb,F9,hrun,F7,GB]
 ·refine hK _ _ (cont _ ?_);unfold St;rw [Ah];refine h.write (b:=r) (by rw [hk];rfl) (by rw [hF];simp) hext ⟨hF,es',cl',_,(?_:({ w with heap:=w.heap.setIfInBounds r (.map es' cl') }:World).heap[r]?=_),hm',hbn',?_⟩
  ·simp only [HC,if_true];rw [if_pos hlt]
  ·exact (hvq.put hd).imp λy v hy=>hy.ext hextM
end
end Go.Pn
namespace Go.Pn
open Go Go.RowKit
def Oe {κ ν:Type} [Rep κ] [FV κ] [Rep ν] (r:Nat) (es:Array MapEntry) (cl:Nat) (m:List (κ×ν)):Ent where
 p F M w _:=F=[r]/\∃ l,w.heap[r]?=some (.map es cl)/\es.toList.map (λe=>(e.key,e.val))=l.map (λp:κ×Value=>(FV.val p.1,p.2))/\Bn es cl/\Vq M w l m
 st h e:=by
  obtain ⟨rfl,l,hc,hm,hb,hv⟩:=h;exact ⟨rfl,l,by rw [e.block r (GA.1 hc).1 smp_];exact hc,hm,hb,hv.imp λy v hy=>hy.ext (e.mono λ_ _ hk=>hk.1)⟩
 sb h s:=by
  obtain ⟨rfl,l,hc,hm,hb,hv⟩:=h;exact ⟨rfl,l,hc,hm,hb,hv.imp λy v hy=>hy.sub s⟩
def Im (it b cl:Nat) (seen:Array Nat):Ent where
 p F _ w _:=F=[it]/\w.heap[it]?=some (.mapIter (some b) cl seen cl)
 st h e:=by
  obtain ⟨rfl,h⟩:=h;exact ⟨rfl,by rw [e.block it (GA.1 h).1 smp_];exact h⟩
 sb h _:=h
def IM (b cl:Nat):Ent where
 p F M w v:=∃ it,v=pb it 0/\(Im it b cl #[]).p F M w v
 st h e:=let ⟨it,hv,h⟩:=h;⟨it,hv,(Im it b cl #[]).st h e⟩
 sb h s:=let ⟨it,hv,h⟩:=h;⟨it,hv,(Im it b cl #[]).sb h s⟩
def Ne (e:Option (Value×Value)):Ent where
 p F _ _ v:=F=[]/\v=match e with | some q=>.tuple #[.bool true,q.1,q.2] | none=>.tuple #[.bool false]
 st h _:=h
 sb h _:=h
def Ntm (q:Value×Value):Ent where
 p F _ _ v:=F=[]/\v=.tuple #[q.1,q.2]
 st h _:=h
 sb h _:=h
theorem Vq.keys {κ ν:Type} [Rep ν] {M:Nat->Prop} {w:World}:∀ {l:List (κ×Value)} {m:List (κ×ν)},Vq M w l m->l.map (·.1)=m.map (·.1)
 | [],[],_=>rfl
 | p :: l,q :: m,h=>by
  obtain ⟨h1,_,h3⟩:=h;rw [GQ,GQ,h1,Vq.keys h3]
 | [],_ :: _,h=>h.elim
 | _ :: _,[],h=>h.elim
section
variable {rr:Option Nat} {P:Program} {M0:Fm} {w0:World} {n:Nat} {Γ:Cx} {Q:Exit->Act->World->Prop} {a:Act} {w:World} {ty:TypeId} {κ ν:Type} [Rep κ] [FV κ] [Rep ν]
theorem St.opE {K b:Nat} {m:List (κ×ν)} (h:St M0 w0 n Γ a w) (hk:Ak Γ K=some (Oq b m)):∃ es cl,es.toList.map (·.key)=m.map (λp=>FV.val p.1)/\Bn es cl/\St M0 w0 n ((K,Oe b es cl m) :: Γ) a w:=by
 obtain ⟨M,φ,h⟩:=h;obtain ⟨hF,es,cl,l,hc,hm,hb,hv⟩:=h.holds K _ hk;have hkeys:es.toList.map (·.key)=m.map (λp=>FV.val p.1):=by
  have h1:=congrArg (List.map Prod.fst) hm;rw [K5,K5] at h1;have h2:=hv.keys;have h3:l.map (λp=>FV.val p.1)=(l.map (·.1)).map FV.val:=by rw [K5];rfl
  have h4:m.map (λp=>FV.val p.1)=(m.map (·.1)).map FV.val:=by rw [K5];rfl
  rw [h4,← h2,← h3];exact h1
 refine ⟨es,cl,hkeys,hb,?_⟩;unfold St;rw [Ah];have hs:∀ t,(put K (Oe b es cl m) (Ak Γ) t).isSome=true->(Ak Γ t).isSome=true:=λt ht=>by
  unfold put at ht;split at ht
  ·rename_i h;rw [h,hk];rfl
  ·exact ht
 refine ⟨M,φ,λt e he=>?_,λt ht=>h.own t (hs t ht),λt s hne ht hs'=>h.apart t s hne (hs t ht) (hs s hs'),h.sub,h.bd,h.fr,h.sz,h.df⟩;unfold put at he;split at he
 ·rename_i ht;subst ht;cases he;exact ⟨hF,l,hc,hm,hb,hv⟩
 ·exact h.holds t e he
theorem St.clE {K b:Nat} {es:Array MapEntry} {cl:Nat} {m:List (κ×ν)} (h:St M0 w0 n Γ a w) (hk:Ak Γ K=some (Oe b es cl m)):St M0 w0 n ((K,Oq b m) :: Γ) a w:=
 h.turn1 hk λF M v _ hp=>let ⟨hF,l,hc,hm,hb,hv⟩:=hp;⟨hF,es,cl,l,hc,hm,hb,hv⟩
theorem rgm {T k e K:Nat} {x:Operand} {b:Nat} {es:Array MapEntry} {cl:Nat} {m:List (κ×ν)} (hx:Od Γ x (Qv (.map (some b)))) (hk:Ak Γ K=some (Oe b es cl m)) (hT:Gz P T=some (k,e)):OR P (.range T x) ty Γ (IM b cl):=by
 refine OR.run λρ M w r=>?_;obtain ⟨_,_,hv⟩:=hx ρ M w r;obtain ⟨_,_,l,hc,_⟩:=r.tmp _ _ hk;refine ⟨pb w.heap.size 0,w.alloc (.mapIter (some b) cl #[] cl),λ_ _ _ _=>?_,Ext.alloc _ _ _,[w.heap.size],by simp,λk hk=>?_,w.heap.size,rfl,rfl,heap_alloc_new w _⟩
 ·simp only [execOp,hv,F9,run_range_map w T k e b es cl (Ca hT) hc,F7,GB,pb]
 ·simp at hk;subst hk;exact ⟨Nat.le_refl _,by simp⟩
theorem sqim {ops:Array Oper} {rest:List Oper} {d:Nat} {op:Op} {pos:String} {aft:Array Edge} {b cl:Nat} (K:Nat)
  (hs:St M0 w0 n Γ a w) (ho:OR P op ty Γ (IM b cl)) (hn:Nat.blt d n=true) (hdk:Nat.beq d K=false)
  (k:∀ it a' w',St M0 w0 n ((d,Qv (pb it 0)) :: (K,Im it b cl #[]) :: (d,IM b cl) :: Γ) a' w'->wpListIn (Fr rr) 0 P ops Q rest a' w'):wpListIn (Fr rr) 0 P ops Q (⟨some d,op,ty,pos,aft,none⟩ :: rest) a w:=
 sq hs ho hn λa' w' s'=>by
  obtain ⟨M,φ,h⟩:=s';obtain ⟨it,hv,hb⟩:=h.holds d (IM b cl) (by simp [Ak]);refine k it a' w' ?_;unfold St;rw [Ej];exact h.split (by simp [Ak]) (G6 hdk) ⟨rfl,hv⟩ hb
theorem nxm {ops:Array Oper} {rest:List Oper} {d K K2:Nat} {x:Operand} {T:TypeId} {p:String} {aft:Array Edge} {it b cl:Nat} {es:Array MapEntry} {seen:Array Nat} {m:List (κ×ν)}
  (hs:St M0 w0 n Γ a w) (hx:Od Γ x (Qv (pb it 0))) (hk:Ak Γ K=some (Oe b es cl m)) (hi:Ak Γ K2=some (Im it b cl seen)) (hB:Bn es cl) (hn:Nat.blt d n=true)
  (k0:(leftOf es seen).size=0->∀ a' w',St M0 w0 n ((d,Ne none) :: Γ) a' w'->wpListIn (Fr rr) 0 P ops Q rest a' w')
  (k1:∀ e∈(leftOf es seen).toList,∀ a' w',St M0 w0 n ((d,Ne (some (e.key,e.val))) :: (K2,Im it b cl (seen.push e.born)) :: Γ) a' w'->wpListIn (Fr rr) 0 P ops Q rest a' w'):wpListIn (Fr rr) 0 P ops Q (⟨some d,.next x false,T,p,aft,none⟩ :: rest) a w:=by
 refine wpListIn_plain rfl λKc hK=>?_;obtain ⟨M,φ,h⟩:=hs;obtain ⟨_,_,hv⟩:=hx _ _ _ h.rd;obtain ⟨hF,hc⟩:=h.holds K2 _ hi;obtain ⟨_,l,hcm,_⟩:=h.holds K _ hk;have hlt:=(GA.1 hc).1;rcases run_next_at (P:=P) w T it b cl cl seen es cl hc hcm hB.1 (GS _) with ⟨h0,hrun⟩ | ⟨e,he,w1,hw1,hrun⟩
 ·refine Bc.upon (Bc.val (v:=.tuple #[.bool false]) (w':=w) ?_ ?_)
  ·simp only [execOp,hv,F9];show ((Instr.next (.pointer (some ⟨it,0,none⟩)) false T).run P w).andThen _=_;rw [hrun];rfl
  ·refine hK _ _ (k0 h0 _ _ ?_);unfold St;rw [Ah];exact h.gives ⟨Ext.refl _ _,[],G4,λq hq=>by simp at hq,rfl,rfl⟩ (GD hn)
 ·refine Bc.upon (Bc.val (v:=.tuple #[.bool true,e.key,e.val]) (w':=Go.ChangeMaps.setBlock w1 it (.mapIter (some b) cl (seen.push e.born) cl)) ?_ ?_)
  ·simp only [execOp,hv,F9];show ((Instr.next (.pointer (some ⟨it,0,none⟩)) false T).run P w).andThen _=_;rw [hrun];rfl
  ·refine hK _ _ (k1 e he _ _ ?_);have h1:StF M0 w0 n (put K2 (Im it b cl (seen.push e.born)) (Ak Γ)) a (Go.ChangeMaps.setBlock w1 it (.mapIter (some b) cl (seen.push e.born) cl)):=by
    refine h.write (b:=it) (by rw [hi];rfl) (by rw [hF];simp) ?_ ⟨hF,?_⟩
    ·rcases hw1 with rfl | rfl
     ·exact ⟨rfl,rfl,rfl,by simp [Go.ChangeMaps.setBlock],λq _ hq=>by simp only [Go.ChangeMaps.setBlock,HC];rw [if_neg (λe=>hq e.symm)],GS _⟩
     ·exact ⟨rfl,rfl,rfl,by show w.heap.size<=(w.heap.setIfInBounds it _).size;simp,λq _ hq=>by
       show (w.heap.setIfInBounds it _)[q]?=_;simp only [HC];rw [if_neg (λe=>hq e.symm)],KZ _⟩
    ·rcases hw1 with rfl | rfl
     ·show (w1.heap.setIfInBounds it _)[it]?=_;simp only [HC,if_true];rw [if_pos hlt]
     ·show (w.heap.setIfInBounds it _)[it]?=_;simp only [HC,if_true];rw [if_pos hlt]
   obtain ⟨M',φ',h1⟩:=h1;unfold St;rw [Ah,Ah];exact h1.gives ⟨Ext.refl _ _,[],G4,λq hq=>by simp at hq,rfl,rfl⟩ (GD hn)
theorem ne0 {x:Operand} {e:Option (Value×Value)} (h:Od Γ x (Ne e)):OR P (.extract x 0) ty Γ (Va e.isSome):=OR.val λρ M w r=>by
 obtain ⟨_,_,h1⟩:=h ρ M w r;cases e with
 | some q=>exact ⟨.bool true,λ_ _ _ _=>by simp only [execOp,h1];rfl,Va.mkBool⟩
 | none=>exact ⟨.bool false,λ_ _ _ _=>by simp only [execOp,h1];rfl,Va.mkBool⟩
theorem enm {K K2:Nat} {x:Operand} {it b cl:Nat} {es:Array MapEntry} {seen:Array Nat} {m:List (κ×ν)} {e:MapEntry} (hx:Od Γ x (Qv (pb it 0))) (hk:Ak Γ K=some (Oe b es cl m)) (hi:Ak Γ K2=some (Im it b cl (seen.push e.born))) (hB:Bn es cl) (he:e∈es.toList) :
  OR P (.entry x) ty Γ (Ntm (e.key,e.val)):=OR.val λρ M w r=>by
 obtain ⟨_,_,hv⟩:=hx ρ M w r;obtain ⟨_,_,hc⟩:=r.tmp _ _ hi;obtain ⟨_,_,l,hcm,_⟩:=r.tmp _ _ hk;have hrun:=run_entry_at (P:=P) w it b cl seen es cl e hc hcm he hB.2;refine ⟨.tuple #[e.key,e.val],λ_ _ _ _=>?_,rfl,rfl⟩;simp only [execOp,hv,F9];show ((Instr.entry (.pointer (some ⟨it,0,none⟩))).run P w).andThen _=_;rw [hrun];rfl
theorem nt0 {x:Operand} {k:Int} {q:Value×Value} (h:Od Γ x (Ntm q)) (hk:q.1=.int .i64 k):OR P (.extract x 0) ty Γ (Va k):=OR.val λρ M w r=>by
 obtain ⟨_,_,h1⟩:=h ρ M w r;rw [hk] at h1;exact ⟨.int .i64 k,λ_ _ _ _=>by simp only [execOp,h1];rfl,Va.mkInt⟩
end
end Go.Pn

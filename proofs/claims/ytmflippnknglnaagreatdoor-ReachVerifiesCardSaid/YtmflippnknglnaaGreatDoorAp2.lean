import Derived.Test.YtmflippnknglnaaGreatDoorAp1
set_option synthInstance.checkSynthOrder false
set_option synthInstance.maxSize 10000
set_option synthInstance.maxHeartbeats 400000
set_option maxRecDepth 100000
set_option maxHeartbeats 4000000
set_option linter.unusedVariables false
set_option linter.unusedSimpArgs false
set_option linter.defProp false
namespace Go.Pn
open Go Go.RowKit
def Cdl (Γ:Cx):List Operand->GZ->Prop
 | [],[]=>True
 | x :: xs,c :: cs=>(Od Γ x (Qv c)/\Oc Γ c)/\Cdl Γ xs cs
 | _,_=>False
def Mh (j:Nat) (cs:GZ):Value:=cs.getD j undef
section
variable {P:Program} {M0:Fm} {w0:World} {n:Nat} {Γ:Cx} {Q:Exit->Act->World->Prop} {a:Act} {w:World} {ty:TypeId}
theorem cd0:Cdl Γ [] []:=trivial
theorem cd1 {x:Operand} {c:Value} {xs:List Operand} {cs:GZ} (h:Od Γ x (Qv c)) (h1:Oc Γ c) (r:Cdl Γ xs cs):Cdl Γ (x :: xs) (c :: cs):=⟨⟨h,h1⟩,r⟩
theorem Cdl.map {ρ:Operand->Value} {M:Nat->Prop} {w:World} (rd:Rd (Al Γ) M w ρ):∀ {xs:List Operand} {cs:GZ},Cdl Γ xs cs->xs.map ρ=cs/\(∀ c∈cs,c.oneCell'=true)/\xs.length=cs.length
 | [],[],_=>⟨rfl,λc hc=>by simp at hc,rfl⟩
 | _ :: _,_ :: _,⟨⟨h,h1⟩,r⟩=>by
  obtain ⟨_,_,hv⟩:=h ρ M w rd;obtain ⟨r1,r2,r3⟩:=r.map rd;refine ⟨by rw [CZ,hv,r1],λc hc=>?_,by simp [r3]⟩;rcases C7.1 hc with rfl | hc
  ·exact h1 ρ M w rd
  ·exact r2 c hc
theorem Oz:∀ {cs:GZ},(∀ c∈cs,c.oneCell'=true)->LitC 1 cs (cs.map λc=>[c])
 | [],_=>trivial
 | c :: cs,h=>by
  have h1:=h c (DW ..);refine ⟨?_,rfl,Oz λd hd=>h d (DR _ hd)⟩;cases c <;> first | rfl | simp [Value.oneCell'] at h1
theorem bly {T e:Nat} {len:Nat} {parts:Array (Nat×Operand)} {xs:List Operand} {cs z:GZ} (hp:parts.toList=prt 0 xs) (h:Cdl Γ xs cs) (hT:P.underlying T=some (.array len e)) (hz:(P.info? T).map (·.zero)=some (some (.agg z.toArray))) (he:(P.info? e).map (·.size)=some 1) (hl:z.length=cs.length) :
  OR P (.build T parts) ty Γ (Qa cs):=by
 refine OR.val λρ M w r=>?_;obtain ⟨h1,h2,h3⟩:=h.map r;refine ⟨.agg cs.toArray,λ_ _ _ _=>?_,rfl,rfl,h2⟩;cases hi:P.info? T with
 | none=>simp [hi] at hz
 | some i=>
  cases hie:P.info? e with
  | none=>simp [hie] at he
  | some ie=>
   simp only [hi,hie,DG,Option.some.injEq] at hz he;have hpm:(parts.map λ(i,x)=>(i,ρ x)).toList=prt 0 cs:=by
    rw [EM,hp];have:∀ (l:List Operand) (k:Nat),List.map (λ(x:Nat×Operand)=>(x.1,ρ x.2)) (prt k l)=prt k (l.map ρ):=by
     intro l
     induction l with
     | nil=>intro k;rfl
     | cons x l ih=>intro k;simp [prt,ih]
    rw [← h1];exact this xs 0
   have hfl:=Hm (sz:=1) (vs:=cs) (cs:=cs.map λc=>[c]) (z:=z) (k:=0) (Oz h2) om_;have hfl2:(cs.map λc=>[c]).flatten=cs:=by
    clear hfl hpm h h1 h2 h3 hl hz
    induction cs with
    | nil=>rfl
    | cons c cs ih=>simp [ih]
   rw [hfl2] at hfl;simp only [ED,EH,GC,F6,FH] at hfl;rw [CW om_,D2] at hfl;simp only [execOp,Instr.build,zeroValue,typeInfo,CM,run_program,CL,hi,CN,hz,run_underlying hT,sizeOf,hie,he,Value.cells,hpm];simp only [EH];rw [hfl];rfl
theorem aix {T e len:Nat} {x i:Operand} {m y:Int} {xs:GW} {cs:GZ} (h:Od Γ x (Qa cs)) (hi:Od Γ i (Va m)) (hT:P.underlying T=some (.array len e)) (he:(P.info? e).map (·.size)=some 1) (ha:(P.underlying e).map By=some false) (hl:xs.length=len) (hc:cs=xs.map λz=>.int .i64 z) (hy:idx xs m=some y):OR P (.index T x i) ty Γ (Va y):=by
 refine OR.val λρ M w r=>?_;obtain ⟨_,_,hv,_⟩:=h ρ M w r;obtain ⟨_,h2⟩:=hi ρ M w r;obtain ⟨h0,hlt,hg⟩:=Aq hy;refine ⟨.int .i64 y,λ_ _ _ _=>?_,Va.mkInt⟩;have hr:(sizeOf e).run P w=.ok 1 w:=by
  cases hie:P.info? e with
  | none=>simp [hie] at he
  | some i=>simp [hie] at he;simp [sizeOf,typeInfo,hie,he]
 have hp:=Bg (P:=P) (T:=e) (xs:=cs.toArray) (o:=m.toNat) (v:=.int .i64 y) (w:=w) ha (by
  rw [hc];simp [hg])
 subst hl;simp only [execOp,hv,Va.int h2,Instr.index,CM,asIntOf,CN,CL,run_underlying hT];simp [h0,hlt,hr,hp]
theorem iax {T e len off:Nat} {x i:Operand} {b:Nat} {m:Int} {j:Nat} (h:Od Γ x (Qv (pb b off))) (hi:Od Γ i (Va m)) (hA:P.underlying T=some (.array len e)) (he:(P.info? e).map (·.size)=some 1) (hy:idx (List.range len) m=some j):OR P (.indexAddr T x i) ty Γ (Qv (pb b (off + j))):=by
 refine OR.val λρ M w r=>?_;obtain ⟨_,_,hv⟩:=h ρ M w r;obtain ⟨_,h2⟩:=hi ρ M w r;obtain ⟨h0,hlt,hg⟩:=Aq hy;simp only [GA] at hlt;have hj:m.toNat=j:=by
  rw [D4 om_] at hg;exact Option.some.inj hg
 have hr:(sizeOf e).run P w=.ok 1 w:=by
  cases hie:P.info? e with
  | none=>simp [hie] at he
  | some i=>simp [hie] at he;simp [sizeOf,typeInfo,hie,he]
 refine ⟨pb b (off + j),λ_ _ _ _=>?_,rfl,rfl⟩;simp only [execOp,hv,Va.int h2,Instr.indexAt,CM,asIntOf,CN,CL,run_underlying hA];simp [h0,hlt,Instr.sureAddr,hr,hj,Bj]
theorem lsel {T K b off j len:Nat} {x:Operand} {cs ds:GZ} (h:Od Γ x (Qv (pb b (off + j)))) (hk:Al Γ K=some (Mr b cs)) (hd:(cs.drop off).take len=ds) (hj:j < len) (hl:off + len<=cs.length) (ha:(P.underlying T).map By=some false):OR P (.load T x) ty Γ (Qv (Mh j ds)):=by
 refine OR.val λρ M w r=>?_;obtain ⟨_,_,hv⟩:=h ρ M w r;obtain ⟨_,hh⟩:=r.tmp _ _ hk;have hc:cs[off + j]?=some (Mh j ds):=by
  subst hd;have h1:((cs.drop off).take len)[j]?=cs[off + j]?:=by rw [DT hj,FL]
  have h2:off + j < cs.length:=by omega
  unfold Mh;rw [C4,h1,DD h2];rfl
 refine ⟨Mh j ds,λ_ _ _ _=>?_,rfl,rfl⟩;have:=Mr.cell hh _ _ hc;simp only [execOp,hv,Instr.loadAt,Instr.sureAddr,CM,CN,CL,loadVar,Ty.run_agg ha];simp [this]
theorem idxr {len:Nat} {m:Int} {j:Nat} (h:idx (List.range len) m=some j):j < len/\0<=m/\m < len/\m.toNat=j:=by
 obtain ⟨h0,hlt,hg⟩:=Aq h;simp only [GA] at hlt;rw [D4 om_] at hg;have:=Option.some.inj hg;exact ⟨by omega,h0,hlt,this⟩
theorem bifE {C:Prop} {ρ:Type} {b:Bool} {x y:Option ρ} {r:ρ} (h:(bif b then x else y)=some r) (ht:b=true->x=some r->C) (hf:b=false->y=some r->C):C:=by
 cases b
 ·exact hf rfl h
 ·exact ht rfl h
theorem bifN {C:Prop} {ρ:Type} {r:ρ} (h:(none:Option ρ)=some r):C:=by cases h
theorem qsel {x:Operand} {j k:Nat} {cs:GZ} {c:Value} (hj:(j == k)=true) (h:Od Γ x (Qv (Mh j cs))) (hc:Mh k cs=c):Od Γ x (Qv c):=by
 have:j=k:=by simpa using hj
 subst this;rw [hc] at h;exact h
end
end Go.Pn
namespace Go.Pn
open Go Go.RowKit
structure Kd (k:IntKind) where
 v:Int
instance {k:IntKind}:Rep (Kd k) where
 sz:=1
 agg:=false
 rep _ _ cs x:=cs=[.int k x.v]
 len h:=by subst h;rfl
 ext h _:=h
 sub h _:=h
 one h:=by subst h;simp [Value.oneCell']
 flat _:=rfl
class Ik (k:outParam IntKind) (α:Type) [Rep α] where
 toI:α->Int
 ofI:Int->α
 rep:∀ {F M w v} {x:α},(Va x).p F M w v->v=.int k (toI x)
 mkv:∀ {M w} {x:α},(Va x).p [] M w (.int k (toI x))
 wrp:∀ n,toI (ofI n)=k.wrap n
instance {k:IntKind}:Ik k (Kd k) where
 toI x:=x.v
 ofI n:=⟨k.wrap n⟩
 rep h:=by
  obtain ⟨_,cs,rfl,hr⟩:=h;have:cs=_:=hr;subst this;rfl
 mkv:=⟨rfl,_,rfl,rfl⟩
 wrp _:=rfl
instance:Ik .i64 Int where
 toI x:=x
 ofI n:=wr n
 rep h:=Va.int h
 mkv:=Va.mkInt
 wrp _:=rfl
theorem wrap8 (n:Int):IntKind.u8.wrap n=((wr8 n).toNat:Int):=by
 have h1:0<=n % 256:=Int.emod_nonneg _ (by decide);have h2:n % 256 < 256:=Int.emod_lt_of_pos _ (by decide);have:(wr8 n).toNat=(n % 256).toNat:=by
  unfold wr8;rw [UInt8.toNat_ofNat'];omega
 rw [this];simp [IntKind.wrap,IntKind.bits,IntKind.signed];omega
instance:Ik .u8 UInt8 where
 toI x:=x.toNat
 ofI n:=wr8 n
 rep h:=Va.byte h
 mkv:=⟨rfl,_,rfl,rfl⟩
 wrp n:=(wrap8 n).symm
section
variable {P:Program} {Γ:Cx} {ty:TypeId} {k:IntKind} {α:Type} [Rep α] [ik:Ik k α]
theorem ckd {k:IntKind} {n:Int}:Od Γ (.const (.int k n)) (Va (⟨n⟩:Kd k)):=λρ _ _ r=>⟨[],rfl,[.int k n],by rw [r.con];rfl,rfl⟩
theorem bink {op:BinOp} {x y:Operand} {T T':TypeId} {m n:α} {e:Ent} (hx:Od Γ x (Va m)) (hy:Od Γ y (Va n))
  (h:∀ w,∃ v,(binOp op T (.int k (ik.toI m)) (.int k (ik.toI n))).run P w=.ok v w/\∀ M,e.p [] M w v):OR P (.binOp op T x y T') ty Γ e:=by
 refine OR.val λρ M w r=>?_;obtain ⟨_,h1⟩:=hx ρ M w r;obtain ⟨_,h2⟩:=hy ρ M w r;obtain ⟨v,hv,hp⟩:=h w;refine ⟨v,λ_ _ _ _=>?_,hp M⟩;simp only [execOp,ik.rep h1,ik.rep h2];have:∀ o,(eqGuard o T x y (.int k (ik.toI m)) (.int k (ik.toI n))).run P w=.ok () w:=by
  intro o; unfold eqGuard; cases o <;> rfl
 simp only [CM,this,CL,hv];rfl
theorem gtk {x y:Operand} {T T':TypeId} {m n:α} (hx:Od Γ x (Va m)) (hy:Od Γ y (Va n)):OR P (.binOp .gtr T x y T') ty Γ (Va (decide (ik.toI m > ik.toI n))):=bink hx hy λ_=>⟨_,by simp [binOp];rfl,λ_=>Va.mkBool⟩
theorem sbk {x y:Operand} {T T':TypeId} {m n:α} (hx:Od Γ x (Va m)) (hy:Od Γ y (Va n)):OR P (.binOp .sub T x y T') ty Γ (Va (ik.ofI (ik.toI m - ik.toI n))):=bink hx hy λ_=>⟨.int k (k.wrap (ik.toI m - ik.toI n)),by unfold binOp; cases k <;> rfl,λ_=>by rw [← ik.wrp]; exact ik.mkv⟩
theorem cvk {β:Type} [Rep β] {k':IntKind} [jk:Ik k' β] {S T:TypeId} {x:Operand} {m:α} (h:Od Γ x (Va m)) (hs:(P.underlying S).isSome=true) (hT:P.underlying T=some (.int k')):OR P (.convert S T x) ty Γ (Va (jk.ofI (ik.toI m))):=
 OR.val λρ M w r=>by
  obtain ⟨_,h1⟩:=h ρ M w r;have hk:P.intKind T=k':=by simp [Program.intKind,hT]
  have hr:=run_convert_int (P:=P) w S T k (ik.toI m) hs (by rw [hk];exact hT);rw [hk] at hr;exact ⟨.int k' (k'.wrap (ik.toI m)),λ_ _ _ _=>by simp only [execOp,ik.rep h1,CM,hr,CL,CN],by rw [← jk.wrp];exact jk.mkv⟩
def Cv (n:Int):G0:=Utf8.encode n
theorem cvs {S T:TypeId} {x:Operand} {m:α} (h:Od Γ x (Va m)) (hS:(P.underlying S).map (λd=>match d with | .int _=>true | _=>false)=some true) (hT:P.underlying T=some .string):OR P (.convert S T x) ty Γ (Va (Cv (ik.toI m))):=
 OR.val λρ M w r=>by
  obtain ⟨_,h1⟩:=h ρ M w r;refine ⟨.string (Cv (ik.toI m)),λ_ _ _ _=>?_,Va.mkStr⟩;have hr:(convert S T (.int k (ik.toI m))).run P w=.ok (.string (Cv (ik.toI m))) w:=by
   cases hu:P.underlying S with
   | none=>simp [hu] at hS
   | some d=>
    cases d <;> simp [hu] at hS
    simp only [convert,CM,run_underlying hu,run_underlying hT,CL];rfl
  simp only [execOp,ik.rep h1,CM,hr,CL,CN]
end
end Go.Pn
namespace Go.Pn
open Go Go.RowKit
variable {rr:Option Nat}
class FV (α:Type) [Rep α] where
 val:α->Value
 of:∀ {M w cs x},Rep.rep (α:=α) M w cs x->mk (Rep.agg α) cs=val x
 to:∀ (x:α),∃ cs,val x=mk (Rep.agg α) cs/\∀ M w,Rep.rep M w cs x
instance:FV Int where
 val x:=.int .i64 x
 of h:=by have h:_=_:=h;rw [h];rfl
 to x:=⟨[.int .i64 x],rfl,λ_ _=>rfl⟩
instance:FV Bool where
 val x:=.bool x
 of h:=by have h:_=_:=h;rw [h];rfl
 to x:=⟨[.bool x],rfl,λ_ _=>rfl⟩
instance:FV G0 where
 val x:=.string x
 of h:=by have h:_=_:=h;rw [h];rfl
 to x:=⟨[.string x],rfl,λ_ _=>rfl⟩
theorem Va.fv {α:Type} [Rep α] [FV α] {F:GY} {M:Nat->Prop} {w:World} {v:Value} {x:α} (h:(Va x).p F M w v):v=FV.val x:=by
 obtain ⟨_,cs,hv,hr⟩:=h;rw [hv];exact FV.of hr
theorem FV.va {α:Type} [Rep α] [FV α] (x:α) (M:Nat->Prop) (w:World):(Va x).p [] M w (FV.val x):=by
 obtain ⟨cs,h1,h2⟩:=FV.to x;exact ⟨rfl,cs,h1,h2 M w⟩
def Bz {κ β:Type} (eqb:κ->κ->Bool) (k:κ):List (κ×β)->Nat->Option (Nat×β)
 | [],_=>none
 | (k',y) :: m,i=>if eqb k k' then some (i,y) else Bz eqb k m (i + 1)
class MK (P:Program) (K:TypeId) (κ:Type) [Rep κ] [FV κ] (eqb:outParam (κ->κ->Bool)):Prop where
 find:∀ (k:κ) (m:List (κ×Value)) (es:List MapEntry) (w:World),es.map (λe=>(e.key,e.val))=m.map (λp=>(FV.val p.1,p.2))->(Instr.findKey K (FV.val k) es).run P w=.ok (Bz eqb k m 0) w
 check:∀ (k:κ) (b:Bool) (w:World),(Instr.checkKey b 10000 K (FV.val k)).run P w=.ok () w
 stays:∀ (k k':κ),eqb k k'=true->k'=k
 same:∀ (k:κ),Instr.sameBits 10000 (FV.val k) (FV.val k)=true
theorem FV.of_agg {α:Type} [Rep α] [FV α] {P:Program} {T:Nat} {f:α->α->Bool} [he:Eqs P T f] (x:α):∃ cs,FV.val x=.agg cs.toArray/\∀ M w,Rep.rep M w cs x:=by
 obtain ⟨cs,h1,h2⟩:=FV.to x;exact ⟨cs,by rw [h1,he.agg];rfl,h2⟩
theorem MK.ofEqs {P:Program} {K:Nat} {κ:Type} [Rep κ] [FV κ] {f:κ->κ->Bool} [he:Eqs P K f] (hu:(P.underlying K).map (λd=>match d with | .struct _=>true | _=>false)=some true)
  (hc:∀ (k:κ) (b:Bool) (w:World),(Instr.checkKey b 10000 K (FV.val k)).run P w=.ok () w) (hs:∀ k k':κ,f k k'=true->k'=k) (hb:∀ k:κ,Instr.sameBits 10000 (FV.val k) (FV.val k)=true):MK P K κ f where
 check:=hc
 stays:=hs
 same:=hb
 find k m es w h:=by
  have hnow:(Instr.findKey K (FV.val k) es).run P w=(Instr.findAsking K (FV.val k) es).run P w:=by
   refine run_findKey_eq w ?_ _ _;cases hu':P.underlying K with
   | none=>simp [hu'] at hu
   | some d=>cases d <;> simp [hu'] at hu ⊢
  rw [hnow];have gen:∀ (m:List (κ×Value)) (es:List MapEntry) (i:Nat),es.map (λe=>(e.key,e.val))=m.map (λp=>(FV.val p.1,p.2))->(Instr.findAsking K (FV.val k) es i).run P w=.ok (Bz f k m i) w:=by
   intro m
   induction m with
   | nil=>intro es i h;cases es with
    | nil=>rfl
    | cons _ _=>cases h
   | cons p m ih=>
    intro es i h;cases es with
    | nil=>cases h
    | cons e es=>
     simp only [CZ,List.cons.injEq] at h;obtain ⟨h1,h2⟩:=h;have hk1:e.key=FV.val p.1:=congrArg Prod.fst h1;have hk2:e.val=p.2:=congrArg Prod.snd h1;obtain ⟨cs,c1,c2⟩:=FV.of_agg (P:=P) (T:=K) (f:=f) k;obtain ⟨ds,d1,d2⟩:=FV.of_agg (P:=P) (T:=K) (f:=f) p.1;have hr:(Op.equal K (FV.val k) e.key).run P w=.ok (f k p.1) w:=by
      rw [hk1,c1,d1];exact he.run (c2 (λ_=>False) w) (d2 (λ_=>False) w) w
     obtain ⟨pk,pv⟩:=p;simp only [Instr.findAsking,CM,hr,CL,Bz,hk2];cases f k pk
     ·simpa using ih es (i + 1) h2
     ·rfl
  exact gen m es 0 h
theorem MK.plain {P:Program} {K:Nat} {κ:Type} [Rep κ] [FV κ] {f:κ->κ->Bool} {d:TypeDesc} (hu:P.underlying K=some d) (hk:∀ k:κ,MapKept.IsKey d (FV.val k)) (hf:∀ k k':κ,Instr.sameNow d (FV.val k) (FV.val k')=some (f k k'))
  (hs:∀ k k':κ,f k k'=true->k'=k) (hb:∀ k:κ,Instr.sameBits 10000 (FV.val k) (FV.val k)=true):MK P K κ f where
 check k b w:=MapKept.run_checkKey hu (hk k) b 9999
 stays:=hs
 same:=hb
 find k m es w h:=by
  refine MapKept.run_findKey hu ?_;have gen:∀ (m:List (κ×Value)) (es:List MapEntry) (i:Nat),es.map (λe=>(e.key,e.val))=m.map (λp=>(FV.val p.1,p.2))->Instr.findNow d (FV.val k) es i=some (Bz f k m i):=by
   intro m
   induction m with
   | nil=>intro es i h;cases es with
    | nil=>rfl
    | cons _ _=>cases h
   | cons p m ih=>
    intro es i h;cases es with
    | nil=>cases h
    | cons e es=>
     simp only [CZ,List.cons.injEq] at h;obtain ⟨h1,h2⟩:=h;have hk1:e.key=FV.val p.1:=congrArg Prod.fst h1;have hk2:e.val=p.2:=congrArg Prod.snd h1;obtain ⟨pk,pv⟩:=p;simp only [Instr.findNow,hk1,hf,Bz,hk2];cases f k pk
     ·simpa using ih es (i + 1) h2
     ·rfl
  exact gen m es 0 h
def Ka (a b:Int):Bool:=a == b
def Wc (a b:G0):Bool:=a.data.toList == b.data.toList
theorem MK.int {P:Program} {K:Nat} (hu:P.underlying K=some (.int .i64)):MK P K Int (λa b=>a == b):=
 MK.plain hu (λ_=>rfl) (λ_ _=>rfl) (λk k' h=>(by simpa using h:k=k').symm) λk=>by simp [FV.val,Instr.sameBits]
theorem Pm {a b:G0}:(a.data.toList == b.data.toList)=(a == b):=by
 rw [EF];constructor
 ·intro h;have h:a.data.toList=b.data.toList:=by simpa using h
  have:a=b:=by
   cases a;cases b
   rw [ByteArray.mk.injEq];exact Array.ext' h
  rw [this];exact (MapKept.bytes_beq b b).2 rfl
 ·intro h;rw [(MapKept.bytes_beq a b).1 h];simp
theorem eqfs {P : Program} {d : Nat} {xs ys : Array Value} {f : Field} {fs : List Field} {w : World} {a b : G0} {r : Bool} (hn : (f.name == "_") = false) (hu : P.underlying f.type = some .string) (h1 : xs[f.offset]? = some (.string a)) (h2 : ys[f.offset]? = some (.string b))
  (h:(Op.eqFields (d + 1) xs ys fs).run P w=.ok r w):(Op.eqFields (d + 1) xs ys (f :: fs)).run P w=.ok ((a.data.toList == b.data.toList) && r) w:=by
 have hn' : f.name ≠ "_" := by intro h; rw [h] at hn; simp at hn
 have ha:(P.underlying f.type).map By=some false:=by rw [hu];rfl
 rw [Pm];simp only [Op.eqFields,if_pos hn',CM,Bg ha h1,Bg ha h2,CL,run_equalIn_string w d f.type a b hu,← beq_toListBytes];cases hab:(a == b) <;> simp [h]
theorem Qd {n:Nat} {k:IntKind} {a b:Int}:Instr.sameBits n (.int k a) (.int k b)=(a == b):=by simp [Instr.sameBits]
theorem Ny {n:Nat} {a b:Bool}:Instr.sameBits n (.bool a) (.bool b)=(a == b):=by simp [Instr.sameBits]
theorem Qc {n:Nat} {a:G0}:Instr.sameBits n (.string a) (.string a)=true:=by simp only [Instr.sameBits];exact (MapKept.bytes_beq a a).2 rfl
theorem MK.str {P:Program} {K:Nat} (hu:P.underlying K=some .string):MK P K G0 (λa b=>a.data.toList == b.data.toList):=
 MK.plain hu (λ_=>trivial) (λk k'=>by
  show some (k == k')=_;rw [Pm]) (λk k' h=>by
   rw [Pm] at h;exact ((MapKept.bytes_beq k k').1 h).symm) λk=>(MapKept.bytes_beq k k).2 rfl
theorem Fi {P:Program} {K n:Nat} {b:Bool} {fs:Array Field} {xs:Array Value} {w:World} (hu:P.underlying K=some (.struct fs)) (h:∀ f∈fs.toList,∃ v,(part f.type xs f.offset).run P w=.ok v w/\(Instr.checkKey b n f.type v).run P w=.ok () w):(Instr.checkKey b (n + 1) K (.agg xs)).run P w=.ok () w:=by
 simp only [Instr.checkKey,CM,run_underlying hu,CL];rw [← Array.forIn_toList];generalize fs.toList=l at h
 induction l with
 | nil=>simp
 | cons f l ih=>
  obtain ⟨v,h1,h2⟩:=h f smp_;simp only [List.forIn_cons,CM];split
  ·simp only [CM,h1,h2,CL,CN];exact ih λg hg=>h g (by simp [hg])
  ·simp only [CN,CL];exact ih λg hg=>h g (by simp [hg])
theorem ckf {P:Program} {f:Field} {n:Nat} {b:Bool} {xs:Array Value} {w:World} {d:TypeDesc} {v:Value} (hu:P.underlying f.type=some d) (hv:xs[f.offset]?=some v) (hk:MapKept.IsKey d v):∃ v,(part f.type xs f.offset).run P w=.ok v w/\(Instr.checkKey b (n + 1) f.type v).run P w=.ok () w:=by
 refine ⟨v,Bg ?_ hv,MapKept.run_checkKey hu hk b n⟩;rw [hu]; cases d <;> first | rfl | (cases v <;> cases hk)
def Om {κ ν:Type} [Rep κ] [Rep ν] [FV κ] [FV ν] (r:Nat) (m:List (κ×ν)):Ent where
 p F M w _:=F=[r]/\∃ es clock,w.heap[r]?=some (.map es clock)/\es.toList.map (λe=>(e.key,e.val))=m.map (λp=>(FV.val p.1,FV.val p.2))
 st h e:=by
  obtain ⟨rfl,es,cl,hc,hm⟩:=h;exact ⟨rfl,es,cl,by rw [e.block r (CQ.1 hc).1 smp_];exact hc,hm⟩
 sb h _:=h
instance {κ ν:Type} [Rep κ] [Rep ν] [FV κ] [FV ν] {r:Nat} {m:List (κ×ν)}:Gh (Om r m):=⟨λh _=>h⟩
def OM {κ ν:Type} [Rep κ] [Rep ν] [FV κ] [FV ν] (m:List (κ×ν)):Ent where
 p F M w v:=∃ r,v=.map (some r)/\(Om r m).p F M w v
 st h e:=let ⟨r,hv,h⟩:=h;⟨r,hv,(Om r m).st h e⟩
 sb h s:=let ⟨r,hv,h⟩:=h;⟨r,hv,(Om r m).sb h s⟩
def mat {κ ν:Type} (eqb:κ->κ->Bool) (m:List (κ×ν)) (k:κ):Option ν:=(Bz eqb k m 0).map (·.2)
def Jl {κ ν:Type} (eqb:κ->κ->Bool) (m:List (κ×ν)) (k:κ) (y:ν):List (κ×ν):=
 match Bz eqb k m 0 with
 | some (i,_)=>m.modify i λp=>(p.1,y)
 | none=>m ++ [(k,y)]
theorem Gu {κ β γ:Type} {eqb:κ->κ->Bool} {k:κ} (f:β->γ):∀ {m:List (κ×β)} {i:Nat},Bz eqb k (m.map λp=>(p.1,f p.2)) i=(Bz eqb k m i).map λq=>(q.1,f q.2)
 | [],_=>rfl
 | (k',y) :: m,i=>by
  simp only [CZ,Bz];split
  ·rfl
  ·exact Gu f
theorem Hw {κ β:Type} {eqb:κ->κ->Bool} {k:κ}:∀ {m:List (κ×β)} {i j:Nat} {y:β},Bz eqb k m i=some (j,y)->∃ k',i<=j/\m[j - i]?=some (k',y)/\eqb k k'=true
 | [],_,_,_,h=>by cases h
 | (k',y') :: m,i,j,y,h=>by
  unfold Bz at h;split at h
  ·rename_i hb;cases h
   exact ⟨k',C5 _,by simp,hb⟩
  ·obtain ⟨k2,h1,h2,h3⟩:=Hw h;refine ⟨k2,by omega,?_,h3⟩;rw [show j - i=(j - (i + 1)) + 1 by omega];simpa using h2
section
variable {P:Program} {M0:Fm} {w0:World} {n:Nat} {Γ:Cx} {Q:Exit->Act->World->Prop} {a:Act} {w:World} {ty:TypeId}
theorem mkm {κ ν:Type} [Rep κ] [Rep ν] [FV κ] [FV ν] {T:TypeId}:OR P (.makeMap T none) ty Γ (OM ([]:List (κ×ν))):=by
 refine OR.run λρ M w r=>?_;refine ⟨.map (some w.heap.size),w.alloc (.map #[] 0),λ_ _ _ _=>?_,Ext.alloc _ _ _,[w.heap.size],by simp,λk hk=>?_,w.heap.size,rfl,rfl,#[],0,Bq _ _,rfl⟩
 ·simp only [execOp,E6,Instr.makeMap,CM,run_newObj,CL,CN];rfl
 ·simp at hk;subst hk;exact ⟨Nat.le_refl _,by simp⟩
theorem opm {κ ν:Type} [Rep κ] [Rep ν] [FV κ] [FV ν] {d:Nat} {m:List (κ×ν)} {R:Prop} (k:Nat) (h:St M0 w0 n Γ a w) (hd:Al Γ d=some (OM m)) (hne:Nat.beq d k=false) (r:∀ b,St M0 w0 n ((d,Qv (.map (some b))) :: (k,Om b m) :: Γ) a w->R):R:=by
 obtain ⟨M,φ,h⟩:=h;obtain ⟨b,hv,hb⟩:=h.holds d _ hd;refine r b ?_;unfold St;rw [Eh];exact h.split (by rw [hd];rfl) (DL hne) ⟨rfl,hv⟩ hb
theorem sqm {ops:Array Oper} {rest:List Oper} {d:Nat} {op:Op} {pos:String} {aft:Array Edge} {κ ν:Type} [Rep κ] [Rep ν] [FV κ] [FV ν] {m:List (κ×ν)} (K:Nat)
  (hs:St M0 w0 n Γ a w) (ho:OR P op ty Γ (OM m)) (hn:Nat.blt d n=true) (hdk:Nat.beq d K=false)
  (k:∀ b a' w',St M0 w0 n ((d,Qv (.map (some b))) :: (K,Om b m) :: (d,OM m) :: Γ) a' w'->wpListIn (Fr rr) 0 P ops Q rest a' w'):wpListIn (Fr rr) 0 P ops Q (⟨some d,op,ty,pos,aft,none⟩ :: rest) a w:=
 sq hs ho hn λa' w' s=>opm K s (by simp [Al]) hdk λb s=>k b a' w' s
def Qk (P:Program) (T:Nat):Option (Nat×Nat):=match P.underlying T with | some (.map k e)=>some (k,e) | _=>none
theorem Gv {P:Program} {T k e:Nat} (h:Qk P T=some (k,e)):P.underlying T=some (.map k e):=by
 unfold Qk at h;split at h
 ·rename_i hu;rw [hu];simpa using h
 ·cases h
theorem Tx {κ ν:Type} [Rep κ] [Rep ν] [FV κ] [FV ν] {T K E:Nat} {eqb:κ->κ->Bool} [mk:MK P K κ eqb] {zv:Value} {r:Nat} {m:List (κ×ν)} {F:GY} {M:Nat->Prop} {w:World} {u:Value} (h:(Om r m).p F M w u) (hT:Qk P T=some (K,E)) (k:κ) (hz:(P.info? E).map (·.zero)=some (some zv)) (c:Bool) :
  (Instr.lookup T (.map (some r)) (FV.val k) c).run P w=.ok (let q:=match mat eqb m k with | some y=>(FV.val y,true) | none=>(zv,false);if c then .tuple #[q.1,.bool q.2] else q.1) w:=by
 obtain ⟨_,es,cl,hc,hm⟩:=h;have hf:=mk.find k (m.map λp=>(p.1,FV.val p.2)) es.toList w (by rw [hm];simp);rw [Gu] at hf;have hchk:=mk.check k es.isEmpty w;have hzr:(zeroValue E).run P w=.ok zv w:=by
  cases hi:P.info? E with
  | none=>simp [hi] at hz
  | some i=>
   simp only [hi,DG,Option.some.injEq] at hz;simp only [zeroValue,typeInfo,CM,run_program,CL,hi,CN,hz]
 have hg:(getObj r).run P w=.ok (.map es cl) w:=MapKept.run_getObj_map hc;simp only [Instr.lookup,CM,run_underlying (Gv hT),CL,hg,CN,hchk,hf];unfold mat
 cases hq:Bz eqb k m 0 with
 | none=>simp only [E6,CM,hzr,CL,CN]
 | some q=>rfl
theorem lkm {κ ν:Type} [Rep κ] [Rep ν] [FV κ] [FV ν] {T K E KK:Nat} {eqb:κ->κ->Bool} [MK P K κ eqb] {z:ν} {x y:Operand} {r:Nat} {m:List (κ×ν)} {k:κ} (hx:Od Γ x (Qv (.map (some r)))) (hk:Al Γ KK=some (Om r m)) (hy:Od Γ y (Va k)) (hT:Qk P T=some (K,E)) (hz:(P.info? E).map (·.zero)=some (some (FV.val z))) :
  OR P (.lookup T x y false) ty Γ (Va ((mat eqb m k).getD z)):=by
 refine OR.val λρ M w rd=>?_;obtain ⟨_,_,hv⟩:=hx ρ M w rd;obtain ⟨_,hb⟩:=hy ρ M w rd;obtain ⟨_,ho⟩:=rd.tmp _ _ hk;have hr:=Tx (P:=P) ho hT k hz false;refine ⟨FV.val ((mat eqb m k).getD z),λ_ _ _ _=>?_,FV.va _ _ _⟩;simp only [execOp,hv,Va.fv hb,CM,hr,CL,CN];cases mat eqb m k <;> rfl
theorem lko {κ ν:Type} [Rep κ] [Rep ν] [FV κ] [FV ν] {T K E KK:Nat} {eqb:κ->κ->Bool} [MK P K κ eqb] {z:ν} {x y:Operand} {r:Nat} {m:List (κ×ν)} {k:κ} (hx:Od Γ x (Qv (.map (some r)))) (hk:Al Γ KK=some (Om r m)) (hy:Od Γ y (Va k)) (hT:Qk P T=some (K,E)) (hz:(P.info? E).map (·.zero)=some (some (FV.val z))) :
  OR P (.lookup T x y true) ty Γ (T2 (Va ((mat eqb m k).getD z)) (Va (mat eqb m k).isSome)):=by
 refine OR.val λρ M w rd=>?_;obtain ⟨_,_,hv⟩:=hx ρ M w rd;obtain ⟨_,hb⟩:=hy ρ M w rd;obtain ⟨_,ho⟩:=rd.tmp _ _ hk;have hr:=Tx (P:=P) ho hT k hz true;refine ⟨.tuple #[FV.val ((mat eqb m k).getD z),.bool (mat eqb m k).isSome],λ_ _ _ _=>?_,_,_,[],[],rfl,rfl,FV.va _ _ _,Va.mkBool⟩;simp only [execOp,hv,Va.fv hb,CM,hr,CL,CN];cases mat eqb m k <;> rfl
theorem stm {κ ν:Type} [Rep κ] [Rep ν] [FV κ] [FV ν] {ops:Array Oper} {rest:List Oper} {T K E KK:Nat} {eqb:κ->κ->Bool} [hmk:MK P K κ eqb] {x y u:Operand} {pos:String} {aft:Array Edge} {r:Nat} {m:List (κ×ν)} {k:κ} {v:ν}
  (hs:St M0 w0 n Γ a w) (hx:Od Γ x (Qv (.map (some r)))) (hk:Al Γ KK=some (Om r m)) (hy:Od Γ y (Va k)) (hu:Od Γ u (Va v)) (hT:Qk P T=some (K,E))
  (cont:∀ w',St M0 w0 n ((KK,Om r (Jl eqb m k v)) :: Γ) a w'->wpListIn (Fr rr) 0 P ops Q rest a w'):wpListIn (Fr rr) 0 P ops Q (⟨none,.mapUpdate T x y u,ty,pos,aft,none⟩ :: rest) a w:=by
 refine wpListIn_plain rfl λKc hK=>?_;obtain ⟨M,φ,h⟩:=hs;obtain ⟨_,_,hv⟩:=hx _ _ _ h.rd;obtain ⟨_,hb⟩:=hy _ _ _ h.rd;obtain ⟨_,hd⟩:=hu _ _ _ h.rd;obtain ⟨hF,es,cl,hc,hm⟩:=h.holds KK _ hk;have hf:=hmk.find k (m.map λp=>(p.1,FV.val p.2)) es.toList w (by rw [hm];simp);rw [Gu] at hf;have hchk:=hmk.check k false w;have hg:(getObj r).run P w=.ok (.map es cl) w:=MapKept.run_getObj_map hc;have hlt:=(CQ.1 hc).1;have hset:=λo=>MapKept.run_setObj_map (P:=P) (w:=w) o hc;have hput:∃ es' cl',(Instr.mapUpdate T (.map (some r)) (FV.val k) (FV.val v)).run P w=.ok () { w with heap:=w.heap.setIfInBounds r (.map es' cl') }/\es'.toList.map (λe=>(e.key,e.val))=(Jl eqb m k v).map (λp=>(FV.val p.1,FV.val p.2)):=by
  simp only [Instr.mapUpdate,CM,run_underlying (Gv hT),CL,hg,hchk,hf];unfold Jl;cases hq:Bz eqb k m 0 with
  | none=>
   refine ⟨es.push { key:=FV.val k,val:=FV.val v,born:=cl },cl + 1,?_,?_⟩
   ·simp only [E6];exact hset _
   ·simp [hm]
  | some q=>
   obtain ⟨i,y⟩:=q;obtain ⟨k',_,h2,h3⟩:=Hw hq;have hkk:=hmk.stays k k' h3;subst hkk;rw [Nat.sub_zero] at h2;have hi:(es.toList.map (λe=>(e.key,e.val)))[i]?=some (FV.val k',FV.val y):=by rw [hm,C8,h2];rfl
   rw [C8] at hi;obtain ⟨e,he,hee⟩:=E5.1 hi;have hek:e.key=FV.val k':=congrArg Prod.fst hee;have hei:es[i]?=some e:=by rw [← ER];exact he
   refine ⟨es.modify i λe=>{ e with key:=FV.val k',val:=FV.val v },cl,?_,?_⟩
   ·simp only [DG,hei,FD,hek,Instr.keyThatStays,hmk.same,if_true,CN,CM,CL];exact hset _
   ·rw [Array.toList_modify];refine EG λq=>?_;have hmq:(es.toList[q]?).map (λe=>(e.key,e.val))=(m[q]?).map λp=>(FV.val p.1,FV.val p.2):=by rw [← C8,hm,C8]
    simp only [C8,List.getElem?_modify];by_cases hiq:i=q
    ·subst hiq;rw [he,h2];simp
    ·simp only [hiq,if_false];rw [show (λa:MapEntry=>a) <$> es.toList[q]?=es.toList[q]? by simp,show (λa:κ×ν=>a) <$> m[q]?=m[q]? by simp];exact hmq
 obtain ⟨es',cl',hrun,hm'⟩:=hput;refine Bc.upon (Bc.skip (w':={ w with heap:=w.heap.setIfInBounds r (.map es' cl') }) ?_ ?_)
 ·simp only [execOp,hv,Va.fv hb,Va.fv hd,CM,hrun,CL,CN]
 ·refine hK _ _ (cont _ ?_);unfold St;rw [Ai];refine h.write (b:=r) (by rw [hk];rfl) (by rw [hF];simp) ⟨rfl,rfl,rfl,by simp,λq _ hq=>?_,C5 _⟩ ⟨hF,es',cl',(?_:({ w with heap:=w.heap.setIfInBounds r (.map es' cl') }:World).heap[r]?=_),hm'⟩
  ·simp only [EK];rw [if_neg (λe=>hq e.symm)]
  ·simp only [EK,if_true];rw [if_pos hlt]
theorem stmi {κ ν:Type} [Rep κ] [Rep ν] [FV κ] [FV ν] {ops:Array Oper} {rest:List Oper} {T K E KK:Nat} {eqb:κ->κ->Bool} [hmk:MK P K κ eqb] {x y u:Operand} {pos:String} {aft:Array Edge} {r:Nat} {m:List (κ×ν)} {k:κ} {v:ν}
  (hs:St M0 w0 n Γ a w) (hx:Od Γ x (Qv (.map (some r)))) (hk:Al Γ KK=some (Om r m)) (hy:Od Γ y (Va k)) (hu:Od Γ u (Va v)) (hT:Qk P T=some (K,E))
  (cont:∀ w',St M0 w0 n ((KK,Om r (Jl eqb m k v)) :: Γ) a w'->wpListIn (Fr rr) 0 P ops Q rest a w'):wpListIn (Fr rr) 0 P ops Q (⟨none,.insert T x y u,ty,pos,aft,none⟩ :: rest) a w:=by
 refine wpListIn_plain rfl λKc hK=>?_;obtain ⟨M,φ,h⟩:=hs;obtain ⟨_,_,hv⟩:=hx _ _ _ h.rd;obtain ⟨_,hb⟩:=hy _ _ _ h.rd;obtain ⟨_,hd⟩:=hu _ _ _ h.rd;obtain ⟨hF,es,cl,hc,hm⟩:=h.holds KK _ hk;have hf:=hmk.find k (m.map λp=>(p.1,FV.val p.2)) es.toList w (by rw [hm];simp);rw [Gu] at hf;have hchk:=hmk.check k false w;have hg:(getObj r).run P w=.ok (.map es cl) w:=MapKept.run_getObj_map hc;have hlt:=(CQ.1 hc).1;have hset:=λo=>MapKept.run_setObj_map (P:=P) (w:=w) o hc;have hput:∃ es' cl',(Instr.mapUpdate T (.map (some r)) (FV.val k) (FV.val v)).run P w=.ok () { w with heap:=w.heap.setIfInBounds r (.map es' cl') }/\es'.toList.map (λe=>(e.key,e.val))=(Jl eqb m k v).map (λp=>(FV.val p.1,FV.val p.2)):=by
  simp only [Instr.mapUpdate,CM,run_underlying (Gv hT),CL,hg,hchk,hf];unfold Jl;cases hq:Bz eqb k m 0 with
  | none=>
   refine ⟨es.push { key:=FV.val k,val:=FV.val v,born:=cl },cl + 1,?_,?_⟩
   ·simp only [E6];exact hset _
   ·simp [hm]
  | some q=>
   obtain ⟨i,y⟩:=q;obtain ⟨k',_,h2,h3⟩:=Hw hq;have hkk:=hmk.stays k k' h3;subst hkk;rw [Nat.sub_zero] at h2;have hi:(es.toList.map (λe=>(e.key,e.val)))[i]?=some (FV.val k',FV.val y):=by rw [hm,C8,h2];rfl
   rw [C8] at hi;obtain ⟨e,he,hee⟩:=E5.1 hi;have hek:e.key=FV.val k':=congrArg Prod.fst hee;have hei:es[i]?=some e:=by rw [← ER];exact he
   refine ⟨es.modify i λe=>{ e with key:=FV.val k',val:=FV.val v },cl,?_,?_⟩
   ·simp only [DG,hei,FD,hek,Instr.keyThatStays,hmk.same,if_true,CN,CM,CL];exact hset _
   ·rw [Array.toList_modify];refine EG λq=>?_;have hmq:(es.toList[q]?).map (λe=>(e.key,e.val))=(m[q]?).map λp=>(FV.val p.1,FV.val p.2):=by rw [← C8,hm,C8]
    simp only [C8,List.getElem?_modify];by_cases hiq:i=q
    ·subst hiq;rw [he,h2];simp
    ·simp only [hiq,if_false];rw [show (λa:MapEntry=>a) <$> es.toList[q]?=es.toList[q]? by simp,show (λa:κ×ν=>a) <$> m[q]?=m[q]? by simp];exact hmq
 obtain ⟨es',cl',hrun,hm'⟩:=hput;refine Bc.upon (Bc.skip (w':={ w with heap:=w.heap.setIfInBounds r (.map es' cl') }) ?_ ?_)
 ·simp only [execOp,hv,Va.fv hb,Va.fv hd,CM,hrun,CL,CN]
 ·refine hK _ _ (cont _ ?_);unfold St;rw [Ai];refine h.write (b:=r) (by rw [hk];rfl) (by rw [hF];simp) ⟨rfl,rfl,rfl,by simp,λq _ hq=>?_,C5 _⟩ ⟨hF,es',cl',(?_:({ w with heap:=w.heap.setIfInBounds r (.map es' cl') }:World).heap[r]?=_),hm'⟩
  ·simp only [EK];rw [if_neg (λe=>hq e.symm)]
  ·simp only [EK,if_true];rw [if_pos hlt]
end
end Go.Pn
namespace Go.Pn
open Go Go.RowKit
def Vz:Value->Bool
 | .slice none _ _=>true
 | _=>false
section
variable {P:Program} {Γ:Cx} {ty:TypeId}
theorem sae {x:Operand} {e:Ent} [z:Zf e] (h:Od Γ x e):OR P (.assign x) ty Γ e:=
 OR.val λρ M w r=>let ⟨F,hF⟩:=h ρ M w r;⟨ρ x,λ_ _ _ _=>rfl,by have h1:=z.z hF;subst h1;exact hF⟩
instance {c:Value} {o:Nat}:Zf (Pe c o):=⟨λh=>h.1⟩
theorem nke {x:Operand} {c:Value} {o:Nat} (h:Od Γ x (Pe c o)):OR P (.nilCheck x) ty Γ (Pe c o):=
 OR.val λρ M w r=>by
  obtain ⟨_,_,g,hg,hv⟩:=h ρ M w r;exact ⟨ρ x,λ_ _ _ _=>by simp [execOp,hv,Sem.run,pure],rfl,g,hg,hv⟩
end
section
variable {P:Program} {M0:Fm} {w0:World} {n:Nat} {Γ:Cx} {a:Act} {w:World} {ty:TypeId}
theorem eqn {α:Type} [Rep α] {T e T':TypeId} {x y:Operand} {c:Value} {K:Nat} {xs:List α} (hx:Od Γ x (Qv c)) (hy:Od Γ y (Qv (.slice none 0 0))) (hk:Al Γ K=some (At c (Va xs))) (hT:P.underlying T=some (.slice e)):OR P (.binOp .eql T x y T') ty Γ (Va (Vz c)):=by
 refine OR.val λρ M w r=>?_;obtain ⟨_,_,h1⟩:=hx ρ M w r;obtain ⟨_,_,h2⟩:=hy ρ M w r;obtain ⟨F,h3⟩:=r.tmp _ _ hk;obtain ⟨_,cs,hc,v,rfl,p,cap,hv,_⟩:=h3;have hc:c=.slice p xs.length (cap + xs.length):=(show c=v from hc).trans hv;subst hc;refine ⟨.bool (Vz (.slice p xs.length (cap + xs.length))),λ_ _ _ _=>?_,Va.mkBool⟩;have h3:(binOp .eql T (.slice p xs.length (cap + xs.length)) (.slice none 0 0)).run P w=.ok (.bool (Vz (.slice p xs.length (cap + xs.length)))) w:=by
  show ((do pure (.bool (← Op.equal T (.slice p xs.length (cap + xs.length)) (.slice none 0 0))):Sem Value)).run P w=_;have:(Op.equal T (.slice p xs.length (cap + xs.length)) (.slice none 0 0)).run P w=.ok (Vz (.slice p xs.length (cap + xs.length))) w:=by
   unfold Op.equal Op.maxDepth Op.equalIn;simp only [CM,run_underlying hT,CL];cases p <;> simp [Vz]
  simp only [CM,this,CL,CN]
 have h4:(eqGuard .eql T x y (.slice p xs.length (cap + xs.length)) (.slice none 0 0)).run P w=.ok () w:=rfl;simp only [execOp,h1,h2,CM,h3,h4,CL,CN]
theorem nilv {α:Type} [Rep α] {c:Value} {K:Nat} {xs:List α} (hs:St M0 w0 n Γ a w) (hk:Al Γ K=some (At c (Va xs))) (hb:Vz c=true):xs=[]:=by
 obtain ⟨M,φ,h⟩:=hs;obtain ⟨F,h3⟩:=h.rd.tmp _ _ hk;obtain ⟨_,cs,hc,v,rfl,p,cap,hv,hr⟩:=h3;have hc:c=v:=hc;rcases hr with h | ⟨b,o,hp,_⟩
 ·exact h
 ·rw [hc,hv,hp] at hb;cases hb
end
end Go.Pn
namespace Go.Pn
open Go Go.RowKit
def sel3 (j a b c:Nat):Nat:=if j=0 then a else if j=1 then b else c
theorem selt {ρ:Type} {j:Nat} {x y z:Option ρ} {r:ρ} (h:(bif j == 0 then x else bif j == 1 then y else bif j == 2 then z else none)=some r):j < 3:=by
 match j,h with
 | 0,_=>omega
 | 1,_=>omega
 | 2,_=>omega
 | (n+3),h=>simp at h
theorem CC {ρ:Type} {j a b c:Nat} {x y z:Option ρ} {r:ρ} {Q:Nat->Prop} (h:(bif j == 0 then x else bif j == 1 then y else bif j == 2 then z else none)=some r) (h0:x=some r->Q a) (h1:y=some r->Q b) (h2:z=some r->Q c):Q (sel3 j a b c):=by
 match j,h with
 | 0,h=>exact h0 h
 | 1,h=>exact h1 h
 | 2,h=>exact h2 h
 | (n+3),h=>simp at h
theorem qsel3 {Γ:Cx} {x:Operand} {j a b c:Nat} {fs cs:GZ} (hj:j < 3) (h:Od Γ x (Qv (Mh j [fv a fs cs,fv b fs cs,fv c fs cs]))):Od Γ x (Qv (fv (sel3 j a b c) fs cs)):=by
 match j,hj,h with
 | 0,_,h=>exact h
 | 1,_,h=>exact h
 | 2,_,h=>exact h
end Go.Pn
namespace Go.Pn
open Go Go.RowKit
def Fv1 {α:Type} [Rep α] (f:Nat) (y:α):Ent where
 p F M w v:=F=[]/\∃ c,v=fv f [] [c]/\(Pt y).p [] M w c
 st h e:=⟨h.1,let ⟨c,h1,h2⟩:=h.2;⟨c,h1,(Pt y).st h2 (e.mono λk _ hk=>by obtain ⟨h3,h4⟩:=hk;exact ⟨h3,by simp⟩)⟩⟩
 sb h s:=⟨h.1,let ⟨c,h1,h2⟩:=h.2;⟨c,h1,(Pt y).sb h2 s⟩⟩
instance {α:Type} [Rep α] {f:Nat} {y:α}:Zf (Fv1 f y):=⟨λh=>h.1⟩
section
variable {P:Program} {Γ:Cx} {ty:TypeId}
theorem fvi {α:Type} [Rep α] {x:Operand} {f k:Nat} {c:Value} {y:α} (h:Od Γ x (Qv (fv f [] [c]))) (hk:Al Γ k=some (At c (Pt y))):Od Γ x (Fv1 f y):=λρ M w r=>by
 obtain ⟨_,_,hv⟩:=h ρ M w r;obtain ⟨F,hp⟩:=r.tmp _ _ hk;exact ⟨[],rfl,c,hv,hp.1 ▸ hp⟩
theorem ccf {α:Type} [Rep α] {y:α} {x:Operand} {f:FuncId} {A:Array TypeId} {args:Array Operand} {xs:List Operand} {ps:List Ent} {e:Ent} (hx:Od Γ x (Fv1 f y)) (ha:args.toList=xs) (h:Odl Γ xs ps)
  (c:Sp P f (ps ++ [Pt y]) e):OR P (.call { callee:=.value x,args:=args,argTypes:=A }) ty Γ e:=by
 intro d pos aft gd ρ M w rd;subst ha;obtain ⟨_,_,cc,hv,hp⟩:=hx ρ M w rd;have hc:=c _ M w rd.bd ((h.fits rd).app (show Nu M w [Pt y] [cc] from ⟨hp,trivial⟩));unfold Bc;rw [Md hv hc.1];exact hc.2
end
end Go.Pn
namespace Go.Pn
open Go Go.RowKit
def T4 (e1 e2 e3 e4:Ent):Ent where
 p F M w v:=∃ v1 v2 v3 v4 F1 F2 F3 F4,v=.tuple #[v1,v2,v3,v4]/\F=F1 ++ (F2 ++ (F3 ++ F4))/\e1.p F1 M w v1/\e2.p F2 M w v2/\e3.p F3 M w v3/\e4.p F4 M w v4
 st h x:=by
  obtain ⟨v1,v2,v3,v4,F1,F2,F3,F4,hv,rfl,h1,h2,h3,h4⟩:=h;exact ⟨v1,v2,v3,v4,F1,F2,F3,F4,hv,rfl,e1.st h1 (x.mono λk _ hk=>⟨hk.1,λhm=>hk.2 (C0 _ hm)⟩),
   e2.st h2 (x.mono λk _ hk=>⟨hk.1,λhm=>hk.2 (CX _ (C0 _ hm))⟩),
   e3.st h3 (x.mono λk _ hk=>⟨hk.1,λhm=>hk.2 (CX _ (CX _ (C0 _ hm)))⟩),
   e4.st h4 (x.mono λk _ hk=>⟨hk.1,λhm=>hk.2 (CX _ (CX _ (CX _ hm)))⟩)⟩
 sb h s:=let ⟨v1,v2,v3,v4,F1,F2,F3,F4,hv,hF,h1,h2,h3,h4⟩:=h;⟨v1,v2,v3,v4,F1,F2,F3,F4,hv,hF,e1.sb h1 s,e2.sb h2 s,e3.sb h3 s,e4.sb h4 s⟩
instance {e1 e2 e3 e4:Ent} [z1:Zf e1] [z2:Zf e2] [z3:Zf e3] [z4:Zf e4]:Zf (T4 e1 e2 e3 e4):=⟨λ⟨_,_,_,_,_,_,_,_,_,hF,h1,h2,h3,h4⟩=>by rw [hF,z1.z h1,z2.z h2,z3.z h3,z4.z h4];rfl⟩
section
variable {P:Program} {Γ:Cx} {ty:TypeId} {e1 e2 e3 e4:Ent} {x:Operand}
theorem x40 [z:Zf e1] (h:Od Γ x (T4 e1 e2 e3 e4)):OR P (.extract x 0) ty Γ e1:=
 OR.val λρ M w r=>by
  obtain ⟨_,v1,v2,v3,v4,F1,F2,F3,F4,hv,_,h1,h2,h3,h4⟩:=h ρ M w r;exact ⟨v1,λ_ _ _ _=>by simp only [execOp,hv];rfl,by have:=z.z h1;subst this;exact h1⟩
theorem x41 [z:Zf e2] (h:Od Γ x (T4 e1 e2 e3 e4)):OR P (.extract x 1) ty Γ e2:=
 OR.val λρ M w r=>by
  obtain ⟨_,v1,v2,v3,v4,F1,F2,F3,F4,hv,_,h1,h2,h3,h4⟩:=h ρ M w r;exact ⟨v2,λ_ _ _ _=>by simp only [execOp,hv];rfl,by have:=z.z h2;subst this;exact h2⟩
theorem x42 [z:Zf e3] (h:Od Γ x (T4 e1 e2 e3 e4)):OR P (.extract x 2) ty Γ e3:=
 OR.val λρ M w r=>by
  obtain ⟨_,v1,v2,v3,v4,F1,F2,F3,F4,hv,_,h1,h2,h3,h4⟩:=h ρ M w r;exact ⟨v3,λ_ _ _ _=>by simp only [execOp,hv];rfl,by have:=z.z h3;subst this;exact h3⟩
theorem x43 [z:Zf e4] (h:Od Γ x (T4 e1 e2 e3 e4)):OR P (.extract x 3) ty Γ e4:=
 OR.val λρ M w r=>by
  obtain ⟨_,v1,v2,v3,v4,F1,F2,F3,F4,hv,_,h1,h2,h3,h4⟩:=h ρ M w r;exact ⟨v4,λ_ _ _ _=>by simp only [execOp,hv];rfl,by have:=z.z h4;subst this;exact h4⟩
theorem rv4 {r1 r2 r3 r4:ResultVar} (h1:RS P Γ r1 e1) (h2:RS P Γ r2 e2) (h3:RS P Γ r3 e3) (h4:RS P Γ r4 e4):RV P Γ #[r1,r2,r3,r4] (T4 e1 e2 e3 e4):=λ_ _ _ a w M φ fn hr hs=>by
 obtain ⟨v1,hv1,hp1⟩:=h1 _ _ _ a w M φ hs;obtain ⟨v2,hv2,hp2⟩:=h2 _ _ _ a w M φ hs;obtain ⟨v3,hv3,hp3⟩:=h3 _ _ _ a w M φ hs;obtain ⟨v4,hv4,hp4⟩:=h4 _ _ _ a w M φ hs;exact ⟨.tuple #[v1,v2,v3,v4],by rw [Ch,hr];simp [hv1,hv2,hv3,hv4],v1,v2,v3,v4,[],[],[],[],rfl,rfl,hp1,hp2,hp3,hp4⟩
end
end Go.Pn
namespace Go.Pn
open Go Go.RowKit Go.Proofs
instance:Ea Tryz.prog 22 9 G0:=⟨by kernel_rfl,by kernel_rfl,by kernel_rfl⟩
instance:Ea Tryz.prog 23 45 (Ad):=⟨by kernel_rfl,by kernel_rfl,by kernel_rfl⟩
instance:Ea Tryz.prog 24 3 (Int):=⟨by kernel_rfl,by kernel_rfl,by kernel_rfl⟩
instance:Ea Tryz.prog 27 4 (Bool):=⟨by kernel_rfl,by kernel_rfl,by kernel_rfl⟩
instance:Ea Tryz.prog 28 49 (Ac):=⟨by kernel_rfl,by kernel_rfl,by kernel_rfl⟩
instance:Ea Tryz.prog 29 24 GW:=⟨by kernel_rfl,by kernel_rfl,by kernel_rfl⟩
instance:Ea Tryz.prog 41 43 (Expr):=⟨by kernel_rfl,by kernel_rfl,by kernel_rfl⟩
instance:Ea Tryz.prog 54 144 (Step):=⟨by kernel_rfl,by kernel_rfl,by kernel_rfl⟩
instance:Ea Tryz.prog 135 107 (Ae):=⟨by kernel_rfl,by kernel_rfl,by kernel_rfl⟩
instance:Ea Tryz.prog 142 149 (Ab):=⟨by kernel_rfl,by kernel_rfl,by kernel_rfl⟩
instance:Ea Tryz.prog 305 27 GX:=⟨by kernel_rfl,by kernel_rfl,by kernel_rfl⟩
instance:FV Key where
 val x:=.agg #[.string x.ends,.string x.valves,.string x.inputs,.string x.values,.string x.timers]
 of {M w cs x} h:=by
  obtain ⟨c0,d0,rfl,h0,c1,d1,rfl,h1,c2,d2,rfl,h2,c3,d3,rfl,h3,h4⟩:=h;have e0:c0=[.string x.ends]:=h0;have e1:c1=[.string x.valves]:=h1;have e2:c2=[.string x.inputs]:=h2;have e3:c3=[.string x.values]:=h3;have e4:d3=[.string x.timers]:=h4;subst e0 e1 e2 e3 e4;rfl
 to x:=⟨[.string x.ends,.string x.valves,.string x.inputs,.string x.values,.string x.timers],rfl,λ_ _=>⟨[.string x.ends],_,rfl,rfl,[.string x.valves],_,rfl,rfl,[.string x.inputs],_,rfl,rfl,[.string x.values],_,rfl,rfl,rfl⟩⟩
def Dl (x y:Key):Bool:=(x.ends.data.toList == y.ends.data.toList) && ((x.valves.data.toList == y.valves.data.toList) && ((x.inputs.data.toList == y.inputs.data.toList) && ((x.values.data.toList == y.values.data.toList) && ((x.timers.data.toList == y.timers.data.toList) && (true)))))
instance:Eqs Tryz.prog 71 Dl:=⟨by
 rintro M M' w w' cs ds x y ⟨c0,d0,rfl,h0,c1,d1,rfl,h1,c2,d2,rfl,h2,c3,d3,rfl,h3,h4⟩ ⟨p0,q0,rfl,g0,p1,q1,rfl,g1,p2,q2,rfl,g2,p3,q3,rfl,g3,g4⟩ w1;have e0:c0=[.string x.ends]:=h0;have k0:p0=[.string y.ends]:=g0;have e1:c1=[.string x.valves]:=h1;have k1:p1=[.string y.valves]:=g1;have e2:c2=[.string x.inputs]:=h2;have k2:p2=[.string y.inputs]:=g2;have e3:c3=[.string x.values]:=h3;have k3:p3=[.string y.values]:=g3;have e4:d3=[.string x.timers]:=h4;have k4:q3=[.string y.timers]:=g4;subst e0 k0 e1 k1 e2 k2 e3 k3 e4 k4;rw [run_equalIn_agg w1 9999 71 _ _ kr_ kr_];have hf:(Tryz.prog.fieldsOf 71).toList.map Tn=[(false,9,0),(false,9,1),(false,9,2),(false,9,3),(false,9,4)]:=by kernel_rfl
 obtain ⟨f0,l,hl,n0,t0,o0,hf⟩:=eqm hf;rw [hl];obtain ⟨f1,l,rfl,n1,t1,o1,hf⟩:=eqm hf;obtain ⟨f2,l,rfl,n2,t2,o2,hf⟩:=eqm hf;obtain ⟨f3,l,rfl,n3,t3,o3,hf⟩:=eqm hf;obtain ⟨f4,l,rfl,n4,t4,o4,hf⟩:=eqm hf;obtain rfl:=eqm0 hf;exact (eqfs n0 (by rw [t0];kernel_rfl) (by rw [o0];rfl) (by rw [o0];rfl) (eqfs n1 (by rw [t1];kernel_rfl) (by rw [o1];rfl) (by rw [o1];rfl) (eqfs n2 (by rw [t2];kernel_rfl) (by rw [o2];rfl) (by rw [o2];rfl) (eqfs n3 (by rw [t3];kernel_rfl) (by rw [o3];rfl) (by rw [o3];rfl) (eqfs n4 (by rw [t4];kernel_rfl) (by rw [o4];rfl) (by rw [o4];rfl) eqf0))))),rfl,by kernel_rfl⟩
instance:MK Tryz.prog 71 Key Dl:=MK.ofEqs kr_ (λk b w=>by
 refine Fi (fs:=Tryz.prog.fieldsOf 71) (n:=9999) kr_ ?_;have hf:(Tryz.prog.fieldsOf 71).toList.map Tn=[(false,9,0),(false,9,1),(false,9,2),(false,9,3),(false,9,4)]:=by kernel_rfl
 obtain ⟨f0,l,hl,n0,t0,o0,hf⟩:=eqm hf;rw [hl];obtain ⟨f1,l,rfl,n1,t1,o1,hf⟩:=eqm hf;obtain ⟨f2,l,rfl,n2,t2,o2,hf⟩:=eqm hf;obtain ⟨f3,l,rfl,n3,t3,o3,hf⟩:=eqm hf;obtain ⟨f4,l,rfl,n4,t4,o4,hf⟩:=eqm hf;obtain rfl:=eqm0 hf;intro f hm;simp only [C7,List.not_mem_nil,or_false] at hm;rcases hm with rfl | rfl | rfl | rfl | rfl
 ·exact ckf (d:=.string) (v:=.string k.ends) (by rw [t0];kernel_rfl) (by rw [o0];rfl) True.intro
 ·exact ckf (d:=.string) (v:=.string k.valves) (by rw [t1];kernel_rfl) (by rw [o1];rfl) True.intro
 ·exact ckf (d:=.string) (v:=.string k.inputs) (by rw [t2];kernel_rfl) (by rw [o2];rfl) True.intro
 ·exact ckf (d:=.string) (v:=.string k.values) (by rw [t3];kernel_rfl) (by rw [o3];rfl) True.intro
 ·exact ckf (d:=.string) (v:=.string k.timers) (by rw [t4];kernel_rfl) (by rw [o4];rfl) True.intro
 ) (λk k' h=>by
 simp only [Dl,CU,beq_iff_eq,Pm,MapKept.bytes_beq,and_true] at h;obtain ⟨e0,e1,e2,e3,e4⟩:=h;cases k;cases k';simp_all) (λk=>by simp only [FV.val];unfold Instr.sameBits;simp [Qd,Ny,Qc])
def B9 (x y:Ab):Bool:=(x.Actuator == y.Actuator) && ((x.Out == y.Out) && (true))
instance:Eqs Tryz.prog 149 B9:=⟨by
 rintro M M' w w' cs ds x y ⟨c0,d0,rfl,h0,h1⟩ ⟨p0,q0,rfl,g0,g1⟩ w1;have e0:c0=[.int .i64 x.Actuator]:=h0;have k0:p0=[.int .i64 y.Actuator]:=g0;have e1:d0=[.bool x.Out]:=h1;have k1:q0=[.bool y.Out]:=g1;subst e0 k0 e1 k1;rw [run_equalIn_agg w1 9999 149 _ _ kr_ kr_];have hf:(Tryz.prog.fieldsOf 149).toList.map Tn=[(false,3,0),(false,4,1)]:=by kernel_rfl
 obtain ⟨f0,l,hl,n0,t0,o0,hf⟩:=eqm hf;rw [hl];obtain ⟨f1,l,rfl,n1,t1,o1,hf⟩:=eqm hf;obtain rfl:=eqm0 hf;exact (eqfi n0 (by rw [t0];kernel_rfl) (by rw [o0];rfl) (by rw [o0];rfl) (eqfb n1 (by rw [t1];kernel_rfl) (by rw [o1];rfl) (by rw [o1];rfl) eqf0)),rfl,by kernel_rfl⟩
instance:MK Tryz.prog 3 Int Ka:=MK.int kr_
instance:MK Tryz.prog 9 G0 Wc:=MK.str kr_
end Go.Pn
namespace Go.Pn
open Go Go.RowKit Go.Proofs
theorem Wg {Γ:Cx} {y0:Int} {y1:List G0} {y2:List Ad} {y3:GW} {y4:GW} (l:GZ×GZ×GZ×GZ×GZ) (h0:Rp Γ (l.1) y0) (h1:Rp Γ (l.2.1) y1) (h2:Rp Γ (l.2.2.1) y2) (h3:Rp Γ (l.2.2.2.1) y3) (h4:Rp Γ (l.2.2.2.2) y4):Rp Γ (l.1 ++ (l.2.1 ++ (l.2.2.1 ++ (l.2.2.2.1 ++ l.2.2.2.2)))) (⟨y0,y1,y2,y3,y4⟩:Aa):=(rpp h0 (rpp h1 (rpp h2 (rpp h3 h4))))
theorem rpS30 {Γ:Cx} {y0:List Ac} {y1:List GW} (l:GZ×GZ) (h0:Rp Γ (l.1) y0) (h1:Rp Γ (l.2) y1):Rp Γ (l.1 ++ l.2) (⟨y0,y1⟩:Ag):=(rpp h0 h1)
theorem Ay {Γ:Cx} {y0:GW} {y1:GX} {y2:GX} {y3:GX} {y4:GW} (l:GZ×GZ×GZ×GZ×GZ) (h0:Rp Γ (l.1) y0) (h1:Rp Γ (l.2.1) y1) (h2:Rp Γ (l.2.2.1) y2) (h3:Rp Γ (l.2.2.2.1) y3) (h4:Rp Γ (l.2.2.2.2) y4):Rp Γ (l.1 ++ (l.2.1 ++ (l.2.2.1 ++ (l.2.2.2.1 ++ l.2.2.2.2)))) (⟨y0,y1,y2,y3,y4⟩:Ac):=(rpp h0 (rpp h1 (rpp h2 (rpp h3 h4))))
theorem rpS55 {Γ:Cx} {y0:Int} {y1:List Step} (l:GZ×GZ) (h0:Rp Γ (l.1) y0) (h1:Rp Γ (l.2) y1):Rp Γ (l.1 ++ l.2) (⟨y0,y1⟩:Ah):=(rpp h0 h1)
theorem rpS89 {Γ:Cx} {y0:Ah} {y1:GW} (l:GZ×GZ) (h0:Rp Γ (l.1) y0) (h1:Rp Γ (l.2) y1):Rp Γ (l.1 ++ l.2) (⟨y0,y1⟩:Plan):=(rpp h0 h1)
theorem BZ {Γ:Cx} {y0:List Ab} {y1:Int} (l:GZ×GZ) (h0:Rp Γ (l.1) y0) (h1:Rp Γ (l.2) y1):Rp Γ (l.1 ++ l.2) (⟨y0,y1⟩:Step):=(rpp h0 h1)
theorem opv25 {M0:Fm} {w0:World} {n d:Nat} {Γ:Cx} {a:Act} {w:World} {x:Aa} {R:Prop} (k0 k1 k2 k3:Nat) (h:St M0 w0 n Γ a w) (hd:Al Γ d=some (Va x)) (hdis:dis [d,k0,k1,k2,k3]=true) (r:∀ c0 c1 c2 c3,St M0 w0 n ((d,Qa [.int .i64 x.Actuators,c0,c1,c2,c3]) :: (k0,At c0 (Va (x.Inputs))) :: (k1,At c1 (Va (x.Signals))) :: (k2,At c2 (Va (x.Plus))) :: (k3,At c3 (Va (x.Minus))) :: Γ) a w->R):R:=by
 obtain ⟨M,φ,h⟩:=h;obtain ⟨hF,cs,hv,hr⟩:=h.holds d _ hd;have h1:=Rep.one hr;obtain ⟨_,_,rfl,rfl,⟨_,_,rfl,⟨c0,rfl,s0⟩,⟨_,_,rfl,⟨c1,rfl,s1⟩,⟨_,_,rfl,⟨c2,rfl,s2⟩,⟨c3,rfl,s3⟩⟩⟩⟩⟩:=hr;refine r c0 c1 c2 c3 ?_;have g3:=StM.more1 h k3 (e:=At c3 (Va (x.Minus))) (λ_=>Va.mkList s3);have g2:=StM.more1 g3 k2 (e:=At c2 (Va (x.Plus))) (λ_=>Va.mkList s2);have g1:=StM.more1 g2 k1 (e:=At c1 (Va (x.Signals))) (λ_=>Va.mkList s1);have g0:=StM.more1 g1 k0 (e:=At c0 (Va (x.Inputs))) (λ_=>Va.mkList s0);exact St.turnT g0 (by obtain ⟨e0,hdis⟩:=Du hdis;obtain ⟨e1,hdis⟩:=Du hdis;obtain ⟨e2,hdis⟩:=Du hdis;obtain ⟨e3,hdis⟩:=Du hdis;simp only [Ai,put];simp only [if_neg e0,if_neg e1,if_neg e2,if_neg e3,if_false];exact hd) ⟨rfl,hv,h1⟩
theorem opv55 {M0:Fm} {w0:World} {n d:Nat} {Γ:Cx} {a:Act} {w:World} {x:Ah} {R:Prop} (k0:Nat) (h:St M0 w0 n Γ a w) (hd:Al Γ d=some (Va x)) (hdis:dis [d,k0]=true) (r:∀ c0,St M0 w0 n ((d,Qa [.int .i64 x.Actuators,c0]) :: (k0,At c0 (Va (x.Steps))) :: Γ) a w->R):R:=by
 obtain ⟨M,φ,h⟩:=h;obtain ⟨hF,cs,hv,hr⟩:=h.holds d _ hd;have h1:=Rep.one hr;obtain ⟨_,_,rfl,rfl,⟨c0,rfl,s0⟩⟩:=hr;refine r c0 ?_;have g0:=StM.more1 h k0 (e:=At c0 (Va (x.Steps))) (λ_=>Va.mkList s0);exact St.turnT g0 (by obtain ⟨e0,hdis⟩:=Du hdis;simp only [Ai,put];simp only [if_neg e0,if_false];exact hd) ⟨rfl,hv,h1⟩
theorem Mk {Γ:Cx} {ty:TypeId} {x0:Operand} {y0:Int} {x1:Operand} {y1:List G0} {x2:Operand} {y2:List Ad} {x3:Operand} {y3:GW} {x4:Operand} {y4:GW} (h0:Od Γ x0 (Va y0)) (h1:Od Γ x1 (Va y1)) (h2:Od Γ x2 (Va y2)) (h3:Od Γ x3 (Va y3)) (h4:Od Γ x4 (Va y4)):OR Tryz.prog (.build 26 #[(0,x0),(1,x1),(2,x2),(3,x3),(4,x4)]) ty Γ (Va (⟨y0,y1,y2,y3,y4⟩:Aa)):=by
 refine OR.val λρ M w r=>?_;obtain ⟨_,_,c0,e0,q0⟩:=h0 ρ M w r;obtain ⟨a0_0,rfl⟩:=Ei (Rep.len q0);obtain ⟨_,_,c1,e1,q1⟩:=h1 ρ M w r;obtain ⟨a1_0,rfl⟩:=Ei (Rep.len q1);obtain ⟨_,_,c2,e2,q2⟩:=h2 ρ M w r;obtain ⟨a2_0,rfl⟩:=Ei (Rep.len q2);obtain ⟨_,_,c3,e3,q3⟩:=h3 ρ M w r;obtain ⟨a3_0,rfl⟩:=Ei (Rep.len q3);obtain ⟨_,_,c4,e4,q4⟩:=h4 ρ M w r;obtain ⟨a4_0,rfl⟩:=Ei (Rep.len q4);have h:=Ao (P:=Tryz.prog) (T:=26) (w:=w) (L:=[(0,1),(1,1),(2,1),(3,1),(4,1)]) (z:=[.int .i64 0,.slice none 0 0,.slice none 0 0,.slice none 0 0,.slice none 0 0]) (res:=[a0_0,a1_0,a2_0,a3_0,a4_0]) (l:=[(0,ρ x0),(1,ρ x1),(2,ρ x2),(3,ρ x3),(4,ρ x4)]) (m:=[(0,[a0_0]),(1,[a1_0]),(2,[a2_0]),(3,[a3_0]),(4,[a4_0])]) kr_ kr_ ⟨rfl,Am e0 q0,⟨rfl,Am e1 q1,⟨rfl,Am e2 q2,⟨rfl,Am e3 q3,⟨rfl,Am e4 q4,trivial⟩⟩⟩⟩⟩ rfl;refine ⟨.agg #[a0_0,a1_0,a2_0,a3_0,a4_0],λ_ _ _ _=>?_,rfl,[a0_0,a1_0,a2_0,a3_0,a4_0],rfl,⟨[a0_0],[a1_0,a2_0,a3_0,a4_0],rfl,q0,⟨[a1_0],[a2_0,a3_0,a4_0],rfl,q1,⟨[a2_0],[a3_0,a4_0],rfl,q2,⟨[a3_0],[a4_0],rfl,q3,q4⟩⟩⟩⟩⟩;simp only [execOp,C9,CZ,DX,CM,h,CL,CN]
theorem bl31_ {Γ:Cx} {ty:TypeId} :OR Tryz.prog (.build 31 #[]) ty Γ (Va (⟨([]:List Ac),([]:List GW)⟩:Ag)):=by
 refine OR.val λρ M w r=>?_;have h:=Ao (P:=Tryz.prog) (T:=31) (w:=w) (L:=[(0,1),(1,1)]) (z:=[.slice none 0 0,.slice none 0 0]) (res:=[.slice none 0 0,.slice none 0 0]) (l:=[]) (m:=[]) kr_ kr_ trivial rfl;refine ⟨.agg #[.slice none 0 0,.slice none 0 0],λ_ _ _ _=>?_,rfl,[.slice none 0 0,.slice none 0 0],rfl,⟨[.slice none 0 0],[.slice none 0 0],rfl,⟨_,rfl,none,0,rfl,.inl rfl⟩,⟨_,rfl,none,0,rfl,.inl rfl⟩⟩⟩;simp only [execOp,C9,CZ,DX,CM,h,CL,CN]
theorem Vj {Γ:Cx} {ty:TypeId} {x0:Operand} {y0:Int} {x1:Operand} {y1:Int} (h0:Od Γ x0 (Va y0)) (h1:Od Γ x1 (Va y1)):OR Tryz.prog (.build 43 #[(0,x0),(1,x1)]) ty Γ (Va (⟨y0,y1,([]:List Expr)⟩:Expr)):=by
 refine OR.val λρ M w r=>?_;obtain ⟨_,_,c0,e0,q0⟩:=h0 ρ M w r;obtain ⟨a0_0,rfl⟩:=Ei (Rep.len q0);obtain ⟨_,_,c1,e1,q1⟩:=h1 ρ M w r;obtain ⟨a1_0,rfl⟩:=Ei (Rep.len q1);have h:=Ao (P:=Tryz.prog) (T:=43) (w:=w) (L:=[(0,1),(1,1),(2,1)]) (z:=[.int .i64 0,.int .i64 0,.slice none 0 0]) (res:=[a0_0,a1_0,.slice none 0 0]) (l:=[(0,ρ x0),(1,ρ x1)]) (m:=[(0,[a0_0]),(1,[a1_0])]) kr_ kr_ ⟨rfl,Am e0 q0,⟨rfl,Am e1 q1,trivial⟩⟩ rfl;refine ⟨.agg #[a0_0,a1_0,.slice none 0 0],λ_ _ _ _=>?_,rfl,[a0_0,a1_0,.slice none 0 0],rfl,Ek.2 (show Rep.rep M w _ (y0,y1,([]:List Expr)) from ⟨[a0_0],[a1_0,.slice none 0 0],rfl,q0,⟨[a1_0],[.slice none 0 0],rfl,q1,⟨_,rfl,none,0,rfl,.inl rfl⟩⟩⟩)⟩;simp only [execOp,C9,CZ,DX,CM,h,CL,CN]
theorem Kb {Γ:Cx} {ty:TypeId} {x0:Operand} {y0:Int} {x2:Operand} {y2:List Expr} (h0:Od Γ x0 (Va y0)) (h2:Od Γ x2 (Va y2)):OR Tryz.prog (.build 43 #[(0,x0),(2,x2)]) ty Γ (Va (⟨y0,(0:Int),y2⟩:Expr)):=by
 refine OR.val λρ M w r=>?_;obtain ⟨_,_,c0,e0,q0⟩:=h0 ρ M w r;obtain ⟨a0_0,rfl⟩:=Ei (Rep.len q0);obtain ⟨_,_,c2,e2,q2⟩:=h2 ρ M w r;obtain ⟨a2_0,rfl⟩:=Ei (Rep.len q2);have h:=Ao (P:=Tryz.prog) (T:=43) (w:=w) (L:=[(0,1),(1,1),(2,1)]) (z:=[.int .i64 0,.int .i64 0,.slice none 0 0]) (res:=[a0_0,.int .i64 0,a2_0]) (l:=[(0,ρ x0),(2,ρ x2)]) (m:=[(0,[a0_0]),(2,[a2_0])]) kr_ kr_ ⟨rfl,Am e0 q0,⟨rfl,Am e2 q2,trivial⟩⟩ rfl;refine ⟨.agg #[a0_0,.int .i64 0,a2_0],λ_ _ _ _=>?_,rfl,[a0_0,.int .i64 0,a2_0],rfl,Ek.2 (show Rep.rep M w _ (y0,(0:Int),y2) from ⟨[a0_0],[.int .i64 0,a2_0],rfl,q0,⟨[.int .i64 0],[a2_0],rfl,rfl,q2⟩⟩)⟩;simp only [execOp,C9,CZ,DX,CM,h,CL,CN]
theorem Eu {Γ:Cx} {ty:TypeId} {x0:Operand} {y0:G0} {x1:Operand} {y1:Int} {x2:Operand} {y2:Expr} (h0:Od Γ x0 (Va y0)) (h1:Od Γ x1 (Va y1)) (h2:Od Γ x2 (Va y2)):OR Tryz.prog (.build 45 #[(0,x0),(1,x1),(2,x2)]) ty Γ (Va (⟨y0,y1,y2,(⟨(0:Int),(0:Int),([]:List Expr)⟩:Expr),(0:Int),false⟩:Ad)):=by
 refine OR.val λρ M w r=>?_;obtain ⟨_,_,c0,e0,q0⟩:=h0 ρ M w r;obtain ⟨a0_0,rfl⟩:=Ei (Rep.len q0);obtain ⟨_,_,c1,e1,q1⟩:=h1 ρ M w r;obtain ⟨a1_0,rfl⟩:=Ei (Rep.len q1);obtain ⟨_,_,c2,e2,q2⟩:=h2 ρ M w r;obtain ⟨a2_0,a2_1,a2_2,rfl⟩:=len3 (Rep.len q2);have h:=Ao (P:=Tryz.prog) (T:=45) (w:=w) (L:=[(0,1),(1,1),(2,3),(5,3),(8,1),(9,1)]) (z:=[.string ByteArray.empty,.int .i64 0,.int .i64 0,.int .i64 0,.slice none 0 0,.int .i64 0,.int .i64 0,.slice none 0 0,.int .i64 0,.bool false]) (res:=[a0_0,a1_0,a2_0,a2_1,a2_2,.int .i64 0,.int .i64 0,.slice none 0 0,.int .i64 0,.bool false]) (l:=[(0,ρ x0),(1,ρ x1),(2,ρ x2)]) (m:=[(0,[a0_0]),(1,[a1_0]),(2,[a2_0,a2_1,a2_2])]) kr_ kr_ ⟨rfl,Am e0 q0,⟨rfl,Am e1 q1,⟨rfl,Am e2 q2,trivial⟩⟩⟩ rfl;refine ⟨.agg #[a0_0,a1_0,a2_0,a2_1,a2_2,.int .i64 0,.int .i64 0,.slice none 0 0,.int .i64 0,.bool false],λ_ _ _ _=>?_,rfl,[a0_0,a1_0,a2_0,a2_1,a2_2,.int .i64 0,.int .i64 0,.slice none 0 0,.int .i64 0,.bool false],rfl,⟨[a0_0],[a1_0,a2_0,a2_1,a2_2,.int .i64 0,.int .i64 0,.slice none 0 0,.int .i64 0,.bool false],rfl,q0,⟨[a1_0],[a2_0,a2_1,a2_2,.int .i64 0,.int .i64 0,.slice none 0 0,.int .i64 0,.bool false],rfl,q1,⟨[a2_0,a2_1,a2_2],[.int .i64 0,.int .i64 0,.slice none 0 0,.int .i64 0,.bool false],rfl,q2,⟨[.int .i64 0,.int .i64 0,.slice none 0 0],[.int .i64 0,.bool false],rfl,(by show So _ _ _ _;unfold So;exact ⟨none,0,rfl,.inl rfl⟩),⟨[.int .i64 0],[.bool false],rfl,rfl,rfl⟩⟩⟩⟩⟩⟩;simp only [execOp,C9,CZ,DX,CM,h,CL,CN]
theorem Jt {Γ:Cx} {ty:TypeId} {x0:Operand} {y0:G0} {x1:Operand} {y1:Int} {x2:Operand} {y2:Expr} {x3:Operand} {y3:Expr} (h0:Od Γ x0 (Va y0)) (h1:Od Γ x1 (Va y1)) (h2:Od Γ x2 (Va y2)) (h3:Od Γ x3 (Va y3)):OR Tryz.prog (.build 45 #[(0,x0),(1,x1),(2,x2),(3,x3)]) ty Γ (Va (⟨y0,y1,y2,y3,(0:Int),false⟩:Ad)):=by
 refine OR.val λρ M w r=>?_;obtain ⟨_,_,c0,e0,q0⟩:=h0 ρ M w r;obtain ⟨a0_0,rfl⟩:=Ei (Rep.len q0);obtain ⟨_,_,c1,e1,q1⟩:=h1 ρ M w r;obtain ⟨a1_0,rfl⟩:=Ei (Rep.len q1);obtain ⟨_,_,c2,e2,q2⟩:=h2 ρ M w r;obtain ⟨a2_0,a2_1,a2_2,rfl⟩:=len3 (Rep.len q2);obtain ⟨_,_,c3,e3,q3⟩:=h3 ρ M w r;obtain ⟨a3_0,a3_1,a3_2,rfl⟩:=len3 (Rep.len q3);have h:=Ao (P:=Tryz.prog) (T:=45) (w:=w) (L:=[(0,1),(1,1),(2,3),(5,3),(8,1),(9,1)]) (z:=[.string ByteArray.empty,.int .i64 0,.int .i64 0,.int .i64 0,.slice none 0 0,.int .i64 0,.int .i64 0,.slice none 0 0,.int .i64 0,.bool false]) (res:=[a0_0,a1_0,a2_0,a2_1,a2_2,a3_0,a3_1,a3_2,.int .i64 0,.bool false]) (l:=[(0,ρ x0),(1,ρ x1),(2,ρ x2),(3,ρ x3)]) (m:=[(0,[a0_0]),(1,[a1_0]),(2,[a2_0,a2_1,a2_2]),(3,[a3_0,a3_1,a3_2])]) kr_ kr_ ⟨rfl,Am e0 q0,⟨rfl,Am e1 q1,⟨rfl,Am e2 q2,⟨rfl,Am e3 q3,trivial⟩⟩⟩⟩ rfl;refine ⟨.agg #[a0_0,a1_0,a2_0,a2_1,a2_2,a3_0,a3_1,a3_2,.int .i64 0,.bool false],λ_ _ _ _=>?_,rfl,[a0_0,a1_0,a2_0,a2_1,a2_2,a3_0,a3_1,a3_2,.int .i64 0,.bool false],rfl,⟨[a0_0],[a1_0,a2_0,a2_1,a2_2,a3_0,a3_1,a3_2,.int .i64 0,.bool false],rfl,q0,⟨[a1_0],[a2_0,a2_1,a2_2,a3_0,a3_1,a3_2,.int .i64 0,.bool false],rfl,q1,⟨[a2_0,a2_1,a2_2],[a3_0,a3_1,a3_2,.int .i64 0,.bool false],rfl,q2,⟨[a3_0,a3_1,a3_2],[.int .i64 0,.bool false],rfl,q3,⟨[.int .i64 0],[.bool false],rfl,rfl,rfl⟩⟩⟩⟩⟩⟩;simp only [execOp,C9,CZ,DX,CM,h,CL,CN]
theorem Mj {Γ:Cx} {ty:TypeId} {x0:Operand} {y0:G0} {x1:Operand} {y1:Int} {x2:Operand} {y2:Expr} {x3:Operand} {y3:Expr} {x5:Operand} {y5:Bool} (h0:Od Γ x0 (Va y0)) (h1:Od Γ x1 (Va y1)) (h2:Od Γ x2 (Va y2)) (h3:Od Γ x3 (Va y3)) (h5:Od Γ x5 (Va y5)):OR Tryz.prog (.build 45 #[(0,x0),(1,x1),(2,x2),(3,x3),(5,x5)]) ty Γ (Va (⟨y0,y1,y2,y3,(0:Int),y5⟩:Ad)):=by
 refine OR.val λρ M w r=>?_;obtain ⟨_,_,c0,e0,q0⟩:=h0 ρ M w r;obtain ⟨a0_0,rfl⟩:=Ei (Rep.len q0);obtain ⟨_,_,c1,e1,q1⟩:=h1 ρ M w r;obtain ⟨a1_0,rfl⟩:=Ei (Rep.len q1);obtain ⟨_,_,c2,e2,q2⟩:=h2 ρ M w r;obtain ⟨a2_0,a2_1,a2_2,rfl⟩:=len3 (Rep.len q2);obtain ⟨_,_,c3,e3,q3⟩:=h3 ρ M w r;obtain ⟨a3_0,a3_1,a3_2,rfl⟩:=len3 (Rep.len q3);obtain ⟨_,_,c5,e5,q5⟩:=h5 ρ M w r;obtain ⟨a5_0,rfl⟩:=Ei (Rep.len q5);have h:=Ao (P:=Tryz.prog) (T:=45) (w:=w) (L:=[(0,1),(1,1),(2,3),(5,3),(8,1),(9,1)]) (z:=[.string ByteArray.empty,.int .i64 0,.int .i64 0,.int .i64 0,.slice none 0 0,.int .i64 0,.int .i64 0,.slice none 0 0,.int .i64 0,.bool false]) (res:=[a0_0,a1_0,a2_0,a2_1,a2_2,a3_0,a3_1,a3_2,.int .i64 0,a5_0]) (l:=[(0,ρ x0),(1,ρ x1),(2,ρ x2),(3,ρ x3),(5,ρ x5)]) (m:=[(0,[a0_0]),(1,[a1_0]),(2,[a2_0,a2_1,a2_2]),(3,[a3_0,a3_1,a3_2]),(5,[a5_0])]) kr_ kr_ ⟨rfl,Am e0 q0,⟨rfl,Am e1 q1,⟨rfl,Am e2 q2,⟨rfl,Am e3 q3,⟨rfl,Am e5 q5,trivial⟩⟩⟩⟩⟩ rfl;refine ⟨.agg #[a0_0,a1_0,a2_0,a2_1,a2_2,a3_0,a3_1,a3_2,.int .i64 0,a5_0],λ_ _ _ _=>?_,rfl,[a0_0,a1_0,a2_0,a2_1,a2_2,a3_0,a3_1,a3_2,.int .i64 0,a5_0],rfl,⟨[a0_0],[a1_0,a2_0,a2_1,a2_2,a3_0,a3_1,a3_2,.int .i64 0,a5_0],rfl,q0,⟨[a1_0],[a2_0,a2_1,a2_2,a3_0,a3_1,a3_2,.int .i64 0,a5_0],rfl,q1,⟨[a2_0,a2_1,a2_2],[a3_0,a3_1,a3_2,.int .i64 0,a5_0],rfl,q2,⟨[a3_0,a3_1,a3_2],[.int .i64 0,a5_0],rfl,q3,⟨[.int .i64 0],[a5_0],rfl,rfl,q5⟩⟩⟩⟩⟩⟩;simp only [execOp,C9,CZ,DX,CM,h,CL,CN]
theorem Sj {Γ:Cx} {ty:TypeId} {x0:Operand} {y0:G0} {x1:Operand} {y1:Int} {x2:Operand} {y2:Expr} {x4:Operand} {y4:Int} (h0:Od Γ x0 (Va y0)) (h1:Od Γ x1 (Va y1)) (h2:Od Γ x2 (Va y2)) (h4:Od Γ x4 (Va y4)):OR Tryz.prog (.build 45 #[(0,x0),(1,x1),(2,x2),(4,x4)]) ty Γ (Va (⟨y0,y1,y2,(⟨(0:Int),(0:Int),([]:List Expr)⟩:Expr),y4,false⟩:Ad)):=by
 refine OR.val λρ M w r=>?_;obtain ⟨_,_,c0,e0,q0⟩:=h0 ρ M w r;obtain ⟨a0_0,rfl⟩:=Ei (Rep.len q0);obtain ⟨_,_,c1,e1,q1⟩:=h1 ρ M w r;obtain ⟨a1_0,rfl⟩:=Ei (Rep.len q1);obtain ⟨_,_,c2,e2,q2⟩:=h2 ρ M w r;obtain ⟨a2_0,a2_1,a2_2,rfl⟩:=len3 (Rep.len q2);obtain ⟨_,_,c4,e4,q4⟩:=h4 ρ M w r;obtain ⟨a4_0,rfl⟩:=Ei (Rep.len q4);have h:=Ao (P:=Tryz.prog) (T:=45) (w:=w) (L:=[(0,1),(1,1),(2,3),(5,3),(8,1),(9,1)]) (z:=[.string ByteArray.empty,.int .i64 0,.int .i64 0,.int .i64 0,.slice none 0 0,.int .i64 0,.int .i64 0,.slice none 0 0,.int .i64 0,.bool false]) (res:=[a0_0,a1_0,a2_0,a2_1,a2_2,.int .i64 0,.int .i64 0,.slice none 0 0,a4_0,.bool false]) (l:=[(0,ρ x0),(1,ρ x1),(2,ρ x2),(4,ρ x4)]) (m:=[(0,[a0_0]),(1,[a1_0]),(2,[a2_0,a2_1,a2_2]),(4,[a4_0])]) kr_ kr_ ⟨rfl,Am e0 q0,⟨rfl,Am e1 q1,⟨rfl,Am e2 q2,⟨rfl,Am e4 q4,trivial⟩⟩⟩⟩ rfl;refine ⟨.agg #[a0_0,a1_0,a2_0,a2_1,a2_2,.int .i64 0,.int .i64 0,.slice none 0 0,a4_0,.bool false],λ_ _ _ _=>?_,rfl,[a0_0,a1_0,a2_0,a2_1,a2_2,.int .i64 0,.int .i64 0,.slice none 0 0,a4_0,.bool false],rfl,⟨[a0_0],[a1_0,a2_0,a2_1,a2_2,.int .i64 0,.int .i64 0,.slice none 0 0,a4_0,.bool false],rfl,q0,⟨[a1_0],[a2_0,a2_1,a2_2,.int .i64 0,.int .i64 0,.slice none 0 0,a4_0,.bool false],rfl,q1,⟨[a2_0,a2_1,a2_2],[.int .i64 0,.int .i64 0,.slice none 0 0,a4_0,.bool false],rfl,q2,⟨[.int .i64 0,.int .i64 0,.slice none 0 0],[a4_0,.bool false],rfl,(by show So _ _ _ _;unfold So;exact ⟨none,0,rfl,.inl rfl⟩),⟨[a4_0],[.bool false],rfl,q4,rfl⟩⟩⟩⟩⟩⟩;simp only [execOp,C9,CZ,DX,CM,h,CL,CN]
theorem Gj {Γ:Cx} {ty:TypeId} :OR Tryz.prog (.build 49 #[]) ty Γ (Va (⟨([]:GW),([]:GX),([]:GX),([]:GX),([]:GW)⟩:Ac)):=by
 refine OR.val λρ M w r=>?_;have h:=Ao (P:=Tryz.prog) (T:=49) (w:=w) (L:=[(0,1),(1,1),(2,1),(3,1),(4,1)]) (z:=[.slice none 0 0,.slice none 0 0,.slice none 0 0,.slice none 0 0,.slice none 0 0]) (res:=[.slice none 0 0,.slice none 0 0,.slice none 0 0,.slice none 0 0,.slice none 0 0]) (l:=[]) (m:=[]) kr_ kr_ trivial rfl;refine ⟨.agg #[.slice none 0 0,.slice none 0 0,.slice none 0 0,.slice none 0 0,.slice none 0 0],λ_ _ _ _=>?_,rfl,[.slice none 0 0,.slice none 0 0,.slice none 0 0,.slice none 0 0,.slice none 0 0],rfl,⟨[.slice none 0 0],[.slice none 0 0,.slice none 0 0,.slice none 0 0,.slice none 0 0],rfl,⟨_,rfl,none,0,rfl,.inl rfl⟩,⟨[.slice none 0 0],[.slice none 0 0,.slice none 0 0,.slice none 0 0],rfl,⟨_,rfl,none,0,rfl,.inl rfl⟩,⟨[.slice none 0 0],[.slice none 0 0,.slice none 0 0],rfl,⟨_,rfl,none,0,rfl,.inl rfl⟩,⟨[.slice none 0 0],[.slice none 0 0],rfl,⟨_,rfl,none,0,rfl,.inl rfl⟩,⟨_,rfl,none,0,rfl,.inl rfl⟩⟩⟩⟩⟩⟩;simp only [execOp,C9,CZ,DX,CM,h,CL,CN]
theorem bl56_ {Γ:Cx} {ty:TypeId} :OR Tryz.prog (.build 56 #[]) ty Γ (Va (⟨(0:Int),([]:List Step)⟩:Ah)):=by
 refine OR.val λρ M w r=>?_;have h:=Ao (P:=Tryz.prog) (T:=56) (w:=w) (L:=[(0,1),(1,1)]) (z:=[.int .i64 0,.slice none 0 0]) (res:=[.int .i64 0,.slice none 0 0]) (l:=[]) (m:=[]) kr_ kr_ trivial rfl;refine ⟨.agg #[.int .i64 0,.slice none 0 0],λ_ _ _ _=>?_,rfl,[.int .i64 0,.slice none 0 0],rfl,⟨[.int .i64 0],[.slice none 0 0],rfl,rfl,⟨_,rfl,none,0,rfl,.inl rfl⟩⟩⟩;simp only [execOp,C9,CZ,DX,CM,h,CL,CN]
theorem bl56_1 {Γ:Cx} {ty:TypeId} {x1:Operand} {y1:List Step} (h1:Od Γ x1 (Va y1)):OR Tryz.prog (.build 56 #[(1,x1)]) ty Γ (Va (⟨(0:Int),y1⟩:Ah)):=by
 refine OR.val λρ M w r=>?_;obtain ⟨_,_,c1,e1,q1⟩:=h1 ρ M w r;obtain ⟨a1_0,rfl⟩:=Ei (Rep.len q1);have h:=Ao (P:=Tryz.prog) (T:=56) (w:=w) (L:=[(0,1),(1,1)]) (z:=[.int .i64 0,.slice none 0 0]) (res:=[.int .i64 0,a1_0]) (l:=[(1,ρ x1)]) (m:=[(1,[a1_0])]) kr_ kr_ ⟨rfl,Am e1 q1,trivial⟩ rfl;refine ⟨.agg #[.int .i64 0,a1_0],λ_ _ _ _=>?_,rfl,[.int .i64 0,a1_0],rfl,⟨[.int .i64 0],[a1_0],rfl,rfl,q1⟩⟩;simp only [execOp,C9,CZ,DX,CM,h,CL,CN]
theorem Fh {Γ:Cx} {ty:TypeId} {x0:Operand} {y0:G0} {x1:Operand} {y1:G0} {x2:Operand} {y2:G0} {x3:Operand} {y3:G0} {x4:Operand} {y4:G0} (h0:Od Γ x0 (Va y0)) (h1:Od Γ x1 (Va y1)) (h2:Od Γ x2 (Va y2)) (h3:Od Γ x3 (Va y3)) (h4:Od Γ x4 (Va y4)):OR Tryz.prog (.build 71 #[(0,x0),(1,x1),(2,x2),(3,x3),(4,x4)]) ty Γ (Va (⟨y0,y1,y2,y3,y4⟩:Key)):=by
 refine OR.val λρ M w r=>?_;obtain ⟨_,_,c0,e0,q0⟩:=h0 ρ M w r;obtain ⟨a0_0,rfl⟩:=Ei (Rep.len q0);obtain ⟨_,_,c1,e1,q1⟩:=h1 ρ M w r;obtain ⟨a1_0,rfl⟩:=Ei (Rep.len q1);obtain ⟨_,_,c2,e2,q2⟩:=h2 ρ M w r;obtain ⟨a2_0,rfl⟩:=Ei (Rep.len q2);obtain ⟨_,_,c3,e3,q3⟩:=h3 ρ M w r;obtain ⟨a3_0,rfl⟩:=Ei (Rep.len q3);obtain ⟨_,_,c4,e4,q4⟩:=h4 ρ M w r;obtain ⟨a4_0,rfl⟩:=Ei (Rep.len q4);have h:=Ao (P:=Tryz.prog) (T:=71) (w:=w) (L:=[(0,1),(1,1),(2,1),(3,1),(4,1)]) (z:=[.string ByteArray.empty,.string ByteArray.empty,.string ByteArray.empty,.string ByteArray.empty,.string ByteArray.empty]) (res:=[a0_0,a1_0,a2_0,a3_0,a4_0]) (l:=[(0,ρ x0),(1,ρ x1),(2,ρ x2),(3,ρ x3),(4,ρ x4)]) (m:=[(0,[a0_0]),(1,[a1_0]),(2,[a2_0]),(3,[a3_0]),(4,[a4_0])]) kr_ kr_ ⟨rfl,Am e0 q0,⟨rfl,Am e1 q1,⟨rfl,Am e2 q2,⟨rfl,Am e3 q3,⟨rfl,Am e4 q4,trivial⟩⟩⟩⟩⟩ rfl;refine ⟨.agg #[a0_0,a1_0,a2_0,a3_0,a4_0],λ_ _ _ _=>?_,rfl,[a0_0,a1_0,a2_0,a3_0,a4_0],rfl,⟨[a0_0],[a1_0,a2_0,a3_0,a4_0],rfl,q0,⟨[a1_0],[a2_0,a3_0,a4_0],rfl,q1,⟨[a2_0],[a3_0,a4_0],rfl,q2,⟨[a3_0],[a4_0],rfl,q3,q4⟩⟩⟩⟩⟩;simp only [execOp,C9,CZ,DX,CM,h,CL,CN]
theorem Hn {Γ:Cx} {ty:TypeId} {x0:Operand} {y0:Int} {x1:Operand} {y1:Int} (h0:Od Γ x0 (Va y0)) (h1:Od Γ x1 (Va y1)):OR Tryz.prog (.build 107 #[(0,x0),(1,x1)]) ty Γ (Va (⟨y0,y1,false⟩:Ae)):=by
 refine OR.val λρ M w r=>?_;obtain ⟨_,_,c0,e0,q0⟩:=h0 ρ M w r;obtain ⟨a0_0,rfl⟩:=Ei (Rep.len q0);obtain ⟨_,_,c1,e1,q1⟩:=h1 ρ M w r;obtain ⟨a1_0,rfl⟩:=Ei (Rep.len q1);have h:=Ao (P:=Tryz.prog) (T:=107) (w:=w) (L:=[(0,1),(1,1),(2,1)]) (z:=[.int .i64 0,.int .i64 0,.bool false]) (res:=[a0_0,a1_0,.bool false]) (l:=[(0,ρ x0),(1,ρ x1)]) (m:=[(0,[a0_0]),(1,[a1_0])]) kr_ kr_ ⟨rfl,Am e0 q0,⟨rfl,Am e1 q1,trivial⟩⟩ rfl;refine ⟨.agg #[a0_0,a1_0,.bool false],λ_ _ _ _=>?_,rfl,[a0_0,a1_0,.bool false],rfl,⟨[a0_0],[a1_0,.bool false],rfl,q0,⟨[a1_0],[.bool false],rfl,q1,rfl⟩⟩⟩;simp only [execOp,C9,CZ,DX,CM,h,CL,CN]
theorem Me {Γ:Cx} {ty:TypeId} {x0:Operand} {y0:Int} {x1:Operand} {y1:Int} {x2:Operand} {y2:Bool} (h0:Od Γ x0 (Va y0)) (h1:Od Γ x1 (Va y1)) (h2:Od Γ x2 (Va y2)):OR Tryz.prog (.build 107 #[(0,x0),(1,x1),(2,x2)]) ty Γ (Va (⟨y0,y1,y2⟩:Ae)):=by
 refine OR.val λρ M w r=>?_;obtain ⟨_,_,c0,e0,q0⟩:=h0 ρ M w r;obtain ⟨a0_0,rfl⟩:=Ei (Rep.len q0);obtain ⟨_,_,c1,e1,q1⟩:=h1 ρ M w r;obtain ⟨a1_0,rfl⟩:=Ei (Rep.len q1);obtain ⟨_,_,c2,e2,q2⟩:=h2 ρ M w r;obtain ⟨a2_0,rfl⟩:=Ei (Rep.len q2);have h:=Ao (P:=Tryz.prog) (T:=107) (w:=w) (L:=[(0,1),(1,1),(2,1)]) (z:=[.int .i64 0,.int .i64 0,.bool false]) (res:=[a0_0,a1_0,a2_0]) (l:=[(0,ρ x0),(1,ρ x1),(2,ρ x2)]) (m:=[(0,[a0_0]),(1,[a1_0]),(2,[a2_0])]) kr_ kr_ ⟨rfl,Am e0 q0,⟨rfl,Am e1 q1,⟨rfl,Am e2 q2,trivial⟩⟩⟩ rfl;refine ⟨.agg #[a0_0,a1_0,a2_0],λ_ _ _ _=>?_,rfl,[a0_0,a1_0,a2_0],rfl,⟨[a0_0],[a1_0,a2_0],rfl,q0,⟨[a1_0],[a2_0],rfl,q1,q2⟩⟩⟩;simp only [execOp,C9,CZ,DX,CM,h,CL,CN]
theorem CG {Γ:Cx} {ty:TypeId} :OR Tryz.prog (.build 144 #[]) ty Γ (Va (⟨([]:List Ab),(0:Int)⟩:Step)):=by
 refine OR.val λρ M w r=>?_;have h:=Ao (P:=Tryz.prog) (T:=144) (w:=w) (L:=[(0,1),(1,1)]) (z:=[.slice none 0 0,.int .i64 0]) (res:=[.slice none 0 0,.int .i64 0]) (l:=[]) (m:=[]) kr_ kr_ trivial rfl;refine ⟨.agg #[.slice none 0 0,.int .i64 0],λ_ _ _ _=>?_,rfl,[.slice none 0 0,.int .i64 0],rfl,⟨[.slice none 0 0],[.int .i64 0],rfl,⟨_,rfl,none,0,rfl,.inl rfl⟩,rfl⟩⟩;simp only [execOp,C9,CZ,DX,CM,h,CL,CN]
theorem bl149_ {Γ:Cx} {ty:TypeId} :OR Tryz.prog (.build 149 #[]) ty Γ (Va (⟨(0:Int),false⟩:Ab)):=by
 refine OR.val λρ M w r=>?_;have h:=Ao (P:=Tryz.prog) (T:=149) (w:=w) (L:=[(0,1),(1,1)]) (z:=[.int .i64 0,.bool false]) (res:=[.int .i64 0,.bool false]) (l:=[]) (m:=[]) kr_ kr_ trivial rfl;refine ⟨.agg #[.int .i64 0,.bool false],λ_ _ _ _=>?_,rfl,[.int .i64 0,.bool false],rfl,⟨[.int .i64 0],[.bool false],rfl,rfl,rfl⟩⟩;simp only [execOp,C9,CZ,DX,CM,h,CL,CN]
theorem Sk {Γ:Cx} {ty:TypeId} {x0:Operand} {y0:Int} {x1:Operand} {y1:Bool} (h0:Od Γ x0 (Va y0)) (h1:Od Γ x1 (Va y1)):OR Tryz.prog (.build 149 #[(0,x0),(1,x1)]) ty Γ (Va (⟨y0,y1⟩:Ab)):=by
 refine OR.val λρ M w r=>?_;obtain ⟨_,_,c0,e0,q0⟩:=h0 ρ M w r;obtain ⟨a0_0,rfl⟩:=Ei (Rep.len q0);obtain ⟨_,_,c1,e1,q1⟩:=h1 ρ M w r;obtain ⟨a1_0,rfl⟩:=Ei (Rep.len q1);have h:=Ao (P:=Tryz.prog) (T:=149) (w:=w) (L:=[(0,1),(1,1)]) (z:=[.int .i64 0,.bool false]) (res:=[a0_0,a1_0]) (l:=[(0,ρ x0),(1,ρ x1)]) (m:=[(0,[a0_0]),(1,[a1_0])]) kr_ kr_ ⟨rfl,Am e0 q0,⟨rfl,Am e1 q1,trivial⟩⟩ rfl;refine ⟨.agg #[a0_0,a1_0],λ_ _ _ _=>?_,rfl,[a0_0,a1_0],rfl,⟨[a0_0],[a1_0],rfl,q0,q1⟩⟩;simp only [execOp,C9,CZ,DX,CM,h,CL,CN]
theorem bl287_ {Γ:Cx} {ty:TypeId} :OR Tryz.prog (.build 287 #[]) ty Γ (Va (⟨false,(0:Int),false⟩:Af)):=by
 refine OR.val λρ M w r=>?_;have h:=Ao (P:=Tryz.prog) (T:=287) (w:=w) (L:=[(0,1),(1,1),(2,1)]) (z:=[.bool false,.int .i64 0,.bool false]) (res:=[.bool false,.int .i64 0,.bool false]) (l:=[]) (m:=[]) kr_ kr_ trivial rfl;refine ⟨.agg #[.bool false,.int .i64 0,.bool false],λ_ _ _ _=>?_,rfl,[.bool false,.int .i64 0,.bool false],rfl,⟨[.bool false],[.int .i64 0,.bool false],rfl,rfl,⟨[.int .i64 0],[.bool false],rfl,rfl,rfl⟩⟩⟩;simp only [execOp,C9,CZ,DX,CM,h,CL,CN]
theorem Tp {Γ:Cx} {ty:TypeId} {x0:Operand} {y0:Bool} {x1:Operand} {y1:Int} {x2:Operand} {y2:Bool} (h0:Od Γ x0 (Va y0)) (h1:Od Γ x1 (Va y1)) (h2:Od Γ x2 (Va y2)):OR Tryz.prog (.build 287 #[(0,x0),(1,x1),(2,x2)]) ty Γ (Va (⟨y0,y1,y2⟩:Af)):=by
 refine OR.val λρ M w r=>?_;obtain ⟨_,_,c0,e0,q0⟩:=h0 ρ M w r;obtain ⟨a0_0,rfl⟩:=Ei (Rep.len q0);obtain ⟨_,_,c1,e1,q1⟩:=h1 ρ M w r;obtain ⟨a1_0,rfl⟩:=Ei (Rep.len q1);obtain ⟨_,_,c2,e2,q2⟩:=h2 ρ M w r;obtain ⟨a2_0,rfl⟩:=Ei (Rep.len q2);have h:=Ao (P:=Tryz.prog) (T:=287) (w:=w) (L:=[(0,1),(1,1),(2,1)]) (z:=[.bool false,.int .i64 0,.bool false]) (res:=[a0_0,a1_0,a2_0]) (l:=[(0,ρ x0),(1,ρ x1),(2,ρ x2)]) (m:=[(0,[a0_0]),(1,[a1_0]),(2,[a2_0])]) kr_ kr_ ⟨rfl,Am e0 q0,⟨rfl,Am e1 q1,⟨rfl,Am e2 q2,trivial⟩⟩⟩ rfl;refine ⟨.agg #[a0_0,a1_0,a2_0],λ_ _ _ _=>?_,rfl,[a0_0,a1_0,a2_0],rfl,⟨[a0_0],[a1_0,a2_0],rfl,q0,⟨[a1_0],[a2_0],rfl,q1,q2⟩⟩⟩;simp only [execOp,C9,CZ,DX,CM,h,CL,CN]
end Go.Pn
namespace Go.Pn
open Go Go.RowKit
theorem zc_size {z:Array Value} {n:Nat}:(Builtin.zeroCells z n).size=n * z.size:=by
 simp [Builtin.zeroCells]
theorem growS {P:Program} {N e:Nat} {α:Type} [Rep α] (hc:cal P N=true) (h0:∀ w:World,Calls P N #[.slice none 0 0,.int .i64 0] w λe w'=>e=.returned (.slice none 0 0)/\w'=w)
  (h1:∀ (n:Nat),0 < n->n<=1000000000->∀ w:World,Calls P N #[.slice none 0 0,.int .i64 n] w λen w'=>∃ k q cs,en=.returned (.slice (some ⟨w.heap.size,0,none⟩) 0 k)/\w'=(w.alloc (.cells cs e)).drewN q/\k<=maxLen/\cs.size=k * Rep.sz α) {v0:Int} (hv:0<=v0) (hv2:v0<=1000000000) :
  Sp P N [Qv (.slice none 0 0),Va v0] (Rz (λx:Value=>Qv x) (λx=>[Ow e x ([]:List α)])):=by
 intro vs M w hM hf
 match vs,hf with
 | [a,b],⟨⟨_,ha⟩,hb,_⟩=>
  subst ha;have hb:=Va.int hb;subst hb;obtain ⟨n,rfl⟩:=ES hv;refine ⟨hc,?_⟩;rcases F7 n with rfl | hn
  ·refine (h0 w).mono ?_;rintro en w' ⟨rfl,rfl⟩;exact ⟨_,rfl,Ext.refl _ _,[],by simp,by simp,_,⟨rfl,rfl⟩,[],[],rfl,λu=>.inl ⟨rfl,[],⟨by simp,.inl ⟨rfl,rfl⟩⟩,rfl⟩,rfl⟩
  ·refine (h1 n hn om_ w).mono ?_;rintro en w' ⟨k,q,cs,rfl,rfl,hk,hcs⟩;have hh:((w.alloc (.cells cs e)).drewN q).heap[w.heap.size]?=some (.cells cs e (0,0)):=Bq w _;refine ⟨_,rfl,(Ext.alloc No w _).trans (Ext.drawn _ _ _ (FE _ _)),[w.heap.size],by simp,λj hj=>?_,_,⟨rfl,rfl⟩,[w.heap.size],[],by simp,λu=>.inl ⟨rfl,[],⟨by simp,.inr ⟨w.heap.size,k,cs,rfl,EP _,hh,EP _,hk,hcs,by simp⟩⟩,rfl⟩,rfl⟩;simp at hj;subst hj;exact ⟨Nat.le_refl _,(CQ.1 hh).1⟩
end Go.Pn
namespace Go.Proofs
open Go Go.RowKit
theorem Zs (w:World):Calls Tryz.prog 167 #[.slice none 0 0,.int .i64 0] w λe w'=>e=.returned (.slice none 0 0)/\w'=w:=by
 go_enter Tryz.func167,Tryz.ntmps167
 go_wp2
 go_ret
 exact ⟨rfl,rfl⟩
theorem Zp (n:Nat) (h:0 < n) (hn:n<=1000000000) (w:World):Calls Tryz.prog 167 #[.slice none 0 0,.int .i64 n] w λe w'=>∃ k q cs,e=.returned (.slice (some ⟨w.heap.size,0,none⟩) 0 k)/\w'=(w.alloc (.cells cs 3)).drewN q/\k<=maxLen/\cs.size=k * 1:=by
 have happ:=λw=>Lib.run_append_nil_zeros (P:=Tryz.prog) w 24 3 24 3 Tryz.t3 (.int .i64 0) .i64 .i64 Tryz.underlying24 Tryz.underlying3 Go.Pn.kr_ Go.Pn.kr_ n h (by decide) Go.Pn.om_ (by show n * 8<=_;omega)
 go_enter Tryz.func167,Tryz.ntmps167
 go_wp2_with (at_builtin;refine FS _ rfl _ _ _ _ rfl _ _ rfl rfl _ _ (happ _) ?_)
 go_ret
 have h1:=grownCap_ge w n 0 3;refine ⟨grownCap w n 0 3,1,_,rfl,rfl,grownCap_le_maxLen w n 0 3 (by unfold maxLen;omega),?_⟩;rw [F8,Pn.zc_size,Pn.zc_size];show n * 1 + (grownCap w n 0 3 - n) * 1=grownCap w n 0 3 * 1;omega
end Go.Proofs
namespace Go.Pn
open Go Go.RowKit Go.Proofs
def m167 (f:Nat) (v0:Int):Option Unit:=if 0<=v0/\v0<=1000000000 then some () else none
end Go.Pn
namespace Go.Proofs
open Go Go.RowKit
end Go.Proofs
namespace Go.Pn
open Go Go.RowKit Go.Proofs
theorem s167 (f:Nat) (v0:Int) (r:Unit) (hm:Pn.m167 f v0=some r):Pn.Sp Tryz.prog 167 [Pn.Qv (.slice none 0 0),Pn.Va v0] (Pn.Rz (λx:Value=>Pn.Qv x) (λx=>[Pn.Ow 3 x ([]:GW)])):=by
 unfold Pn.m167 at hm;split at hm
 case isFalse=>cases hm
 rename_i hv;refine Pn.growS kr_ (λw=>Zs w) (λn h1 h2 w=>Zp n h1 h2 w) hv.1 hv.2
end Go.Pn
namespace Go.Proofs
open Go Go.RowKit
theorem Zq (w:World):Calls Tryz.prog 251 #[.slice none 0 0,.int .i64 0] w λe w'=>e=.returned (.slice none 0 0)/\w'=w:=by
 go_enter Tryz.func251,Tryz.ntmps251
 go_wp2
 go_ret
 exact ⟨rfl,rfl⟩
theorem Zo (n:Nat) (h:0 < n) (hn:n<=1000000000) (w:World):Calls Tryz.prog 251 #[.slice none 0 0,.int .i64 n] w λe w'=>∃ k q cs,e=.returned (.slice (some ⟨w.heap.size,0,none⟩) 0 k)/\w'=(w.alloc (.cells cs 4)).drewN q/\k<=maxLen/\cs.size=k * 1:=by
 have happ:=λw=>Lib.run_append_nil_zeros (P:=Tryz.prog) w 27 3 27 4 Tryz.t4 (.bool false) .i64 .i64 Tryz.underlying27 Tryz.underlying3 Go.Pn.kr_ Go.Pn.kr_ n h (by decide) Go.Pn.om_ (by show n * 1<=_;omega)
 go_enter Tryz.func251,Tryz.ntmps251
 go_wp2_with (at_builtin;refine FS _ rfl _ _ _ _ rfl _ _ rfl rfl _ _ (happ _) ?_)
 go_ret
 have h1:=grownCap_ge w n 0 4;refine ⟨grownCap w n 0 4,1,_,rfl,rfl,grownCap_le_maxLen w n 0 4 (by unfold maxLen;omega),?_⟩;rw [F8,Pn.zc_size,Pn.zc_size];show n * 1 + (grownCap w n 0 4 - n) * 1=grownCap w n 0 4 * 1;omega
end Go.Proofs
namespace Go.Pn
open Go Go.RowKit Go.Proofs
def m251 (f:Nat) (v0:Int):Option Unit:=if 0<=v0/\v0<=1000000000 then some () else none
end Go.Pn
namespace Go.Proofs
open Go Go.RowKit
end Go.Proofs
namespace Go.Pn
open Go Go.RowKit Go.Proofs
theorem s251 (f:Nat) (v0:Int) (r:Unit) (hm:Pn.m251 f v0=some r):Pn.Sp Tryz.prog 251 [Pn.Qv (.slice none 0 0),Pn.Va v0] (Pn.Rz (λx:Value=>Pn.Qv x) (λx=>[Pn.Ow 4 x ([]:GX)])):=by
 unfold Pn.m251 at hm;split at hm
 case isFalse=>cases hm
 rename_i hv;refine Pn.growS kr_ (λw=>Zq w) (λn h1 h2 w=>Zo n h1 h2 w) hv.1 hv.2
end Go.Pn
namespace Go.Proofs
open Go Go.RowKit
end Go.Proofs
namespace Go.Pn
open Go Go.RowKit Go.Sort
theorem Chk.ints {M:Nat->Prop} {w:World}:∀ {xs:GW} {cs:GZ},Chk M w cs xs->cs=xs.map (Value.int .i64)
 | [],_,h=>h
 | x :: xs,_,⟨c,d,rfl,h1,h2⟩=>by
  have h1:c=[.int .i64 x]:=h1;rw [h1,Chk.ints h2];rfl
theorem Chk.ofInts {M:Nat->Prop} {w:World}:∀ {xs:GW},Chk M w (xs.map (Value.int .i64)) xs
 | []=>rfl
 | x :: xs=>⟨[.int .i64 x],xs.map (Value.int .i64),rfl,rfl,Chk.ofInts⟩
theorem Tl {enc:Int->Value} {w:World} {b:Nat} {d:Array Int} {cur:Array Value} {e:TypeId} {fz:Nat×Nat} (h:w.heap[b]?=some (.cells cur e fz)):(putRow enc w b 0 d).heap[b]?=some (.cells (putCells enc 0 d cur) e fz):=by
 unfold putRow mapBlock;simp only [FA,if_true,h,DG,onCells]
theorem Sd {enc:Int->Value} {w:World} {b k:Nat} {d:Array Int} (h:k≠b):(putRow enc w b 0 d).heap[k]?=w.heap[k]?:=by
 unfold putRow mapBlock;simp only [FA];rw [if_neg (λe=>h e.symm)]
theorem Wi {w w':World} {b n:Nat} {d:Array Int} {os:Array Obj} {cur:Array Value} {e:TypeId} (h:w.heap[b]?=some (.cells cur e (0,0))) (hw:w'=grow (putRow (Value.int .i64) (Sort.ahead w n) b 0 d) os) :
  Ext (λk=>k=b) w w'/\w'.heap[b]?=some (.cells (putCells (Value.int .i64) 0 d cur) e (0,0)):=by
 subst hw;have hsz:(putRow (Value.int .i64) (Sort.ahead w n) b 0 d).heap.size=w.heap.size:=by simp [putRow,mapBlock,Sort.ahead]
 have hb:b < w.heap.size:=(CQ.1 h).1;refine ⟨⟨rfl,rfl,rfl,?_,λk hk hne=>?_,FE _ _⟩,?_⟩
 ·simp [grow,hsz]
 ·simp only [grow];rw [FC (by rw [hsz];exact hk),Sd hne];rfl
 ·simp only [grow];rw [FC (by rw [hsz];exact hb)];exact Tl h
theorem Gp {d:Array Int} {cur:Array Value} (h:d.size<=cur.size):(putCells (Value.int .i64) 0 d cur).toList.take d.size=d.toList.map (Value.int .i64):=by
 refine EG λj=>?_;rw [GR];split
 ·rename_i hj;rw [ER];simp only [putCells,Array.getElem?_mapIdx,C8,ER];rw [EQ om_,EQ hj];simp [hj]
 ·rename_i hj;rw [DO (by simp;omega)]
theorem Gq {enc:Int->Value} {d:Array Int} {cur:Array Value}:(putCells enc 0 d cur).size=cur.size:=by simp [putCells]
theorem Sc {w:World} {g:Nat} {cur:Array Value} {e:TypeId} {zs:GW} (h:w.heap[g]?=some (.cells cur e (0,0))) (ht:cur.toList.take zs.length=zs.map (Value.int .i64)):Holds (Value.int .i64) w g 0 zs.toArray:=by
 intro j hj;have hj:j < zs.length:=by simpa using hj
 have h1:(cur.toList.take zs.length)[j]?=some (.int .i64 zs[j]):=by rw [ht];simp [hj]
 rw [DT hj,ER] at h1;refine ⟨?_,?_⟩
 ·simp [World.cell?,h,h1,hj]
 ·simp [World.frozen?,h]
theorem inpl {P:Program} {N e:Nat} {c:Value} {xs:GW} (hcal:cal P N=true) (F:GW->GW) (hlen:∀ zs,(F zs).length=zs.length) (hsm:xs.length < 4611686018427387904)
  (h0:∀ (p:Option Addr) (cap:Nat) (w:World),Calls P N #[.slice p 0 cap] w λen w'=>en=.returned (.tuple #[])/\w'=w)
  (h1:∀ (b cap:Nat) (zs:GW) (w:World),Holds (Value.int .i64) w b 0 zs.toArray->b < w.heap.size->zs.length < 4611686018427387904->Calls P N #[.slice (some ⟨b,0,none⟩) zs.length cap] w λen w'=>en=.returned (.tuple #[])/\∃ n os,w'=grow (putRow (Value.int .i64) (Sort.ahead w n) b 0 (F zs).toArray) os) :
  Cg P N [Qv c] [Ow e c xs] (Rz (λ_:Unit=>Dd) (λ_=>[Ow e c (F xs)])):=by
 refine ⟨hcal,?_⟩;intro vs M w Ft hM hf ho hnd hFM
 match vs,hf with
 | [v],⟨⟨_,hv⟩,_⟩=>
  have hv:v=c:=hv;subst hv;obtain ⟨F1,_,rfl,hown,rfl⟩:=ho;have hF0:xs=[]->F xs=[]:=λh=>FN.1 (by rw [hlen,h];rfl);rcases hown undef with ⟨hF,cs,hr,hc⟩ | ⟨hF,hx,g,hv⟩
  ·rcases hr.2 with ⟨hn,hx⟩ | ⟨g,cap,cur,hn,_,hg,hle,hcap,hsz,htk⟩
   ·have hx:xs=[]:=FN.1 hx;subst hx;rw [hn];refine (h0 none 0 w).mono ?_;rintro en w' ⟨rfl,rfl⟩;refine ⟨_,F1,rfl,Ext.refl _ _,by simpa using hnd,λk hk=>.inl (by simpa using hk),(),rfl,F1,[],by simp,λu=>?_,rfl⟩;rw [hF0 rfl,← hn];exact (Ow e v []).sb (hown u) (λk _ hk=>by rcases hk with h | h;exact h.1;exact hFM k (by simpa using h))
   ·have hcs:=Chk.ints hc;have hsz1:cur.size=cap:=by rw [hsz];show cap * 1=cap;omega
    have htk1:cur.toList.take xs.length=xs.map (Value.int .i64):=by rw [← hcs,← htk];show _=cur.toList.take (xs.length * 1);rw [EH]
    have hgl:g < w.heap.size:=(CQ.1 hg).1;rw [hn];refine (h1 g cap xs w (Sc hg htk1) hgl hsm).mono ?_;rintro en w' ⟨rfl,n,os,hw⟩;obtain ⟨hx,hb⟩:=Wi hg hw;have hF1:F1=[g]:=by rw [hF,hn];rfl
    subst hF1;refine ⟨_,[g],rfl,hx.mono λk _ hk=>by subst hk;simp,by simp,λk hk=>.inl (by simpa using hk),(),rfl,[g],[],by simp,λu=>.inl ⟨by rw [← hn,hn];rfl,(F xs).map (Value.int .i64),⟨?_,.inr ⟨g,cap,_,?_,EP _,hb,?_,hcap,?_,?_⟩⟩,Chk.ofInts⟩,rfl⟩
    ·rw [EA];exact (EH _).symm
    ·rw [hlen]
    ·rw [hlen];exact hle
    ·rw [Gq];exact hsz
    ·have:=Gp (d:=(F xs).toArray) (cur:=cur) (by simp [hlen];omega);show _=_;have hm:(F xs).length * Rep.sz Int=(F xs).toArray.size:=by simp;show _ * 1=_;omega
     rw [hm,this]
  ·subst hx;rw [hv];refine (h0 _ 0 w).mono ?_;rintro en w' ⟨rfl,rfl⟩;refine ⟨_,F1,rfl,Ext.refl _ _,by simpa using hnd,λk hk=>.inl (by simpa using hk),(),rfl,F1,[],by simp,λu=>?_,rfl⟩;rw [hF0 rfl,← hv];exact (Ow e v []).sb (hown u) (λk _ hk=>by rcases hk with h | h;exact h.1;exact hFM k (by simpa using h))
end Go.Pn
namespace Go.Proofs
open Go Go.RowKit Go.Shelf Go.Sort
def Tryz.laysSort_ren:Go.Shelf.Ren:=⟨λ| 189=>172 | 125=>198 | 257=>197 | 128=>223 | 129=>200 | 294=>214 | 295=>215 | 296=>216 | 297=>217 | 298=>218 | 299=>219 | 216=>220 | 300=>221 | 301=>222 | 328=>236 | 329=>237 | 330=>238 | 331=>239 | 332=>240 | 215=>241 | 343=>250 | n=>n,λ| 28=>24 | 3=>3 | 46=>163 | 0=>0 | 51=>201 | 53=>204 | 4=>4 | 183=>274 | 182=>273 | 131=>82 | 5=>5 | 9=>9 | 218=>293 | 222=>228 | 228=>302 | 229=>303 | n=>n,λ| n=>n⟩
theorem Tryz.laysSort:Go.Proofs.Lays.n189 Tryz.prog Tryz.laysSort_ren:={
 mixed:=by kernel_rfl
 f125:=Tryz.func198.trans (congrArg some Go.Pn.kr_)
 f128:=Tryz.func223.trans (congrArg some Go.Pn.kr_)
 f129:=Tryz.func200.trans (congrArg some Go.Pn.kr_)
 f189:=Tryz.func172.trans (congrArg some Go.Pn.kr_)
 f215:=Tryz.func241.trans (congrArg some Go.Pn.kr_)
 f216:=Tryz.func220.trans (congrArg some Go.Pn.kr_)
 f257:=Tryz.func197.trans (congrArg some Go.Pn.kr_)
 f294:=Tryz.func214.trans (congrArg some Go.Pn.kr_)
 f295:=Tryz.func215.trans (congrArg some Go.Pn.kr_)
 f296:=Tryz.func216.trans (congrArg some Go.Pn.kr_)
 f297:=Tryz.func217.trans (congrArg some Go.Pn.kr_)
 f298:=Tryz.func218.trans (congrArg some Go.Pn.kr_)
 f299:=Tryz.func219.trans (congrArg some Go.Pn.kr_)
 f300:=Tryz.func221.trans (congrArg some Go.Pn.kr_)
 f301:=Tryz.func222.trans (congrArg some Go.Pn.kr_)
 f328:=Tryz.func236.trans (congrArg some Go.Pn.kr_)
 f329:=Tryz.func237.trans (congrArg some Go.Pn.kr_)
 f330:=Tryz.func238.trans (congrArg some Go.Pn.kr_)
 f331:=Tryz.func239.trans (congrArg some Go.Pn.kr_)
 f332:=Tryz.func240.trans (congrArg some Go.Pn.kr_)
 f343:=Tryz.func250.trans (congrArg some Go.Pn.kr_)
 t0:=Tryz.underlying0
 a0:=Tryz.isAgg0
 z0:=Tryz.sizeOf0
 v0:=Tryz.zeroValue0
 t3:=Tryz.underlying3
 a3:=Tryz.isAgg3
 z3:=Tryz.sizeOf3
 v3:=Tryz.zeroValue3
 t4:=Tryz.underlying4
 a4:=Tryz.isAgg4
 z4:=Tryz.sizeOf4
 v4:=Tryz.zeroValue4
 t5:=Tryz.underlying5
 a5:=Tryz.isAgg5
 z5:=Tryz.sizeOf5
 v5:=Tryz.zeroValue5
 t9:=Tryz.underlying9
 a9:=Tryz.isAgg9
 z9:=Tryz.sizeOf9
 v9:=Tryz.zeroValue9
 t28:=Tryz.underlying24
 a28:=Tryz.isAgg24
 z28:=Tryz.sizeOf24
 v28:=Tryz.zeroValue24
 t46:=Tryz.underlying163
 a46:=Tryz.isAgg163
 z46:=Tryz.sizeOf163
 v46:=Tryz.zeroValue163
 t51:=Tryz.underlying201
 a51:=Tryz.isAgg201
 z51:=Tryz.sizeOf201
 v51:=Tryz.zeroValue201
 t53:=Tryz.underlying204
 a53:=Tryz.isAgg204
 z53:=Tryz.sizeOf204
 v53:=Tryz.zeroValue204
 t131:=Tryz.underlying82
 a131:=Tryz.isAgg82
 z131:=Tryz.sizeOf82
 v131:=Tryz.zeroValue82
 t182:=Tryz.underlying273
 a182:=Tryz.isAgg273
 z182:=Tryz.sizeOf273
 v182:=Tryz.zeroValue273
 t183:=Tryz.underlying274
 a183:=Tryz.isAgg274
 z183:=Tryz.sizeOf274
 v183:=Tryz.zeroValue274
 t218:=Tryz.underlying293
 a218:=Tryz.isAgg293
 z218:=Tryz.sizeOf293
 v218:=Tryz.zeroValue293
 t222:=Tryz.underlying228
 a222:=Tryz.isAgg228
 z222:=Tryz.sizeOf228
 v222:=Tryz.zeroValue228
 t228:=Tryz.underlying302
 a228:=Tryz.isAgg302
 z228:=Tryz.sizeOf302
 v228:=Tryz.zeroValue302
 t229:=Tryz.underlying303
 a229:=Tryz.isAgg303
 z229:=Tryz.sizeOf303
 v229:=Tryz.zeroValue303 }
end Go.Proofs
namespace Go.Pn
open Go Go.RowKit Go.Shelf Go.Sort Go.Proofs
def ins1 (x:Int):GW->GW
 | []=>[x]
 | y :: l=>bif decide (x<=y) then x :: y :: l else y :: Pn.ins1 x l
end Go.Pn
namespace Go.Proofs
open Go Go.RowKit Go.Shelf Go.Sort
end Go.Proofs
namespace Go.Pn
open Go Go.RowKit Go.Shelf Go.Sort Go.Proofs
def isort:GW->GW
 | []=>[]
 | x :: l=>Pn.ins1 x (Pn.isort l)
end Go.Pn
namespace Go.Proofs
open Go Go.RowKit Go.Shelf Go.Sort
end Go.Proofs
namespace Go.Pn
open Go Go.RowKit Go.Shelf Go.Sort Go.Proofs
theorem ins1_perm (x:Int):∀ l:GW,(Pn.ins1 x l).Perm (x :: l)
 | []=>.refl _
 | y :: l=>by
  unfold Pn.ins1;cases decide (x<=y) with
  | true=>exact .refl _
  | false=>exact ((Pn.ins1_perm x l).cons y).trans (.swap x y l)
end Go.Pn
namespace Go.Proofs
open Go Go.RowKit Go.Shelf Go.Sort
end Go.Proofs
namespace Go.Pn
open Go Go.RowKit Go.Shelf Go.Sort Go.Proofs
theorem isort_perm:∀ l:GW,(Pn.isort l).Perm l
 | []=>.refl _
 | x :: l=>(Pn.ins1_perm x _).trans ((Pn.isort_perm l).cons x)
end Go.Pn
namespace Go.Proofs
open Go Go.RowKit Go.Shelf Go.Sort
end Go.Proofs
namespace Go.Pn
open Go Go.RowKit Go.Shelf Go.Sort Go.Proofs
theorem ins1_pw (x:Int):∀ l:GW,l.Pairwise (·<=·)->(Pn.ins1 x l).Pairwise (·<=·)
 | [],_=>by unfold Pn.ins1;simp
 | y :: l,h=>by
  obtain ⟨h1,h2⟩:=FJ.1 h;unfold Pn.ins1;by_cases hx:x<=y
  ·rw [decide_eq_true hx,cond_true];refine FJ.2 ⟨λz hz=>?_,h⟩;rcases C7.1 hz with rfl | hz
   ·exact hx
   ·have:=h1 z hz;omega
  ·rw [decide_eq_false hx,cond_false];refine FJ.2 ⟨λz hz=>?_,Pn.ins1_pw x l h2⟩;rcases C7.1 ((Pn.ins1_perm x l).mem_iff.1 hz) with rfl | hz
   ·omega
   ·exact h1 z hz
end Go.Pn
namespace Go.Proofs
open Go Go.RowKit Go.Shelf Go.Sort
end Go.Proofs
namespace Go.Pn
open Go Go.RowKit Go.Shelf Go.Sort Go.Proofs
theorem isort_pw:∀ l:GW,(Pn.isort l).Pairwise (·<=·)
 | []=>.nil
 | x :: l=>Pn.ins1_pw x _ (Pn.isort_pw l)
end Go.Pn
namespace Go.Proofs
open Go Go.RowKit Go.Shelf Go.Sort
end Go.Proofs
namespace Go.Pn
open Go Go.RowKit Go.Shelf Go.Sort Go.Proofs
theorem isort_eq (xs:GW):Pn.isort xs=xs.mergeSort λx y=>decide (x<=y):=by
 have h:(xs.mergeSort λx y=>decide (x<=y)).Pairwise (λa b:Int=>a<=b):=(List.pairwise_mergeSort (le:=λx y:Int=>decide (x<=y)) (λa b c h1 h2=>by simp at h1 h2 ⊢;omega) (λa b=>by simp;omega) xs).imp λh=>by simpa using h
 exact List.Perm.eq_of_pairwise (λa b _ _ h1 h2=>Int.le_antisymm h1 h2) (Pn.isort_pw xs) h ((Pn.isort_perm xs).trans (List.mergeSort_perm xs _).symm)
end Go.Pn
namespace Go.Proofs
open Go Go.RowKit Go.Shelf Go.Sort
end Go.Proofs
namespace Go.Pn
open Go Go.RowKit Go.Shelf Go.Sort Go.Proofs
def m172 (f:Nat) (v0:GW):Option GW:=if v0.length<=1000000000 then some (Pn.isort v0) else none
end Go.Pn
namespace Go.Proofs
open Go Go.RowKit Go.Shelf Go.Sort
end Go.Proofs
namespace Go.Pn
open Go Go.RowKit Go.Shelf Go.Sort Go.Proofs
theorem G1 (f:Nat) (n0:Value) (v0:GW) (r:GW) (hm:Pn.m172 f v0=some r):Pn.Cg Tryz.prog 172 [Pn.Qv n0] [Pn.Ow 3 n0 (v0)] (Pn.Rz (λx:Unit=>Pn.Dd) (λx=>[Pn.Ow 3 n0 (r)])):=by
 unfold Pn.m172 at hm;split at hm
 case isFalse=>cases hm
 rename_i hb;obtain rfl:=Option.some.inj hm;rw [Pn.isort_eq];exact Pn.inpl kr_ (λxs=>xs.mergeSort λx y=>decide (x<=y)) (λzs=>List.length_mergeSort zs) om_ (λp cap w=>Any.slices_Sort_int_none Tryz.laysSort p cap w) (λb cap zs w h1 h2 h3=>Any.slices_Sort_int Tryz.laysSort b 0 cap zs w h1 h2 h3)
end Go.Pn
namespace Go.Proofs
open Go Go.RowKit Go.Shelf Go.Sort
end Go.Proofs
namespace Go.Pn
open Go Go.RowKit Go.Sort
theorem inpc {P:Program} {N e:Nat} {c:Value} {xs:GW} (hcal:cal P N=true) (F:GW->GW) (hlen:∀ zs,(F zs).length<=zs.length) (hsm:xs.length<=9223372036854775807)
  (h0:∀ (p:Option Addr) (cap:Nat) (w:World),Calls P N #[.slice p 0 cap] w λen w'=>en=.returned (.slice p 0 cap)/\w'=w)
  (h1:∀ (b cap:Nat) (zs:GW) (w:World),Holds (Value.int .i64) w b 0 zs.toArray->zs.length<=9223372036854775807->zs.length<=cap->Calls P N #[.slice (some ⟨b,0,none⟩) zs.length cap] w λen w'=>en=.returned (.slice (some ⟨b,0,none⟩) (F zs).length cap)/\∃ n,w'=putRow (Value.int .i64) (Sort.ahead w n) b 0 (F zs ++ List.replicate (zs.length - (F zs).length) 0).toArray) :
  Cg P N [Qv c] [Ow e c xs] (Rz (λx:Value=>Qv x) (λx=>[Ow e x (F xs)])):=by
 refine ⟨hcal,?_⟩;intro vs M w Ft hM hf ho hnd hFM
 match vs,hf with
 | [v],⟨⟨_,hv⟩,_⟩=>
  have hv:v=c:=hv;subst hv;obtain ⟨F1,_,rfl,hown,rfl⟩:=ho;have hF0:xs=[]->F xs=[]:=λh=>FN.1 (by have:=hlen xs;rw [h] at this ⊢;simpa using this);rcases hown undef with ⟨hF,cs,hr,hc⟩ | ⟨hF,hx,g,hv⟩
  ·rcases hr.2 with ⟨hn,hx⟩ | ⟨g,cap,cur,hn,_,hg,hle,hcap,hsz,htk⟩
   ·have hx:xs=[]:=FN.1 hx;subst hx;rw [hn];refine (h0 none 0 w).mono ?_;rintro en w' ⟨rfl,rfl⟩;refine ⟨_,F1,rfl,Ext.refl _ _,by simpa using hnd,λk hk=>.inl (by simpa using hk),v,⟨rfl,hn.symm⟩,F1,[],by simp,λu=>?_,rfl⟩;rw [hF0 rfl];exact (Ow e v []).sb (hown u) (λk _ hk=>by rcases hk with h | h;exact h.1;exact hFM k (by simpa using h))
   ·have hcs:=Chk.ints hc;have hsz1:cur.size=cap:=by rw [hsz];show cap * 1=cap;omega
    have htk1:cur.toList.take xs.length=xs.map (Value.int .i64):=by rw [← hcs,← htk];show _=cur.toList.take (xs.length * 1);rw [EH]
    have hgl:g < w.heap.size:=(CQ.1 hg).1;have hl:=hlen xs;rw [hn];refine (h1 g cap xs w (Sc hg htk1) hsm hle).mono ?_;rintro en w' ⟨rfl,n,hw⟩;obtain ⟨hx,hb⟩:=Wi (os:=#[]) hg (hw.trans (Sort.grow_empty _).symm);have hF1:F1=[g]:=by rw [hF,hn];rfl
    subst hF1;refine ⟨_,[g],rfl,hx.mono λk _ hk=>by subst hk;simp,by simp,λk hk=>.inl (by simpa using hk),_,⟨rfl,rfl⟩,[g],[],by simp,λu=>.inl ⟨rfl,(F xs).map (Value.int .i64),⟨?_,.inr ⟨g,cap,_,rfl,EP _,hb,?_,hcap,?_,?_⟩⟩,Chk.ofInts⟩,rfl⟩
    ·rw [EA];exact (EH _).symm
    ·omega
    ·rw [Gq];exact hsz
    ·have:=Gp (d:=(F xs ++ List.replicate (xs.length - (F xs).length) 0).toArray) (cur:=cur) (by simp;omega);have h2:=congrArg (List.take (F xs).length) this;rw [List.take_take,Nat.min_eq_left smp_] at h2;have hm:(F xs).length * Rep.sz Int=(F xs).length:=EH _;rw [hm,h2];simp
  ·subst hx;rw [hv];refine (h0 _ 0 w).mono ?_;rintro en w' ⟨rfl,rfl⟩;refine ⟨_,F1,rfl,Ext.refl _ _,by simpa using hnd,λk hk=>.inl (by simpa using hk),v,⟨rfl,hv.symm⟩,F1,[],by simp,λu=>?_,rfl⟩;rw [hF0 rfl];exact (Ow e v []).sb (hown u) (λk _ hk=>by rcases hk with h | h;exact h.1;exact hFM k (by simpa using h))
end Go.Pn
namespace Go.Proofs
open Go Go.RowKit Go.Shelf Go.Sort
def Tryz.laysCompact_ren:Go.Shelf.Ren:=⟨λ| 20=>173 | n=>n,λ| 22=>24 | 3=>3 | 4=>4 | 0=>0 | n=>n,λ| n=>n⟩
theorem Tryz.laysCompact:Go.Proofs.Lays2.n20 Tryz.prog Tryz.laysCompact_ren:={
 mixed:=by kernel_rfl
 f20:=Tryz.func173.trans (congrArg some Go.Pn.kr_)
 t0:=Tryz.underlying0
 a0:=Tryz.isAgg0
 z0:=Tryz.sizeOf0
 v0:=Tryz.zeroValue0
 t3:=Tryz.underlying3
 a3:=Tryz.isAgg3
 z3:=Tryz.sizeOf3
 v3:=Tryz.zeroValue3
 t4:=Tryz.underlying4
 a4:=Tryz.isAgg4
 z4:=Tryz.sizeOf4
 v4:=Tryz.zeroValue4
 t22:=Tryz.underlying24
 a22:=Tryz.isAgg24
 z22:=Tryz.sizeOf24
 v22:=Tryz.zeroValue24
 i3:=by kernel_rfl }
end Go.Proofs
namespace Go.Pn
open Go Go.RowKit Go.Shelf Go.Sort Go.Proofs
def m173 (f:Nat) (v0:GW):Option GW:=if v0.length<=1000000000 then some (Lib.compact v0) else none
end Go.Pn
namespace Go.Proofs
open Go Go.RowKit Go.Shelf Go.Sort
end Go.Proofs
namespace Go.Pn
open Go Go.RowKit Go.Shelf Go.Sort Go.Proofs
theorem compact_le (zs:GW):(Lib.compact zs).length<=zs.length:=by
 unfold Lib.compact Lib.compactUpTo;rw [EA];exact DS (List.length_filter_le _ _) smp_
end Go.Pn
namespace Go.Proofs
open Go Go.RowKit Go.Shelf Go.Sort
end Go.Proofs
namespace Go.Pn
open Go Go.RowKit Go.Shelf Go.Sort Go.Proofs
theorem G2 (f:Nat) (n0:Value) (v0:GW) (r:GW) (hm:Pn.m173 f v0=some r):Pn.Cg Tryz.prog 173 [Pn.Qv n0] [Pn.Ow 3 n0 (v0)] (Pn.Rz (λx:Value=>Pn.Qv x) (λx=>[Pn.Ow 3 x (r)])):=by
 unfold Pn.m173 at hm;split at hm
 case isFalse=>cases hm
 rename_i hb;obtain rfl:=Option.some.inj hm;exact Pn.inpc kr_ Lib.compact Pn.compact_le om_ (λp cap w=>Any.slices_Compact_int_empty Tryz.laysCompact p cap w) (λb cap zs w h1 h2 h3=>Any.slices_Compact_int Tryz.laysCompact b 0 cap zs w h1 h2 h3)
end Go.Pn
namespace Go.Proofs
open Go Go.RowKit Go.Shelf Go.Sort
def Tryz.laysMul_ren:Go.Shelf.Ren:=⟨λ| 212=>98 | 263=>138 | 264=>139 | n=>n,λ| 46=>163 | 51=>201 | 146=>202 | 53=>204 | 148=>205 | n=>n,λ| n=>n⟩
theorem Tryz.laysMul:Go.Proofs.Lays.n212 Tryz.prog Tryz.laysMul_ren:={
 mixed:=by kernel_rfl
 f212:=Tryz.func98.trans (congrArg some Go.Pn.kr_)
 f263:=Tryz.func138.trans (congrArg some Go.Pn.kr_)
 f264:=Tryz.func139.trans (congrArg some Go.Pn.kr_)
 t46:=Tryz.underlying163
 a46:=Tryz.isAgg163
 z46:=Tryz.sizeOf163
 v46:=Tryz.zeroValue163
 t51:=Tryz.underlying201
 a51:=Tryz.isAgg201
 z51:=Tryz.sizeOf201
 v51:=Tryz.zeroValue201
 t53:=Tryz.underlying204
 a53:=Tryz.isAgg204
 z53:=Tryz.sizeOf204
 v53:=Tryz.zeroValue204
 t146:=Tryz.underlying202
 a146:=Tryz.isAgg202
 z146:=Tryz.sizeOf202
 v146:=Tryz.zeroValue202
 t148:=Tryz.underlying205
 a148:=Tryz.isAgg205
 z148:=Tryz.sizeOf205
 v148:=Tryz.zeroValue205 }
end Go.Proofs
namespace Go.Pn
open Go Go.RowKit Go.Shelf Go.Sort Go.Proofs
def m98 (f:Nat) (v0 v1:Pn.Kd .u64):Option (Pn.Kd .u64×Pn.Kd .u64):=if 0<=v0.v/\v0.v < 18446744073709551616/\0<=v1.v/\v1.v < 18446744073709551616 then some (⟨v0.v * v1.v / 18446744073709551616⟩,⟨v0.v * v1.v % 18446744073709551616⟩) else none
end Go.Pn
namespace Go.Proofs
open Go Go.RowKit Go.Shelf Go.Sort
end Go.Proofs
namespace Go.Pn
open Go Go.RowKit Go.Shelf Go.Sort Go.Proofs
theorem s98 (f:Nat) (v0 v1:Pn.Kd .u64) (r:Pn.Kd .u64×Pn.Kd .u64) (hm:Pn.m98 f v0 v1=some r):Pn.Sp Tryz.prog 98 [Pn.Va v0,Pn.Va v1] (Pn.T2 (Pn.Va r.1) (Pn.Va r.2)):=by
 unfold Pn.m98 at hm;split at hm
 case isFalse=>cases hm
 rename_i hb;obtain rfl:=Option.some.inj hm;intro vs M w hM hf
 match vs,hf with
 | [a,b],⟨ha,hb',_⟩=>
  have ha:=Pn.Ik.rep ha;have hb':=Pn.Ik.rep hb';subst ha hb';refine ⟨by kernel_rfl,?_⟩;obtain ⟨x,hx⟩:=ES hb.1;obtain ⟨y,hy⟩:=ES hb.2.2.1;have:=Any.bits_Mul Tryz.laysMul x y om_ om_ w;have e0:(Pn.Ik.toI v0)=(x:Int):=hx;have e1:(Pn.Ik.toI v1)=(y:Int):=hy;rw [e0,e1];refine this.mono ?_;rintro en w' ⟨rfl,rfl⟩;have f0:Value.int .u64 ((x * y / 18446744073709551616:Nat):Int)=.int .u64 (v0.v * v1.v / 18446744073709551616):=by rw [hx,hy,Int.natCast_ediv,GE];rfl
  have f1:Value.int .u64 ((x * y % 18446744073709551616:Nat):Int)=.int .u64 (v0.v * v1.v % 18446744073709551616):=by rw [hx,hy,Int.natCast_emod,GE];rfl
  rw [f0,f1];exact ⟨_,rfl,Pn.Ext.refl _ _,[],by simp,by simp,_,_,[],[],rfl,rfl,Pn.Ik.mkv (x:=(⟨v0.v * v1.v / 18446744073709551616⟩:Pn.Kd .u64)),Pn.Ik.mkv (x:=(⟨v0.v * v1.v % 18446744073709551616⟩:Pn.Kd .u64))⟩
end Go.Pn
namespace Go.Proofs
open Go Go.RowKit Go.Shelf Go.Sort
end Go.Proofs
namespace Go.Pn
open Go Go.RowKit Go.Proofs
def G3 (f:Nat) (v0:Int):Option Int:=some v0
theorem G4 (f:Nat) (v0:Int) (r:Int) (hm:G3 f v0=some r):Sp Tryz.prog 178 [Va (v0)] (Fv1 179 r):=by
 obtain rfl:=si hm;refine ens Tryz.func178 kr_ rfl Tryz.ntmps178 rfl rfl λM w_0 a hM hD s=>?_;refine se (rg (sq s (bx (t rfl)) rfl λa w s=>sq s (saq cq) rfl λa w s=>nl ?_));refine se (rg (nmk (d:=1) 1000 s rfl rfl λc s=>sq s (mkf rfl rfl qn (qc (t rfl) qn)) rfl λa w s=>sq s (saq (t rfl)) rfl λa w s=>nl ?_));replace s:=tv (d:=2) s (fvi (k:=1000) (t rfl) rfl);refine wpIn_ret ?_;exact rn hD s rfl (rv1 (rt rfl))
end Go.Pn
namespace Go.Pn
open Go Go.RowKit
variable {rr:Option Nat}
def Dk (D:Nat):Ent where
 p F _ w _:=F=[D]/\w.heap[D]?=some (.deferred (some []))
 st h e:=by
  obtain ⟨rfl,h⟩:=h;exact ⟨rfl,by rw [e.block D (CQ.1 h).1 smp_];exact h⟩
 sb h _:=h
def Lr (l:Nat) (r:Loop):Ent where
 p F _ w _:=F=[l]/\w.heap[l]?=some (.loop r)
 st h e:=by
  obtain ⟨rfl,h⟩:=h;exact ⟨rfl,by rw [e.block l (CQ.1 h).1 smp_];exact h⟩
 sb h _:=h
instance {l:Nat} {r:Loop}:Gh (Lr l r):=⟨λh _=>h⟩
def Tm (tm:Array Value) (Γt:Cx):Ent where
 p F M w _:=F=[]/\∀ t e,Al Γt t=some e->e.p [] M w (tm.getD t undef)
 st h x:=⟨h.1,λt e he=>e.st (h.2 t e he) (x.mono λk _ hk=>⟨hk.1,by simp⟩)⟩
 sb h s:=⟨h.1,λt e he=>e.sb (h.2 t e he) s⟩
instance {tm:Array Value} {Γt:Cx}:Gh (Tm tm Γt):=⟨λh _=>h⟩
def Pk {X:Type} (G:X->List Ent):Ent where
 p F M w _:=∃ x,Ju M w (G x) F
 st h x:=let ⟨y,h⟩:=h;⟨y,h.st x⟩
 sb h s:=let ⟨y,h⟩:=h;⟨y,h.sb s⟩
def Hp:GY->List Ent->Mp->Mp
 | k :: ks,e :: es,g=>put k e (Hp ks es g)
 | _,_,g=>g
theorem Ke {k:Nat} {e:Ent} {ks:GY} {es:List Ent} {g:Mp}:Hp (k :: ks) (e :: es) g=put k e (Hp ks es g):=by
 conv=>lhs;unfold Hp
theorem Bv {Γ:Cx}:∀ {ks:GY} {es:List Ent},Al (Hq ks es Γ)=Hp ks es (Al Γ)
 | [],_=>by unfold Hq Hp;rfl
 | _ :: _,[]=>by unfold Hq Hp;rfl
 | k :: ks,e :: es=>by unfold Hq Hp;rw [Ai,Bv]
theorem Dq {g g':Mp}:∀ {ks:GY} {es:List Ent} {t:Nat} {e:Ent},ks.length=es.length->(∀ e,t ∉ ks->g t=some e->g' t=some e)->Hp ks es g t=some e->Hp ks es g' t=some e
 | [],[],t,e,_,h,k=>by
  unfold Hp at k ⊢;exact h e smp_ k
 | k :: ks,x :: es,t,e,hl,h,q=>by
  unfold Hp at q ⊢;unfold put at q ⊢;split
  ·rename_i ht;rw [if_pos ht] at q;exact q
  ·rename_i ht;rw [if_neg ht] at q;exact Dq (by simpa using hl) (λe hn he=>h e (by simp [ht,hn]) he) q
section
variable {P:Program} {M0:Fm} {w0:World} {n:Nat} {Γ:Cx} {Q:Exit->Act->World->Prop} {a:Act} {w:World} {ty:TypeId}
theorem StM.add1 {g:Mp} {M:Nat->Prop} {φ:Nat->GY} {k:Nat} {e:Ent} {F:GY} (h:StM M0 w0 n g a w M φ) (hp:e.p F M w (a.get k)) (hn:F.Nodup) (hF:∀ q∈F,M q/\(w0.heap.size<=q\/M0.b q))
  (hd:∀ t,t≠k->(g t).isSome=true->∀ q∈φ t,q ∉ F):StM M0 w0 n (put k e g) a w M (λt=>if t=k then F else φ t):=by
 refine ⟨λt e' he=>?_,λt ht=>?_,λt s hts ht hs=>?_,h.sub,h.bd,h.fr,h.sz,h.df⟩
 ·unfold put at he;by_cases hk:t=k
  ·subst hk;simp only [if_true,Option.some.injEq] at he ⊢;subst he;exact hp
  ·simp only [if_neg hk] at he ⊢;exact h.holds t e' he
 ·by_cases hk:t=k
  ·subst hk;simp only [if_true];exact ⟨hn,hF⟩
  ·simp only [put,if_neg hk] at ht ⊢;exact h.own t ht
 ·by_cases hk:t=k
  ·subst hk;simp only [if_true,if_neg (Ne.symm hts)];simp only [put,if_neg (Ne.symm hts)] at hs;exact λq hq hq'=>hd s (Ne.symm hts) hs q hq' hq
  ·by_cases hk2:s=k
   ·subst hk2;simp only [if_true,if_neg hk];simp only [put,if_neg hk] at ht;exact λq hq=>hd t hk ht q hq
   ·simp only [put,if_neg hk,if_neg hk2] at ht hs ⊢;exact h.apart t s hts ht hs
theorem StM.addG {g:Mp} {M:Nat->Prop} {φ:Nat->GY} (h:StM M0 w0 n g a w M φ):∀ {ks:GY} {Gs:List Ent} {Ft:GY},ks.length=Gs.length->dis ks=true->Ju M w Gs Ft->Ft.Nodup ->
  (∀ q∈Ft,M q/\(w0.heap.size<=q\/M0.b q))->(∀ t,(g t).isSome=true->∀ q∈φ t,q ∉ Ft) ->
  ∃ φ',StM M0 w0 n (Hp ks Gs g) a w M φ'/\∀ t q,(Hp ks Gs g t).isSome=true->q∈φ' t->((g t).isSome=true/\q∈φ t)\/(t∈ks/\q∈Ft)
 | [],[],Ft,_,_,_,_,_,_=>⟨φ,by unfold Hp;exact h,λt q ht hq=>.inl ⟨by unfold Hp at ht;exact ht,hq⟩⟩
 | k :: ks,e :: Gs,Ft,hl,hd,⟨F,F',hFF,h1,h2⟩,hn,hF,hdj=>by
  subst hFF;obtain ⟨hd1,hd2⟩:=Av hd;obtain ⟨n1,n2,n3⟩:=EY.1 hn;obtain ⟨φ',i1,i2⟩:=h.addG (by simpa using hl) hd2 h2 n2 (λq hq=>hF q (CX _ hq)) (λt ht q hq hm=>hdj t ht q hq (CX _ hm));refine ⟨λt=>if t=k then F else φ' t,?_,?_⟩
  ·unfold Hp;refine i1.add1 (h1 _) n1 (λq hq=>hF q (C0 _ hq)) λt hne ht q hq hqF=>?_;rcases i2 t q ht hq with ⟨h3,h4⟩ | ⟨_,h4⟩
   ·exact hdj t h3 q h4 (C0 _ hqF)
   ·exact n3 q hqF q h4 rfl
  ·intro t q ht hq;by_cases hk:t=k
   ·subst hk;simp only [if_true] at hq;exact .inr ⟨List.mem_cons_self ..,C0 _ hq⟩
   ·simp only [if_neg hk] at hq;unfold Hp put at ht;rw [if_neg hk] at ht;rcases i2 t q ht hq with h3 | ⟨h3,h4⟩
    ·exact .inl h3
    ·exact .inr ⟨List.mem_cons_of_mem _ h3,CX _ h4⟩
theorem StM.called0 (hM:Bd M0 w0) {M:Nat->Prop} {φ:Nat->GY} {ks js:GY} {G G':List Ent} {w':World} {Fq:GY} (h:StM M0 w0 n (Al Γ) a w M φ) (hk:Kg (Al Γ) ks G) (hd:dis ks=true)
  (hx:Ext (λk=>k∈(ks.map φ).flatten) w w') (hn:Fq.Nodup) (hF:∀ k∈Fq,k∈(ks.map φ).flatten\/(w.heap.size<=k/\k < w'.heap.size))
  (ho:Ju (λk=>(M k/\k ∉ (ks.map φ).flatten)\/k∈Fq) w' G' Fq) (hl:js.length=G'.length) (hjs:dis js=true) (hkj:∀ k∈ks,k∈js):St M0 w0 n (Hq js G' Γ) a w':=by
 obtain ⟨o1,o2,o3,o4⟩:=Kg.owns h hk hd;have base:StM M0 w0 n (λt=>if t∈js then none else Al Γ t) a w' (λk=>(M k/\k ∉ (ks.map φ).flatten)\/k∈Fq) φ:=by
  have at':∀ t,((if t∈js then none else Al Γ t):Option Ent).isSome=true->t ∉ js/\(Al Γ t).isSome=true:=λt ht=>by
   by_cases hj:t∈js
   ·rw [if_pos hj] at ht;cases ht
   ·rw [if_neg hj] at ht;exact ⟨hj,ht⟩
  refine ⟨λt e he=>?_,λt ht=>?_,λt s hts ht hs=>h.apart t s hts (at' t ht).2 (at' s hs).2,λk hk=>?_,λk hk=>?_,?_,h.sz,h.df⟩
  ·have h3:=at' t (by rw [he];rfl);simp only [if_neg h3.1] at he;have hnl:=o4 t h3.2 λhm=>h3.1 (hkj t hm);have e1:e.p (φ t) (λk=>M k\/(w.heap.size<=k)) w (a.get t):=Ent.sb _ (h.holds t e he) λk hk hm=>hm.elim id λh=>by omega
   have e2:e.p (φ t) (λk=>M k\/(w.heap.size<=k)) w' (a.get t):=Ent.st _ e1 (hx.mono λk _ hk=>⟨.inl (o3 k hk).1,λhm=>hnl k hm hk⟩);refine Ent.sb _ e2 λk hk hm=>?_;rcases hm with hm | hm
   ·exact .inl hm.1
   ·rcases hF k hm with h5 | h5
    ·exact .inl (o3 k h5).1
    ·exact .inr h5.1
  ·have h3:=at' t ht;have:=h.own t h3.2;exact ⟨this.1,λk hk=>⟨.inl ⟨(this.2 k hk).1,o4 t h3.2 (λhm=>h3.1 (hkj t hm)) k hk⟩,(this.2 k hk).2⟩⟩
  ·refine .inl ⟨h.sub k hk,λhm=>?_⟩;rcases (o3 k hm).2 with h5 | h5
   ·have:=hM.1 k hk;omega
   ·exact hM.2 k h5 hk
  ·rcases hk with hk | hk
   ·exact DE (h.bd k hk.1) hx.size
   ·rcases hF k hk with h5 | h5
    ·exact DE (h.bd k (o3 k h5).1) hx.size
    ·exact h5.2
  ·exact ⟨hx.os.trans h.fr.os,hx.tape.trans h.fr.tape,hx.output.trans h.fr.output,DS h.fr.size hx.size,λk hk hb=>
    (hx.block k (DE hk h.fr.size) λhm=>(o3 k hm).2.elim (λh5=>by omega) hb).trans (h.fr.block k hk hb),DS h.fr.dr hx.dr⟩
 obtain ⟨φ',h1,_⟩:=base.addG hl hjs ho hn (λq hq=>⟨.inr hq,by
   rcases hF q hq with h5 | h5
   ·exact (o3 q h5).2
   ·exact .inl (DS h.fr.size h5.1)⟩) (λt ht q hq hm=>by
   by_cases hj:t∈js
   ·rw [if_pos hj] at ht;cases ht
   ·rw [if_neg hj] at ht;rcases hF q hm with h5 | h5
    ·exact o4 t ht (λhm=>hj (hkj t hm)) q hq h5
    ·have:=h.bd q ((h.own t ht).2 q hq).1;omega)
 refine StF.less (g:=Hp js G' λt=>if t∈js then none else Al Γ t) ⟨_,φ',h1⟩ λt e he=>?_
 rw [Bv] at he;exact Dq hl (λe hn he=>by rw [if_neg hn];exact he) he
theorem StM.newb {g:Mp} {M:Nat->Prop} {φ:Nat->GY} {k:Nat} {e:Ent} {o:Obj} (h:StM M0 w0 n g a w M φ) (he:∀ M',e.p [w.heap.size] M' (w.alloc o) (a.get k)):StF M0 w0 n (put k e g) a (w.alloc o):=by
 have hx:Ext No w (w.alloc o):=Ext.alloc _ _ _;refine ⟨λq=>M q\/q=w.heap.size,λt=>if t=k then [w.heap.size] else φ t,λt e' he'=>?_,λt ht=>?_,λt s hts ht hs=>?_,λq hq=>.inl (h.sub q hq),λq hq=>?_,h.fr.trans hx.no,h.sz,h.df⟩
 ·unfold put at he';by_cases hk:t=k
  ·subst hk;simp only [if_true,Option.some.injEq] at he' ⊢;subst he';exact he _
  ·simp only [if_neg hk] at he' ⊢;refine Ent.st _ (Ent.sb _ (h.holds t e' he') (M':=λq=>M q\/q=w.heap.size) ?_) (hx.mono λ_ _ f=>f.elim);rintro q hq (hm | hm)
   ·exact hm
   ·omega
 ·by_cases hk:t=k
  ·subst hk;simp only [if_true];exact ⟨by simp,λq hq=>by simp at hq;subst hq;exact ⟨.inr rfl,.inl h.fr.size⟩⟩
  ·simp only [put,if_neg hk] at ht ⊢;have:=h.own t ht;exact ⟨this.1,λq hq=>⟨.inl (this.2 q hq).1,(this.2 q hq).2⟩⟩
 ·have key:∀ s,(g s).isSome=true->∀ q∈φ s,q≠w.heap.size:=λs hs q hq e=>by
   have:=h.bd q ((h.own s hs).2 q hq).1;omega
  by_cases hk:t=k
  ·subst hk;simp only [if_true,if_neg (Ne.symm hts)];simp only [put,if_neg (Ne.symm hts)] at hs;exact λq hq hq'=>by simp at hq;exact key s hs q hq' hq
  ·by_cases hk2:s=k
   ·subst hk2;simp only [if_true,if_neg hk];simp only [put,if_neg hk] at ht;exact λq hq hq'=>by simp at hq';exact key t ht q hq hq'
   ·simp only [put,if_neg hk,if_neg hk2] at ht hs ⊢;exact h.apart t s hts ht hs
 ·rcases hq with hq | hq
  ·exact DE (h.bd q hq) hx.size
  ·subst hq;simp
def Cy (P:Program) (l:Nat) (ps G:List Ent) (R:Ent):Prop:=
 ∀ (vs:GZ) (M:Nat->Prop) (w:World) (Ft:GY),(∀ k,M k->k < w.heap.size)->Nu M w ps vs->Ju M w G Ft->Ft.Nodup->(∀ k∈Ft,M k) ->
  ∃ fn tmps assign body,(Instr.yield l vs.toArray).run P w=.ok (.round l fn tmps assign body) w /\
   RoundIn (Fr none) 0 P l fn tmps assign body w (Pst ⟨λk=>M k/\k ∉ Ft,λk=>k∈Ft,[]⟩ w R)
@[reducible] def yv (l:Nat):Value:=.func (.yield l) #[] #[]
theorem cgy {ops:Array Oper} {rest:List Oper} {x:Operand} {l:Nat} {A:Array TypeId} {args:Array Operand} {xs:List Operand} {ps G:List Ent} {X:Type} {eo:X->Ent} {G':X->List Ent} {d:Nat} {pos:String} {aft:Array Edge} (ks js:GY)
  (hM:Bd M0 w0) (hs:St M0 w0 n Γ a w) (hx:Od Γ x (Qv (yv l))) (ha:args.toList=xs) (h:Odl Γ xs ps) (c:Cy P l ps G (Rz eo G')) (hk:Kg (Al Γ) ks G) (hd:dis ks=true) (hl:∀ x,js.length=(G' x).length) (hjs:dis (d :: js)=true) (hkj:(ks.all λk=>js.any (Nat.beq k))=true) (hn:Nat.blt d n=true)
  (k:∀ x a' w',St M0 w0 n ((d,eo x) :: Hq js (G' x) Γ) a' w'->wpListIn (Fr rr) 0 P ops Q rest a' w'):wpListIn (Fr rr) 0 P ops Q (⟨some d,.call { callee:=.value x,args:=args,argTypes:=A },ty,pos,aft,none⟩ :: rest) a w:=by
 refine wpListIn_plain rfl λKc hK=>?_;subst ha;obtain ⟨M,φ,hs⟩:=hs;obtain ⟨_,_,hv⟩:=hx _ _ _ hs.rd;obtain ⟨o1,o2,o3,o4⟩:=Kg.owns hs hk hd;obtain ⟨fn,tm,asg,bd,hy,hR⟩:=c _ M w _ hs.bd (h.fits hs.rd) o1 o2 (λk hk=>(o3 k hk).1);refine ⟨λ_ _=>trivial,?_⟩;have hrun:((⟨some d,.call { callee:=.value x,args:=args,argTypes:=A },ty,pos,aft,none⟩:Oper).semAt (Fr rr).round a.eval).run P w=.ok (.round l fn tm asg bd) w:=by
  rw [Oper.semAt_eq _ _ _ (by intro c;simp),← hy];simp [execOp,resolve,Deferred.ofValue,hv,invoke];congr 2;apply Array.ext';simp
 rw [hrun];refine ⟨Sw,RoundIn.mono (F:=Fr rr) hR ?_⟩;rintro en w' ⟨v,Fq,rfl,hx,hnd,hF,x,hp,ho⟩;refine hK _ _ (k x _ _ ?_);exact hs.called hM hk hd (CR hn) hx hnd hF hp ho (hl x) hjs λk hk'=>by
  have:=C1.1 hkj k hk';obtain ⟨j,hj,hb⟩:=DA.1 this;rw [EC hb];exact hj
theorem St.putRec {K l:Nat} {r r':Loop} (hs:St M0 w0 n Γ a w) (hk:Al Γ K=some (Lr l r)):w.heap[l]?=some (.loop r)/\St M0 w0 n ((K,Lr l r') :: Γ) a (w.putObj l (.loop r')):=by
 obtain ⟨M,φ,h⟩:=hs;obtain ⟨hF,hc⟩:=h.holds K _ hk;refine ⟨hc,?_⟩;unfold St;rw [Ai];exact h.write (b:=l) (by rw [hk];rfl) (by rw [hF];simp) ⟨rfl,rfl,rfl,by simp,λq _ hq=>World.putObj_heap_other hq,C5 _⟩ ⟨hF,World.putObj_heap_same (CQ.1 hc).1⟩
theorem bgn {K l:Nat} {r:Loop} {body:Code} (hs:St M0 w0 n Γ a w) (hk:Al Γ K=some (Lr l r)) (hr:r.state=.ready)
  (h:∀ RB w',RB=Lr l { r with state:=.busy }->St M0 w0 n ((K,RB) :: Γ) a w'->body.wpIn (Fr (some l)) 0 P Q a w'):∃ w₂,(Instr.beginRound l).run P w=.ok () w₂/\body.wpIn (Fr (some l)) 0 P Q a w₂:=by
 obtain ⟨h1,h2⟩:=hs.putRec (r':={ r with state:=.busy }) hk;exact ⟨_,run_beginRound h1 hr,h _ _ rfl h2⟩
def stj:Nat->LoopState
 | 0=>.ready
 | _ + 1=>.done
def isz:Nat->Bool
 | 0=>true
 | _ + 1=>false
def jmp (js:List Code) (j:Nat):Option Code:=match j with | 0=>none | k + 1=>js[k]?
@[reducible] def rcd (fn D:Nat) (tm:Array Value) (ps:Array Tmp) (asx bd:Code) (st:LoopState) (pd:Option Code):Loop:=⟨st,pd,fn,tm,ps,asx,bd,D⟩
def RE (l fn D:Nat) (tm:Array Value) (ps:Array Tmp) (asx bd:Code) (Γt:Cx) (js:List Code) {X σ:Type} (G:σ->X->List Ent) (s:σ×Nat):Ent:=
 Pk λx=>Lr l (rcd fn D tm ps asx bd (stj s.2) (jmp js s.2)) :: Tm tm Γt :: G s.1 x
instance {l fn D:Nat} {tm:Array Value} {ps:Array Tmp} {asx bd:Code} {Γt:Cx} {js:List Code} {X σ:Type} {G:σ->X->List Ent} {s:σ×Nat}:Gh (RE l fn D tm ps asx bd Γt js G s):=⟨λh _=>h⟩
theorem pstG {X:Type} {eo:X->Ent} {G':X->List Ent} (x:X) (ks:GY) {G:List Ent} (hM:Bd M0 w0) (hs:St M0 w0 n Γ a w) (hk:Kg (Al Γ) ks G) (hd:dis ks=true) {v:Value} (hv:∀ M w,(eo x).p [] M w v)
  (hG:∀ M w F,Ju M w G F->Ju M w (G' x) F):Pst M0 w0 (Rz eo G') (.returned v) w:=by
 obtain ⟨M,φ,h0⟩:=hs;obtain ⟨i1,i2,i3,_⟩:=Kg.owns h0 hk hd;have hs:∀ k,k < w.heap.size->(M0.k k\/k∈(ks.map φ).flatten)->M k:=λk _ hk=>hk.elim (h0.sub k) λh=>(i3 k h).1;exact ⟨v,_,rfl,h0.fr,i2,λk hk=>(i3 k hk).2.elim (λh=>.inr ⟨h,h0.bd k (i3 k hk).1⟩) .inl,x,hv _ _,hG _ _ _ (i1.sb hs)⟩
theorem rde {K:Fm} {l fn D KL KT:Nat} {tm:Array Value} {ps:Array Tmp} {asx bd:Code} {Γt:Cx} {js:List Code} {X σ:Type} {G:σ->X->List Ent} {pd:Option Code} (ks:GY) (jump:Option Code) (j:Nat) (b:Bool) (s:σ) (x:X)
  {RB TB:Ent} (hM:Bd K w0) (hs:St K w0 n Γ a w) (hk:Al Γ KL=some RB) (hT:Al Γ KT=some TB) (hRB:RB=Lr l (rcd fn D tm ps asx bd .busy pd)) (hTB:TB=Tm tm Γt) (hG:Kg (Al Γ) ks (G s x)) (hd:dis (KL :: KT :: ks)=true)
  (hj:jmp js j=jump) (hb:jump.isNone=b) (hj0:b=isz j) :
  ∃ v w',(Instr.endRound l jump).run P w=.ok v w'/\Pst K w0 (Rz (λ_:Unit=>Va b) (λ_=>[RE l fn D tm ps asx bd Γt js G (s,j)])) (.returned v) w':=by
 subst hRB hTB;obtain ⟨h1,h2⟩:=hs.putRec (r':=rcd fn D tm ps asx bd (stj j) (jmp js j)) hk;obtain ⟨d1,d2⟩:=Av hd;refine ⟨.bool b,_,?_,pstG () (KL :: KT :: ks) hM h2 (G:=Lr l (rcd fn D tm ps asx bd (stj j) (jmp js j)) :: Tm tm Γt :: G s x) ⟨⟨by rw [Ai];simp [put],inferInstance⟩,⟨by rw [Ai];simp only [put];rw [if_neg (d1 KT smp_)];exact hT,inferInstance⟩,?_⟩ hd (λM w=>Va.mkBool) ?_⟩
 ·rw [run_endRound jump h1,hb,hj];congr 3;subst hj0;cases j <;> rfl
 ·have:∀ {ks:GY} {es:List Ent},(∀ k∈ks,k≠KL)->Kg (Al Γ) ks es->Kg (Al ((KL,Lr l (rcd fn D tm ps asx bd (stj j) (jmp js j))) :: Γ)) ks es:=by
   intro ks
   induction ks with
   | nil=>intro es _ h;cases es with
    | nil=>exact trivial
    | cons=>exact h.elim
   | cons k ks ih=>
    intro es hne h;cases es with
    | nil=>exact h.elim
    | cons e es=>exact ⟨⟨by rw [Ai];simp only [put];rw [if_neg (hne k smp_)];exact h.1.1,h.1.2⟩,ih (λq hq=>hne q (by simp [hq])) h.2⟩
  exact this (λk hk=>d1 k (by simp [hk])) hG
 ·intro M w F ho;exact ⟨F,[],by simp,λu=>⟨x,ho⟩,rfl⟩
theorem Np:∀ (ps:GY) (vs:GZ) (tm:Array Value),((ps.zip vs).foldl (λtm (p:Nat×Value)=>tm.setIfInBounds p.1 p.2) tm).size=tm.size
 | [],_,_=>by simp
 | _ :: _,[],_=>by simp
 | p :: ps,v :: vs,tm=>by simp [Np]
theorem Pg {t:Nat}:∀ (ps:GY) (vs:GZ) (tm:Array Value),t ∉ ps->((ps.zip vs).foldl (λtm (p:Nat×Value)=>tm.setIfInBounds p.1 p.2) tm).getD t undef=tm.getD t undef
 | [],_,_,_=>by simp
 | _ :: _,[],_,_=>by simp
 | p :: ps,v :: vs,tm,h=>by
  simp only [GQ,GD];rw [Pg ps vs _ (λhm=>h (DR _ hm))];simp only [C7,not_or] at h;simp [CP,DP (Ne.symm h.1)]
theorem Vd {t:Nat}:∀ (ps:GY) (vs:GZ) (tm:Array Value) (i:Nat) (v:Value),dis ps=true->ps[i]?=some t->vs[i]?=some v->t < tm.size->((ps.zip vs).foldl (λtm (p:Nat×Value)=>tm.setIfInBounds p.1 p.2) tm).getD t undef=v
 | [],_,_,i,v,_,h,_,_=>by simp at h
 | _ :: _,[],_,i,v,_,_,h,_=>by simp at h
 | p :: ps,u :: vs,tm,0,v,hd,h1,h2,hl=>by
  obtain ⟨d1,_⟩:=Av hd;simp only [List.getElem?_cons_zero,Option.some.injEq] at h1 h2;subst h1 h2;simp only [GQ,GD];rw [Pg ps vs _ (λhm=>d1 p hm rfl)];simp [CP,hl]
 | p :: ps,u :: vs,tm,i + 1,v,hd,h1,h2,hl=>by
  obtain ⟨_,d2⟩:=Av hd;simp only [GQ,GD];exact Vd ps vs _ i v d2 (by simpa using h1) (by simpa using h2) (by simpa using hl)
theorem Cy.mk {l fn D KL KT:Nat} {tm:Array Value} {ps:Array Tmp} {asx bd:Code} {Γt:Cx} {js:List Code} {X σ:Type} {G:σ->X->List Ent} {pe:List Ent} {R:Ent} (ks pts:GY) (s:σ) (htm:tm.size=n) (hp:ps.toList=pts) (hpl:pts.length=pe.length) (hpd:dis pts=true) (hpn:(pts.all λt=>Nat.blt t n)=true)
  (hpt:(pts.all λt=>(Al Γt t).isNone)=true) (hd:dis (KL :: KT :: ks)=true) (hkl:∀ x,ks.length=(G s x).length)
  (h:∀ K w a x TB,Bd K w->K.ds=[]->TB=Tm tm Γt->St K w n (Hq (KL :: KT :: ks) (Lr l (rcd fn D tm ps asx bd .ready none) :: TB :: G s x) (Hq pts pe Γt)) a w ->
   asx.wpIn (Fr (some l)) 0 P (Exit.then (λa₁ w₁=>∃ w₂,(Instr.beginRound l).run P w₁=.ok () w₂/\bd.wpIn (Fr (some l)) 0 P (roundPost P l (Pst K w R)) a₁ w₂) (λ_ _ _=>False)) a w) :
  Cy P l pe [RE l fn D tm ps asx bd Γt js G (s,0)] R:=by
 intro vs M w Ft hM hf ho hnd hFM;obtain ⟨F1,F2,rfl,hx,hF2⟩:=ho;have hF2:F2=[]:=hF2;subst hF2;rw [D2] at hnd hFM ⊢;obtain ⟨x,how⟩:=hx undef;obtain ⟨Fa,Fb,hab,h1,how2⟩:=id how;obtain ⟨_,hl⟩:=h1 undef;obtain ⟨Fc,Fd,hcd,h2,_⟩:=id how2;obtain ⟨_,hT⟩:=h2 undef;have hvl:=hf.len;have hsz:vs.toArray.size=ps.size:=by rw [← GN (xs:=ps),hp,EO,hvl,hpl]
 refine ⟨_,_,_,_,run_yield hl hsz,?_⟩;have hfold:(ps.zip vs.toArray).foldl (λtmps (x:Tmp×Value)=>tmps.setIfInBounds x.1 x.2) tm=(pts.zip vs).foldl (λtm (p:Nat×Value)=>tm.setIfInBounds p.1 p.2) tm:=by
  rw [← GO,Array.toList_zip,hp]
 refine roundIn_of_wpIn (F:=Fr none) trivial ?_;refine h ⟨λk=>M k/\k ∉ F1,λk=>k∈F1,[]⟩ w _ x _ ⟨λk hk=>hM k hk.1,λk hk hk'=>hk'.2 hk⟩ rfl rfl ?_;have base:StM ⟨λk=>M k/\k ∉ F1,λk=>k∈F1,[]⟩ w n (Al (Hq pts pe Γt)) { tmps:=(ps.zip vs.toArray).foldl (λtmps (x:Tmp×Value)=>tmps.setIfInBounds x.1 x.2) tm,defers:=[] } w M (λ_=>[]):=by
  refine ⟨λt e he=>?_,λt _=>⟨by simp,λk hk=>by simp at hk⟩,λt s _ _ _ k hk=>by simp at hk,λk hk=>hk.1,hM,Ext.refl _ _,?_,rfl⟩
  ·show e.p [] M w (Array.getD _ t undef);rw [hfold];rcases Lx hpl he with ⟨i,h5,h6⟩ | ⟨h5,h6⟩
   ·have h7:=hf.get i e h6;have hi:i < vs.length:=by rw [hvl];exact (CT.1 h6).1
    have htn:t < n:=by
     have:=C1.1 hpn t (CV h5);exact CR this
    rw [Vd pts vs tm i (vs.getD i undef) hpd h5 (by simp [hi]) (by rw [htm];exact htn)];exact h7
   ·rw [Pg pts vs tm h5];exact hT t e h6
  ·show Array.size _=n;rw [hfold,Np,htm]
 obtain ⟨φ',h7,_⟩:=base.addG (ks:=KL :: KT :: ks) (by simp [hkl x]) hd how hnd (λq hq=>⟨hFM q hq,.inr hq⟩) (λt ht q hq=>by simp at hq);exact ⟨M,φ',by rw [Bv];exact h7⟩
theorem smR {f:FuncId} {ps:List Ent} {R:Ent} (h:Sp P f ps R):Sp P f ps R:=h
theorem gon {ops:Array Oper} {rest:List Oper} {d:Option Tmp} {j dj:Nat} {b want:Bool} {op:Op} {ty:TypeId} {pos:String} {aft:Array Edge}
  (hs:St M0 w0 n Γ a w) (hj:(ops[j]?).bind (·.dst)=some dj) (hl:Al Γ dj=some (Va b)) (hb:b=want)
  (k:wpListIn (Fr rr) 0 P ops Q (⟨d,op,ty,pos,aft,none⟩ :: rest) a w):wpListIn (Fr rr) 0 P ops Q (⟨d,op,ty,pos,aft,some (j,want)⟩ :: rest) a w:=by
 obtain ⟨M,φ,h⟩:=hs;have hyb:=Be hj (Va.bool (h.holds dj _ hl));unfold wpListIn at k ⊢;rw [if_pos (by simp [Region.wanted])] at k;rw [if_pos (by simp [Region.wanted,hyb,hb])];exact k
theorem Pv {ops:Array Oper} {rest:List Oper} {d j dj:Nat} {b want:Bool} {op:Op} {ty:TypeId} {pos:String} {aft:Array Edge}
  (hs:St M0 w0 n Γ a w) (hj:(ops[j]?).bind (·.dst)=some dj) (hl:Al Γ dj=some (Va b)) (hb:b=!want) (hn:Nat.blt d n=true)
  (k:∀ a' w',St M0 w0 n ((d,Dd) :: Γ) a' w'->wpListIn (Fr rr) 0 P ops Q rest a' w'):wpListIn (Fr rr) 0 P ops Q (⟨some d,op,ty,pos,aft,some (j,want)⟩ :: rest) a w:=by
 obtain ⟨M,φ,h⟩:=hs;have hyb:=Be hj (Va.bool (h.holds dj _ hl));have hne:b≠want:=by subst hb; cases want <;> simp
 unfold wpListIn;rw [if_neg (by simp [Region.wanted,hyb,hne])];exact ⟨λ_ _=>trivial,k _ _ (by unfold St;rw [Ai];exact h.gives ⟨Ext.refl _ _,[],DH,λk hk=>by simp at hk,rfl⟩ (CR hn))⟩
theorem pkF {c x y:Operand} {b:Bool} {e:Ent} (hc:Od Γ c (Va b)) (hb:b=false) (hy:Od Γ y e) [z:Zf e]:OR P (.pick c x y) ty Γ e:=by
 refine OR.val λρ M w r=>?_;obtain ⟨_,h⟩:=hc ρ M w r;obtain ⟨F,h2⟩:=hy ρ M w r;obtain rfl:=z.z h2;exact ⟨ρ y,λ_ _ _ _=>by simp only [execOp,Va.bool h,hb];rfl,h2⟩
theorem pkT {c x y:Operand} {b:Bool} {e:Ent} (hc:Od Γ c (Va b)) (hb:b=true) (hx:Od Γ x e) [z:Zf e]:OR P (.pick c x y) ty Γ e:=by
 refine OR.val λρ M w r=>?_;obtain ⟨_,h⟩:=hc ρ M w r;obtain ⟨F,h2⟩:=hx ρ M w r;obtain rfl:=z.z h2;exact ⟨ρ x,λ_ _ _ _=>by simp only [execOp,Va.bool h,hb];rfl,h2⟩
theorem bfc {α:Type} {b:Bool} {x y:Option α} {r:α} (h:(bif b then x else y)=some r):(b=true/\x=some r)\/(b=false/\y=some r):=by
 cases b
 ·exact .inr ⟨rfl,h⟩
 ·exact .inl ⟨rfl,h⟩
def Aft (P:Program) (Q:Exit->Act->World->Prop) (js:List Code) (j:Nat) (a:Act) (w:World):Prop:=
 match jmp js j with
 | none=>Q .normal a w
 | some c=>c.wpIn (Fr none) 0 P Q a w
theorem af0 {js:List Code} {j:Nat} (hj:(j == 0)=true) (h:Q .normal a w):Aft P Q js j a w:=by
 have:j=0:=by simpa using hj
 subst this;exact h
theorem af1 {js:List Code} {j k:Nat} {c:Code} (hj:(j == k + 1)=true) (hc:js[k]?=some c) (h:c.wpIn (Fr none) 0 P Q a w):Aft P Q js j a w:=by
 have:j=k + 1:=by simpa using hj
 subst this;unfold Aft jmp;simp only [hc];exact h
theorem St.marked {D:Nat} (h:St M0 w0 n Γ a w):St (mf D M0) w0 n Γ { a with defers:=mark D :: a.defers } w:=by
 obtain ⟨M,φ,h⟩:=h;exact ⟨M,φ,h.holds,h.own,h.apart,h.sub,h.bd,h.fr,h.sz,by show _ :: a.defers=_ :: M0.ds;rw [h.df]⟩
def Zfs (Γt:Cx):Prop:=∀ t e,Al Γt t=some e->∀ {F M w v},e.p F M w v->F=[]
theorem zs0:Zfs []:=λt e h=>by simp [Al] at h
theorem zs1 {t:Nat} {e:Ent} {Γt:Cx} [z:Zf e] (h:Zfs Γt):Zfs ((t,e) :: Γt):=λs x hx=>by
 rw [Ai] at hx;unfold put at hx;split at hx
 ·cases hx;exact z.z
 ·exact h s x hx
theorem rfo {g:Operand} {ps:Array Tmp} {asx bd:Code} {f:FuncId} {fs cs:GZ} {p1 p2:List Ent} {α X σ:Type} {pe:α->List Ent} {eo:Ent} {gb:α->σ×Nat->Option (Bool×(σ×Nat))} {r:σ×Nat} (Γt:Cx) (js:List Code) (G:σ->X->List Ent) (s0:σ) (x0:X) (KD KL KT:Nat) (ks:GY)
  (hM:Bd M0 w0) (hs:St M0 w0 n Γ a w) (hg:Od Γ g (Qv (fv f fs cs))) (h1:Vdl Γ fs p1) (h2:Vdl Γ cs p2) (hG:Kg (Al Γ) ks (G s0 x0))
  (hd:dis (KD :: KL :: KT :: ks)=true) (hkl:∀ s x,ks.length=(G s x).length) (hΓt:∀ t e,Al Γt t=some e->Al Γ t=some e) (hz:Zfs Γt) (hKD:Al Γ KD=none) (hKL:Al Γ KL=none) (hKT:Al Γ KT=none)
  (hit:∀ (E:σ×Nat->Ent) [∀ s,Gh (E s)] (_:∀ s,∃ T:List Ent,E s=Pk λx=>T ++ G s.1 x) (l:Nat),(∀ x s r',gb x s=some r'->Cy P l (pe x) [E s] (Rz (λ_:Unit=>Va r'.1) λ_=>[E r'.2]))->Cg P f (p1 ++ ([Qv (yv l)] ++ p2)) [E (s0,0)] (Rz (λ_:Unit=>eo) λ_=>[E r]))
  (hbody:∀ (l fn D:Nat) (tm:Array Value) (htm:tm.size=n) (x:α) (s:σ×Nat) (r':Bool×(σ×Nat)),gb x s=some r'->Cy P l (pe x) [RE l fn D tm ps asx bd Γt js G s] (Rz (λ_:Unit=>Va r'.1) λ_=>[RE l fn D tm ps asx bd Γt js G r'.2]))
  (hafter:∀ (D:Nat) (a:Act) (w:World) (x:X),St (mf D M0) w0 n ((KD,Dk D) :: Hq ks (G r.1 x) Γ) a w->Aft P Q js r.2 a w) :
  (Code.rangeFunc g ps asx bd).wpIn (Fr none) 0 P Q a w:=by
 refine wpIn_rangeFunc λfn _=>?_;obtain ⟨d1,d2⟩:=Av hd;obtain ⟨d3,d4⟩:=Av d2;obtain ⟨d5,d6⟩:=Av d4;obtain ⟨M,φ,hs0⟩:=id hs;have htn:a.tmps.size=n:=hs0.sz
 -- the two blocks
 have hs1:St M0 w0 n ((KD,Dk w.heap.size) :: Γ) a (w.alloc (.deferred (some []))):=by
  unfold St;rw [Ai];exact hs0.newb λM'=>⟨rfl,World.alloc_heap_new _ _⟩
 obtain ⟨M1,φ1,hs1⟩:=hs1;have hs2:St M0 w0 n ((KL,Lr (w.heap.size + 1) (rcd fn w.heap.size a.tmps ps asx bd .ready none)) :: (KD,Dk w.heap.size) :: Γ) a ((w.alloc (.deferred (some []))).alloc (.loop (rcd fn w.heap.size a.tmps ps asx bd .ready none))):=by
  have:=hs1.newb (k:=KL) (e:=Lr (w.heap.size + 1) (rcd fn w.heap.size a.tmps ps asx bd .ready none)) (o:=.loop (rcd fn w.heap.size a.tmps ps asx bd .ready none)) λM'=>⟨by simp,by have:=World.alloc_heap_new (w.alloc (.deferred (some []))) (.loop (rcd fn w.heap.size a.tmps ps asx bd .ready none));simpa using this⟩;unfold St;rw [Ai];exact this
 obtain ⟨M2,φ2,hs2⟩:=hs2;have Eh:∀ t e,Al Γ t=some e->Al ((KL,Lr (w.heap.size + 1) (rcd fn w.heap.size a.tmps ps asx bd .ready none)) :: (KD,Dk w.heap.size) :: Γ) t=some e:=λt e he=>by
  have hne1:t≠KL:=λh=>by subst h;rw [hKL] at he;cases he
  have hne2:t≠KD:=λh=>by subst h;rw [hKD] at he;cases he
  rw [Ai,Ai];simp only [put,if_neg hne1,if_neg hne2];exact he
 have hs3:=hs2.add1 (k:=KT) (e:=Tm a.tmps Γt) (F:=[]) ⟨rfl,λt e he=>by
   have h5:=hs2.holds t e (Eh t e (hΓt t e he));have h6:=hz t e he h5;rw [h6] at h5;exact h5⟩ DH (λq hq=>by simp at hq) (λt _ _ q _ hq=>by simp at hq)
 rw [← Ai] at hs3;have kgΓ:∀ {ks:GY} {es:List Ent},(∀ k∈ks,k≠KT)->Kg (Al Γ) ks es->Kg (Al ((KT,Tm a.tmps Γt) :: (KL,Lr (w.heap.size + 1) (rcd fn w.heap.size a.tmps ps asx bd .ready none)) :: (KD,Dk w.heap.size) :: Γ)) ks es:=by
  intro ks
  induction ks with
  | nil=>intro es _ h;cases es with
   | nil=>exact trivial
   | cons=>exact h.elim
  | cons k ks ih=>
   intro es hne h;cases es with
   | nil=>exact h.elim
   | cons e es=>exact ⟨⟨by rw [Ai];simp only [put];rw [if_neg (hne k smp_)];exact Eh k e h.1.1,h.1.2⟩,ih (λq hq=>hne q (by simp [hq])) h.2⟩
 have hkg:Kg (Al ((KT,Tm a.tmps Γt) :: (KL,Lr (w.heap.size + 1) (rcd fn w.heap.size a.tmps ps asx bd .ready none)) :: (KD,Dk w.heap.size) :: Γ)) (KL :: KT :: ks) (Lr (w.heap.size + 1) (rcd fn w.heap.size a.tmps ps asx bd .ready none) :: Tm a.tmps Γt :: G s0 x0):=
  ⟨⟨by rw [Ai,Ai];simp only [put];rw [if_neg (Ne.symm (d3 KT smp_))];simp,inferInstance⟩,⟨by rw [Ai];simp [put],inferInstance⟩,kgΓ (λk hk=>d5 k hk) hG⟩
 obtain ⟨o1,o2,o3,o4⟩:=Kg.owns hs3 hkg d2;have rd0:∀ x e,Od Γ x e->Od ((KT,Tm a.tmps Γt) :: (KL,Lr (w.heap.size + 1) (rcd fn w.heap.size a.tmps ps asx bd .ready none)) :: (KD,Dk w.heap.size) :: Γ) x e:=λx e h ρ M w r=>h ρ M w ⟨λt e he=>r.tmp t e (by
   have hne1:t≠KT:=λh=>by subst h;rw [hKT] at he;cases he
   rw [Ai];simp only [put,if_neg hne1];exact Eh t e he),r.con,r.fn,r.bd⟩
 have rd3:=hs3.rd;have rdΓ:Rd (Al Γ) M2 ((w.alloc (.deferred (some []))).alloc (.loop (rcd fn w.heap.size a.tmps ps asx bd .ready none))) a.eval:=⟨λt e he=>rd3.tmp t e (by
   have hne1:t≠KT:=λh=>by subst h;rw [hKT] at he;cases he
   rw [Ai];simp only [put,if_neg hne1];exact Eh t e he),rd3.con,rd3.fn,rd3.bd⟩
 obtain ⟨_,_,hv⟩:=hg _ _ _ rdΓ;have hcg:=hit (λs=>RE (w.heap.size + 1) fn w.heap.size a.tmps ps asx bd Γt js G s) (λ_=>⟨[_,_],rfl⟩) (w.heap.size + 1) λx s r' hr=>hbody _ fn _ a.tmps htn x s r' hr;have how:Ju M2 ((w.alloc (.deferred (some []))).alloc (.loop (rcd fn w.heap.size a.tmps ps asx bd .ready none))) [RE (w.heap.size + 1) fn w.heap.size a.tmps ps asx bd Γt js G (s0,0)] ((KL :: KT :: ks).map (λt=>if t=KT then [] else φ2 t)).flatten:=
  ⟨_,[],by simp,λu=>⟨x0,o1⟩,rfl⟩
 have hcall:=hcg.2 (fs ++ ([yv (w.heap.size + 1)] ++ cs)) M2 _ _ hs3.bd ((h1 _ _ _ rdΓ).app (Nu.app (es:=[Qv (yv (w.heap.size + 1))]) ⟨⟨rfl,rfl⟩,trivial⟩ (h2 _ _ _ rdΓ))) how o2 (λk hk=>(o3 k hk).1);refine ⟨w.heap.size + 1,[mark w.heap.size],((w.alloc (.deferred (some []))).alloc (.loop (rcd fn w.heap.size a.tmps ps asx bd .ready none))),{ target:=.fn (.func f) cs.toArray,args:=fs.toArray ++ #[yv (w.heap.size + 1)] },((w.alloc (.deferred (some []))).alloc (.loop (rcd fn w.heap.size a.tmps ps asx bd .ready none))),f,(fs ++ ([yv (w.heap.size + 1)] ++ cs)).toArray,((w.alloc (.deferred (some []))).alloc (.loop (rcd fn w.heap.size a.tmps ps asx bd .ready none))),run_enterLoop_outer fn a.tmps ps asx bd,?_,λ_ _=>trivial,?_,Sw,Zy.2 (Calls.mono hcall ?_)⟩
 ·simp only [resolve,rangeCall,hv,Deferred.ofValue];simp [Act.eval,CN]
 ·have hc:=hcg.1;cases hf:P.funcs[f]? with
  | none=>simp [cal,hf] at hc
  | some fn=>
   simp only [cal,hf,CU,DV] at hc;simp only [invoke,callFunc,CM,run_program,CL,hf,hc.2];have h2:fn.body.isNone=false:=by simpa using hc.1
   have h3:fs.toArray ++ #[yv (w.heap.size + 1)] ++ cs.toArray=(fs ++ ([yv (w.heap.size + 1)] ++ cs)).toArray:=by
    apply Array.ext';simp
   rw [h2,h3];rfl
 ·rintro en w' ⟨v,Fq,rfl,hx,hnd,hF,_,hp,ho⟩;obtain ⟨Fa,Fb,hFab,hre,hFb⟩:=ho;have hFb:Fb=[]:=hFb;subst hFb;rw [D2] at hFab;subst hFab;obtain ⟨x,hox⟩:=hre undef;have hc:=hs3.called0 (js:=KL :: KT :: ks) hM hkg d2 hx hnd hF hox (by simp [hkl r.1 x]) d2 λk hk=>hk;obtain ⟨h5,h6⟩:=hc.putRec (K:=KL) (l:=w.heap.size + 1) (r:=rcd fn w.heap.size a.tmps ps asx bd (stj r.2) (jmp js r.2)) (r':=rcd fn w.heap.size a.tmps ps asx bd .exhausted (jmp js r.2)) (by rw [Bv,Ke];simp [put]);have hst:(rcd fn w.heap.size a.tmps ps asx bd (stj r.2) (jmp js r.2)).state≠.busy:=by
   show stj r.2≠.busy;cases r.2 <;> simp [stj]
  refine ⟨_,_,run_endLoop h5 hst,?_⟩;have:=hafter w.heap.size { a with defers:=[mark w.heap.size] ++ a.defers } _ x (St.marked (StF.less h6 λt e he=>?_))
  ·exact this
  ·have hn:∀ t,t≠KL->t≠KT->∀ {e},Al (Hq (KL :: KT :: ks) (Lr (w.heap.size + 1) (rcd fn w.heap.size a.tmps ps asx bd (stj r.2) (jmp js r.2)) :: Tm a.tmps Γt :: G r.1 x) ((KT,Tm a.tmps Γt) :: (KL,Lr (w.heap.size + 1) (rcd fn w.heap.size a.tmps ps asx bd .ready none)) :: (KD,Dk w.heap.size) :: Γ)) t=some e↔Hp ks (G r.1 x) (put KD (Dk w.heap.size) (Al Γ)) t=some e:=by
    intro t ht1 ht2 e;rw [Bv,Ke,Ke];have e1:∀ (g:Mp),put KL (Lr (w.heap.size + 1) (rcd fn w.heap.size a.tmps ps asx bd (stj r.2) (jmp js r.2))) (put KT (Tm a.tmps Γt) g) t=g t:=λg=>by simp only [put,if_neg ht1,if_neg ht2]
    rw [e1];have hg:∀ e,t ∉ ks->((Al ((KT,Tm a.tmps Γt) :: (KL,Lr (w.heap.size + 1) (rcd fn w.heap.size a.tmps ps asx bd .ready none)) :: (KD,Dk w.heap.size) :: Γ)) t=some e↔put KD (Dk w.heap.size) (Al Γ) t=some e):=λe _=>by
     rw [Ai,Ai,Ai];simp only [put,if_neg ht1,if_neg ht2]
    exact ⟨Dq (hkl r.1 x) (λe h=>(hg e h).1),Dq (hkl r.1 x) (λe h=>(hg e h).2)⟩
   rw [Ai] at he ⊢;simp only [put] at he;by_cases hD:t=KD
   ·rw [if_pos hD] at he;have ht1:t≠KL:=by rw [hD];exact Ne.symm (d1 KL smp_)
    have ht2:t≠KT:=by rw [hD];exact Ne.symm (d1 KT smp_)
    simp only [put,if_neg ht1];refine (hn t ht1 ht2).2 ?_;have hnk:t ∉ ks:=λh=>d1 t (by simp [h]) hD;have:∀ {ks:GY} {es:List Ent} {g:Mp},t ∉ ks->Hp ks es g t=g t:=by
     intro ks
     induction ks with
     | nil=>intro es g _;unfold Hp;rfl
     | cons k ks ih=>
      intro es g hk;cases es with
      | nil=>unfold Hp;rfl
      | cons e es=>
       unfold Hp;simp only [C7,not_or] at hk;simp only [put,if_neg hk.1];exact ih hk.2
    rw [this hnk];simp only [put,if_pos hD];exact he
   ·rw [if_neg hD] at he;have hsome:∀ K',Al Γ K'=none->K' ∉ ks->Al (Hq ks (G r.1 x) Γ) K'=none:=by
     intro K' h7 h8;rw [Bv];have:∀ {ks:GY} {es:List Ent} {g:Mp},K' ∉ ks->Hp ks es g K'=g K':=by
      intro ks
      induction ks with
      | nil=>intro es g _;unfold Hp;rfl
      | cons k ks ih=>
       intro es g hk;cases es with
       | nil=>unfold Hp;rfl
       | cons e es=>
        unfold Hp;simp only [C7,not_or] at hk;simp only [put,if_neg hk.1];exact ih hk.2
     rw [this h8];exact h7
    have ht1:t≠KL:=λh=>by subst h;rw [hsome t hKL (λhm=>d3 t (by simp [hm]) rfl)] at he;cases he
    have ht2:t≠KT:=λh=>by subst h;rw [hsome t hKT (λhm=>d5 t hm rfl)] at he;cases he
    simp only [put,if_neg ht1];refine (hn t ht1 ht2).2 ?_;rw [Bv] at he;exact Dq (hkl r.1 x) (λe _ h=>by simp only [put,if_neg hD];exact h) he
theorem lvm {K:Fm} {fn:Func} {R:Ending->World->Prop} {tm:Array Value} {ds:List Deferred} {D KD:Nat} (hs:St (mf D K) w0 n Γ a w) (hk:Al Γ KD=some (Dk D)) (htm:a.tmps=tm) (hds:a.defers=ds)
  (h:∀ a w,a.tmps=tm->St K w0 n ((KD,Dd) :: Γ) a w->LeavesInM (Fr none) 0 P fn tm R a.defers .returning w):LeavesInM (Fr none) 0 P fn tm R ds .returning w:=by
 obtain ⟨M,φ,h0⟩:=hs;have hdf:=h0.df;rw [hds] at hdf;subst hdf;obtain ⟨hF,hc⟩:=h0.holds KD _ hk;have hlt:=(CQ.1 hc).1;refine ⟨by simp,.inl ⟨D,_,rfl,run_takeDeferred hc,?_⟩⟩;refine h { a with defers:=K.ds } _ htm ?_;have hx:Ext (λk=>k=D) w (w.putObj D (.deferred none)):=⟨rfl,rfl,rfl,by simp,λq _ hq=>World.putObj_heap_other hq,C5 _⟩;have hko:=h0.own KD (by rw [hk];rfl);have hDF:D∈φ KD:=by rw [hF];simp
 refine ⟨M,λt=>if t=KD then [] else φ t,λt e he=>?_,λt ht=>?_,λt s hts ht hs=>?_,h0.sub,λk hk=>DE (h0.bd k hk) hx.size,?_,h0.sz,rfl⟩
 ·rw [Ai] at he;unfold put at he;by_cases h3:t=KD
  ·subst h3;simp only [if_true,Option.some.injEq] at he ⊢;subst he;rfl
  ·simp only [if_neg h3] at he ⊢;refine Ent.st _ (h0.holds t e he) (hx.mono λk _ hk'=>?_);subst hk';exact ⟨(hko.2 _ hDF).1,λhm=>h0.apart t KD h3 (by rw [he];rfl) (by rw [hk];rfl) _ hm hDF⟩
 ·rw [Ai] at ht;unfold put at ht;by_cases h3:t=KD
  ·simp [h3]
  ·simp only [if_neg h3] at ht ⊢;exact h0.own t ht
 ·rw [Ai] at ht hs;unfold put at ht hs;by_cases h3:t=KD
  ·simp [h3]
  ·by_cases h4:s=KD
   ·simp [h4]
   ·simp only [if_neg h3,if_neg h4] at ht hs ⊢;exact h0.apart t s hts ht hs
 ·have hD2:=(hko.2 _ hDF).2;exact ⟨hx.os.trans h0.fr.os,hx.tape.trans h0.fr.tape,hx.output.trans h0.fr.output,DS h0.fr.size hx.size,λk hk hb=>
   (hx.block k (DE hk h0.fr.size) (λe=>by subst e;exact hD2.elim (λh=>absurd hk om_) hb)).trans (h0.fr.block k hk hb),DS h0.fr.dr hx.dr⟩
theorem rfn {g:Operand} {ps:Array Tmp} {asx bd:Code} {f:FuncId} {fs cs:GZ} {p1 p2:List Ent} {α X σ:Type} {pe:α->List Ent} {eo:Ent} {gb:α->σ×Nat->Option (Bool×(σ×Nat))} {r:σ×Nat} (Γt:Cx) (js:List Code) (G:σ->X->List Ent) (s0:σ) (x0:X) (KD KL KT:Nat) (ks:GY)
  (hM:Bd M0 w0) (hs:St M0 w0 n Γ a w) (hg:Od Γ g (Qv (fv f fs cs))) (h1:Vdl Γ fs p1) (h2:Vdl Γ cs p2) (hG:Kg (Al Γ) ks (G s0 x0))
  (hd:dis (KD :: KL :: KT :: ks)=true) (hkl:∀ s x,ks.length=(G s x).length) (hΓt:∀ t e,Al Γt t=some e->Al Γ t=some e) (hz:Zfs Γt) (hKD:Al Γ KD=none) (hKL:Al Γ KL=none) (hKT:Al Γ KT=none)
  (hit:∀ (E:σ×Nat->Ent) [∀ s,Gh (E s)] (l:Nat),(∀ x s r',gb x s=some r'->Cy P l (pe x) [E s] (Rz (λ_:Unit=>Va r'.1) λ_=>[E r'.2]))->Cg P f (p1 ++ ([Qv (yv l)] ++ p2)) [E (s0,0)] (Rz (λ_:Unit=>eo) λ_=>[E r]))
  (hbody:∀ (l fn D:Nat) (tm:Array Value) (htm:tm.size=n) (x:α) (s:σ×Nat) (r':Bool×(σ×Nat)),gb x s=some r'->Cy P l (pe x) [RE l fn D tm ps asx bd Γt js G s] (Rz (λ_:Unit=>Va r'.1) λ_=>[RE l fn D tm ps asx bd Γt js G r'.2]))
  (hafter:∀ (D:Nat) (a:Act) (w:World) (x:X),St (mf D M0) w0 n ((KD,Dk D) :: Hq ks (G r.1 x) Γ) a w->Aft P Q js r.2 a w) :
  (Code.rangeFunc g ps asx bd).wpIn (Fr none) 0 P Q a w:=
 rfo Γt js G s0 x0 KD KL KT ks hM hs hg h1 h2 hG hd hkl hΓt hz hKD hKL hKT (λE _ _ l h=>hit E l h) hbody hafter
end
end Go.Pn
namespace Go.Pn
open Go Go.RowKit Go.Proofs
section
variable {P:Program} {M0:Fm} {w0:World} {n:Nat} {Γ:Cx} {Q:Exit->Act->World->Prop} {a:Act} {w:World} {ty:TypeId}
theorem lnm {κ ν:Type} [Rep κ] [Rep ν] [FV κ] [FV ν] {T K E KK:Nat} {x:Operand} {r:Nat} {m:List (κ×ν)} (hx:Od Γ x (Qv (.map (some r)))) (hk:Al Γ KK=some (Om r m)) (hT:Qk P T=some (K,E)):OR P (.call { callee:=.builtin .len,args:=#[x],argTypes:=#[T] }) ty Γ (Va (m.length:Int)):=by
 refine OR.val λρ M w rd=>?_;obtain ⟨_,_,hv⟩:=hx ρ M w rd;obtain ⟨_,_,es,cl,hc,hm⟩:=rd.tmp _ _ hk;have hg:(getObj r).run P w=.ok (.map es cl) w:=MapKept.run_getObj_map hc;have hl:es.size=m.length:=by
  have:=congrArg List.length hm;simpa using this
 refine ⟨.int .i64 m.length,λ_ _ _ _=>?_,Va.mkInt⟩;simp [execOp,hg,hl,resolve,hv,invoke,builtin,Builtin.len_,run_underlying (Gv hT),goInt]
def Rw (cs:GZ):Ent where
 p F M w v:=F=[]/\∃ b,v=.slice (some ⟨b,0,none⟩) cs.length cs.length/\Cls M w b 0 cs
 st h e:=let ⟨hF,b,hv,hc⟩:=h;⟨hF,b,hv,hc.ext (e.mono λ_ _ h=>h.1)⟩
 sb h s:=let ⟨hF,b,hv,hc⟩:=h;⟨hF,b,hv,hc.sub s⟩
theorem bsw {T e:Nat} {β:Type} [Rep β] [he:Ea P T e (List β)] {xs:List Operand} {cs:GZ} {parts:Array (Nat×Operand)} {len:Nat}
  (h:Cdl Γ xs cs) (hp:parts.toList=prt 0 xs) (hl:cs.length=len) (hs:Nat.ble len 16777216=true):OR P (.buildSlice T len parts) ty Γ (Rw cs):=by
 refine OR.run λρ M w r=>?_;obtain ⟨h1,h2,h3⟩:=h.map r;obtain ⟨i,z,hi,hz,hsz,hb,hzs⟩:=he.inf;have hsz:i.size=1:=hsz;have hs':=CR hs;have hrun:(Instr.buildSlice T len (parts.map λ(i,x)=>(i,ρ x))).run P w=.ok (.slice (some ⟨w.heap.size,0,none⟩) len len) (w.alloc (.cells cs.toArray e)):=by
  have hpm:(parts.map λ(i,x)=>(i,ρ x)).toList=prt 0 (xs.map ρ):=by
   rw [EM,hp];have:∀ (l:List Operand) (k:Nat),List.map (λ(x:Nat×Operand)=>(x.1,ρ x.2)) (prt k l)=prt k (l.map ρ):=by
    intro l
    induction l with
    | nil=>intro k;rfl
    | cons x l ih=>intro k;simp [prt,ih]
   exact this xs 0
  have hfl2:(cs.map λc=>[c]).flatten=cs:=by
   clear hpm h h1 h2 h3 hl
   induction cs with
   | nil=>rfl
   | cons c cs ih=>simp [ih]
  have hfl:∀ zz:GZ,zz.length=len * 1->Instr.fill (λi=>some (i * 1,1)) zz.toArray (prt 0 (xs.map ρ))=some cs.toArray:=by
   intro zz hzz;rw [h1];have hfl:=Hm (sz:=1) (vs:=cs) (cs:=cs.map λc=>[c]) (z:=zz) (k:=0) (Oz h2) om_;rw [hfl2] at hfl;simp only [ED,EH,GC,F6,FH] at hfl;rw [CW om_,D2] at hfl;simpa using hfl
  have hnot:¬ (len * 1 > 2 ^ 24):=by omega
  simp only [Instr.buildSlice,CM,run_underlying he.el,CL,sizeOf,typeInfo,run_program,hi,CN,hsz];rw [if_neg hnot];simp only [hpm];by_cases h0:len * 1=0
  ·have hz0:(Array.map (λx=>(#[]:Array Value)[x % (#[]:Array Value).size]!) (Array.range (len * 1)))=([]:GZ).toArray:=by rw [h0];simp
   rw [if_pos h0];simp only [CM,CN,CL,hz0];rw [hfl [] (by rw [h0];rfl)];rfl
  ·have hz1:(Array.map (λx=>z.cells[x % z.cells.size]!) (Array.range (len * 1)))=((Array.map (λx=>z.cells[x % z.cells.size]!) (Array.range (len * 1))).toList).toArray:=GG.symm;rw [if_neg h0];simp only [zeroValue,CM,typeInfo,run_program,hi,hz,CN,CL];rw [hz1,hfl _ smp_];rfl
 refine ⟨.slice (some ⟨w.heap.size,0,none⟩) len len,w.alloc (.cells cs.toArray e),λ_ _ _ _=>by simp only [execOp,CM,GL,hrun,CL,CN],Ext.alloc _ _ _,[],DH,λk hk=>by simp at hk,rfl,w.heap.size,by rw [hl],λj v hj=>⟨λhm=>?_,?_⟩⟩
 ·rcases hm with hm | hm
  ·exact absurd (r.bd _ hm) om_
  ·simp at hm
 ·have:(w.alloc (.cells cs.toArray e)).heap[w.heap.size]?=some (.cells cs.toArray e):=heap_alloc_new w _;unfold World.cell?;rw [this];simpa using hj
def Rpl (Γ:Cx) {β:Type} [Rep β]:GZ->List (List β)->Prop
 | [],[]=>True
 | c :: cs,x :: xs=>Rp Γ [c] x/\Rpl Γ cs xs
 | _,_=>False
theorem rl0 {β:Type} [Rep β]:Rpl Γ [] ([]:List (List β)):=trivial
theorem rl1 {β:Type} [Rep β] {c:Value} {cs:GZ} {x:List β} {xs:List (List β)} (h:Rp Γ [c] x) (r:Rpl Γ cs xs):Rpl Γ (c :: cs) (x :: xs):=⟨h,r⟩
theorem Rpl.chk {β:Type} [Rep β] {ρ:Operand->Value} {M:Nat->Prop} {w:World} (rd:Rd (Al Γ) M w ρ):∀ {cs:GZ} {xs:List (List β)},Rpl Γ cs xs->Chk M w cs xs/\xs.length=cs.length
 | [],[],_=>⟨rfl,rfl⟩
 | c :: cs,x :: xs,⟨h,r⟩=>by
  obtain ⟨h1,h2⟩:=r.chk rd;exact ⟨⟨[c],cs,rfl,h ρ M w rd,h1⟩,by simp [h2]⟩
 | [],_ :: _,h=>h.elim
 | _ :: _,[],h=>h.elim
theorem rwd {β:Type} [Rep β] {x:Operand} {cs:GZ} {xss:List (List β)} (hx:Od Γ x (Rw cs)) (h:Rpl Γ cs xss):Od Γ x (Va xss):=λρ M w r=>by
 obtain ⟨_,_,b,hv,hc⟩:=hx ρ M w r;obtain ⟨h1,h2⟩:=h.chk r;exact ⟨[],by rw [hv,← h2];exact Va.mkList ⟨_,0,by rw [ED],.inr ⟨b,0,rfl,h1.row hc⟩⟩⟩
@[reducible] def Sm {α β:Type} (r:α ⊕ β) (E0:α->Ent) (E1:β->Ent):Ent:=match r with | .inl a=>E0 a | .inr b=>E1 b
end
end Go.Pn
namespace Go.Pn
open Go Go.RowKit
variable {rr:Option Nat}
section
variable {P:Program} {M0:Fm} {w0:World} {n:Nat} {Γ:Cx} {Q:Exit->Act->World->Prop} {a:Act} {w:World} {ty:TypeId}
def Cda (Γ:Cx):List Operand->List GZ->Prop
 | [],[]=>True
 | x :: xs,c :: cs=>Od Γ x (Qa c)/\Cda Γ xs cs
 | _,_=>False
theorem ca0:Cda Γ [] []:=trivial
theorem ca1 {x:Operand} {c:GZ} {xs:List Operand} {cs:List GZ} (h:Od Γ x (Qa c)) (r:Cda Γ xs cs):Cda Γ (x :: xs) (c :: cs):=⟨h,r⟩
theorem Cda.map {ρ:Operand->Value} {M:Nat->Prop} {w:World} (rd:Rd (Al Γ) M w ρ):∀ {xs:List Operand} {cs:List GZ},Cda Γ xs cs->xs.map ρ=cs.map (λc=>.agg c.toArray)/\(∀ c∈cs.flatten,c.oneCell'=true)/\xs.length=cs.length
 | [],[],_=>⟨rfl,λc hc=>by simp at hc,rfl⟩
 | _ :: _,_ :: _,⟨h,r⟩=>by
  obtain ⟨_,_,hv,h1⟩:=h ρ M w rd;obtain ⟨r1,r2,r3⟩:=r.map rd;refine ⟨by rw [CZ,hv,r1];rfl,λc hc=>?_,by simp [r3]⟩;rw [GU] at hc;rcases CY.1 hc with hc | hc
  ·exact h1 c hc
  ·exact r2 c hc
theorem Uw {sz:Nat}:∀ {cs:List GZ},(∀ c∈cs,c.length=sz)->LitC sz (cs.map λc=>.agg c.toArray) cs
 | [],_=>trivial
 | c :: cs,h=>⟨rfl,h c (DW ..),Uw λd hd=>h d (DR _ hd)⟩
theorem blyA {T e:Nat} {len sz:Nat} {parts:Array (Nat×Operand)} {xs:List Operand} {css:List GZ} {cs z:GZ} (hp:parts.toList=prt 0 xs) (h:Cda Γ xs css) (hT:P.underlying T=some (.array len e)) (hz:(P.info? T).map (·.zero)=some (some (.agg z.toArray))) (he:(P.info? e).map (·.size)=some sz) (hl:z.length=css.length * sz)
  (hs:css.all (λc=>c.length == sz)=true) (hcs:css.flatten=cs) :
  OR P (.build T parts) ty Γ (Qa cs):=by
 refine OR.val λρ M w r=>?_;obtain ⟨h1,h2,h3⟩:=h.map r;refine ⟨.agg cs.toArray,λ_ _ _ _=>?_,rfl,rfl,by rw [← hcs];exact h2⟩;cases hi:P.info? T with
 | none=>simp [hi] at hz
 | some i=>
  cases hie:P.info? e with
  | none=>simp [hie] at he
  | some ie=>
   simp only [hi,hie,DG,Option.some.injEq] at hz he;have hpm:(parts.map λ(i,x)=>(i,ρ x)).toList=prt 0 (css.map λc=>.agg c.toArray):=by
    rw [EM,hp];have:∀ (l:List Operand) (k:Nat),List.map (λ(x:Nat×Operand)=>(x.1,ρ x.2)) (prt k l)=prt k (l.map ρ):=by
     intro l
     induction l with
     | nil=>intro k;rfl
     | cons x l ih=>intro k;simp [prt,ih]
    rw [← h1];exact this xs 0
   have hsz:∀ c∈css,c.length=sz:=λc hc=>by simpa using C1.1 hs c hc
   have hfl:=Hm (sz:=sz) (vs:=css.map λc=>.agg c.toArray) (cs:=css) (z:=z) (k:=0) (Uw hsz) (by simp [hl]);simp only [ED,GC,F6,FH,EA] at hfl;rw [CW om_,D2,hcs] at hfl;simp only [execOp,Instr.build,zeroValue,typeInfo,CM,run_program,CL,hi,CN,hz,run_underlying hT,sizeOf,hie,he,Value.cells,hpm];rw [hfl];rfl
theorem AW {T sz:TypeId} {xs:Array Value} {o:Nat} {w:World} (h:(P.underlying T).map By=some true) (hs:(P.info? T).map (·.size)=some sz):(part T xs o).run P w=.ok (.agg (xs.extract o (o + sz))) w:=by
 have hr:(sizeOf T).run P w=.ok sz w:=by
  cases hie:P.info? T with
  | none=>simp [hie] at hs
  | some i=>simp [hie] at hs;simp [sizeOf,typeInfo,hie,hs]
 simp only [part,CM,Ty.run_agg h,CL];simp [hr]
theorem aixA {T e len sz:Nat} {x i:Operand} {m:Int} {j:Nat} {cs:GZ} {cols:List GZ} (h:Od Γ x (Qa cs)) (hi:Od Γ i (Va m)) (hT:P.underlying T=some (.array len e)) (he:(P.info? e).map (·.size)=some sz) (ha:(P.underlying e).map By=some true)
  (hc:((List.range len).map λk=>(cs.drop (k * sz)).take sz)=(List.range len).map λk=>cols.map (Mh k)) (hy:idx (List.range len) m=some j):OR P (.index T x i) ty Γ (Qa (cols.map (Mh j))):=by
 refine OR.val λρ M w r=>?_;obtain ⟨_,_,hv,h1⟩:=h ρ M w r;obtain ⟨_,h2⟩:=hi ρ M w r;obtain ⟨hjl,h0,hlt,hj⟩:=idxr hy;have hr:(sizeOf e).run P w=.ok sz w:=by
  cases hie:P.info? e with
  | none=>simp [hie] at he
  | some i=>simp [hie] at he;simp [sizeOf,typeInfo,hie,he]
 have hcj:(cs.drop (j * sz)).take sz=cols.map (Mh j):=by
  have:=congrArg (λl=>l[j]?) hc;simpa [C8,D4 hjl] using this
 have hp:=AW (P:=P) (xs:=cs.toArray) (o:=j * sz) (w:=w) ha he;refine ⟨.agg (cs.toArray.extract (j * sz) (j * sz + sz)),λ_ _ _ _=>?_,rfl,?_,?_⟩
 ·simp only [execOp,hv,Va.int h2,Instr.index,CM,asIntOf,CN,CL,run_underlying hT];simp [h0,hlt,hr,hj,hp]
 ·rw [← hcj];congr 1;simp [List.extract_eq_take_drop]
 ·rw [← hcj];exact λc hc=>h1 c (GJ (FU hc))
theorem qsi {x:Operand} {j:Nat} {cs:GZ} {xs:GW} (h:Od Γ x (Qv (Mh j cs))) (hc:cs=xs.map λz=>.int .i64 z) (hj:j < xs.length):Od Γ x (Va (xs.getD j 0)):=λρ M w r=>by
 obtain ⟨F,hF,hv⟩:=h ρ M w r;refine ⟨F,hF,[.int .i64 (xs.getD j 0)],?_,rfl⟩;rw [hv,hc];simp [Mh,hj,mk]
theorem fldq {S k off:Nat} {x:Operand} {cs:GZ} {c:Value} (h:Od Γ x (Qa cs)) (hf:(match P.underlying S with | some (.struct fs)=>(fs[k]?).map λf=>(f.offset,(P.underlying f.type).map By) | _=>none)=some (off,some false)) (hc:cs[off]?=some c):OR P (.field S x k) ty Γ (Qv c):=by
 refine OR.val λρ M w r=>?_;obtain ⟨_,_,hv,_⟩:=h ρ M w r;refine ⟨c,λ_ _ _ _=>?_,rfl,rfl⟩;cases hu:P.underlying S with
 | none=>simp [hu] at hf
 | some d=>
  cases d with
  | struct fs=>
   simp only [hu] at hf;cases hk:fs[k]? with
   | none=>simp [hk] at hf
   | some f=>
    simp only [hk,DG,Option.some.injEq,Prod.mk.injEq] at hf;obtain ⟨h1,h2⟩:=hf;subst h1;have hp:=Bg (P:=P) (T:=f.type) (xs:=cs.toArray) (o:=f.offset) (v:=c) (w:=w) h2 (by simpa using hc);simp only [execOp,hv,Instr.field,CM,run_underlying hu,CL,hk,asAgg,CN,hp]
  | _=>simp [hu] at hf
end
end Go.Pn
namespace Go.Pn
open Go Go.RowKit
variable {rr:Option Nat}
def cpl {α:Type} (xs:List α) (lo hi:Nat) (ys:List α):List α:=xs.take lo ++ (ys.take (min (hi - lo) ys.length) ++ xs.drop (lo + min (hi - lo) ys.length))
def lsr (lo hi len:Int):Option (Nat×Nat):=if 0<=lo/\lo<=hi/\hi<=len then some (lo.toNat,hi.toNat) else none
def Sbp (c:Value) (lo hi:Nat):Ent where
 p F _ _ v:=F=[]/\lo<=hi/\∃ A len cap cap',c=.slice A len cap/\hi<=len/\((lo=hi/\∃ A',v=.slice A' 0 cap')\/∃ g,A=some ⟨g,0,none⟩/\v=.slice (some ⟨g,lo,none⟩) (hi - lo) (cap' + (hi - lo)))
 st h _:=h
 sb h _:=h
section
variable {P:Program} {M0:Fm} {w0:World} {n:Nat} {Γ:Cx} {Q:Exit->Act->World->Prop} {a:Act} {w:World} {ty:TypeId}
theorem Ow.num {e:Nat} {c:Value} {xs:GW} {F:GY} {M:Nat->Prop} {w:World} {v:Value} (h:(Ow e c xs).p F M w v) :
  (xs=[]/\∃ A cap,c=.slice A 0 cap)\/∃ g cap cur,F=[g]/\c=.slice (some ⟨g,0,none⟩) xs.length cap/\w.heap[g]?=some (.cells cur e (0,0))/\xs.length<=cap/\cap<=maxLen/\cur.size=cap/\cur.toList.take xs.length=xs.map (Value.int .i64):=by
 obtain ⟨hF,cs,ho,hc⟩ | ⟨hF,rfl,g,rfl⟩:=h
 case inr=>exact .inl ⟨rfl,_,_,rfl⟩
 have hcs:cs=xs.map (Value.int .i64):=by
  clear ho
  induction xs generalizing cs with
  | nil=>exact hc
  | cons x xs ih=>
   obtain ⟨c1,d,h1,h2,h3⟩:=hc;have h2:c1=[.int .i64 x]:=h2;subst h2 h1;rw [ih _ h3];rfl
 rcases ho.2 with ⟨rfl,h0⟩ | ⟨g,cap,cur,rfl,_,hg,hle,hcap,hsz,htk⟩
 ·exact .inl ⟨List.eq_nil_of_length_eq_zero h0,none,0,rfl⟩
 ·refine .inr ⟨g,cap,cur,by rw [hF];rfl,rfl,hg,hle,hcap,by rw [hsz];exact EH _,?_⟩;rw [← hcs,← htk];show _=cur.toList.take (xs.length * 1);rw [EH]
theorem Ow.mkNum {e g cap:Nat} {cur:Array Value} {xs:GW} {M:Nat->Prop} {w:World} {v:Value} (hg:w.heap[g]?=some (.cells cur e (0,0))) (hle:xs.length<=cap) (hcap:cap<=maxLen) (hsz:cur.size=cap) (ht:cur.toList.take xs.length=xs.map (Value.int .i64)) :
  (Ow e (.slice (some ⟨g,0,none⟩) xs.length cap) xs).p [g] M w v:=by
 refine .inl ⟨rfl,xs.map (Value.int .i64),⟨by rw [EA];exact (EH _).symm,.inr ⟨g,cap,cur,rfl,EP _,hg,hle,hcap,by rw [hsz];exact (EH _).symm,?_⟩⟩,?_⟩
 ·show cur.toList.take (xs.length * 1)=_;rw [EH];exact ht
 ·clear hle ht
  induction xs with
  | nil=>rfl
  | cons x xs ih=>exact ⟨[.int .i64 x],_,rfl,rfl,ih⟩
theorem sbg {T e:TypeId} {x:Operand} {lo hi:Option Operand} {c:Value} {k:Nat} {xs:GW} {l h:Int} {r:Nat×Nat} (he:P.underlying T=some (.slice (P.elem T))) (hs:(P.info? (P.elem T)).map (·.size)=some 1) (hx:Od Γ x (Qv c)) (hk:Al Γ k=some (Ow e c xs))
  (hb:(lo=none/\l=0/\∃ y,hi=some y/\Od Γ y (Va h))\/(∃ y,lo=some y/\Od Γ y (Va l)/\hi=none/\h=xs.length)) (hr:lsr l h xs.length=some r):OR P (.slice T x lo hi none) ty Γ (Sbp c r.1 r.2):=by
 unfold lsr at hr;split at hr
 case isFalse=>cases hr
 rename_i hc;obtain rfl:=Option.some.inj hr;refine OR.val λρ M w rd=>?_;obtain ⟨_,_,hv⟩:=hx ρ M w rd;obtain ⟨F,hp⟩:=rd.tmp _ _ hk;obtain ⟨ad,cap,hcv,hcc⟩:∃ ad cap,c=.slice ad xs.length cap/\(xs=[]\/∃ g,ad=some ⟨g,0,none⟩/\xs.length<=cap):=by
  rcases Ow.num hp with ⟨h0,A,cap,hA⟩ | ⟨g,cap,cur,_,h1,_,h2,_⟩
  ·exact ⟨A,cap,by rw [hA,h0];rfl,.inl h0⟩
  ·exact ⟨_,cap,h1,.inr ⟨g,rfl,h2⟩⟩
 have hsz:∀ w,(sizeOf (P.elem T)).run P w=.ok 1 w:=λw=>by
  cases hie:P.info? (P.elem T) with
  | none=>simp [hie] at hs
  | some i=>simp [hie] at hs;simp [sizeOf,typeInfo,hie,hs]
 refine ⟨sliced ad l.toNat h.toNat cap 1,λ_ _ _ _=>?_,?_⟩
 ·rcases hb with ⟨rfl,rfl,y,rfl,hy⟩ | ⟨y,rfl,hy,rfl,rfl⟩
  ·obtain ⟨_,hy2⟩:=hy ρ M w rd;have hle:h<=cap:=by
    rcases hcc with h0 | ⟨_,_,h2⟩
    ·rw [h0] at hc;simp at hc;omega
    ·omega
   have:=run_slice_h w T ad xs.length cap he .i64 h hc.2.1 hle;simp only [execOp,hv,hcv,E6,DG,Va.int hy2,CM];rw [run_sliceAt_slice _ _ _ _ _ _ he,this,hsz];try rfl
  ·obtain ⟨_,hy2⟩:=hy ρ M w rd;have:=run_slice_l w T ad xs.length cap he .i64 l hc.1 hc.2.1;simp only [execOp,hv,hcv,E6,DG,Va.int hy2,CM];rw [run_sliceAt_slice _ _ _ _ _ _ he,this,hsz];try simp
 ·refine ⟨rfl,by show l.toNat<=h.toNat;omega,ad,xs.length,cap,cap - h.toNat,hcv,by show h.toNat<=_;omega,?_⟩;rcases hcc with h0 | ⟨g,rfl,h2⟩
  ·have:(xs.length:Int)=0:=by rw [h0];rfl
   have h3:l.toNat=0:=by omega
   have h4:h.toNat=0:=by omega
   exact .inl ⟨by show l.toNat=h.toNat;omega,_,by unfold sliced;rw [h3,h4]⟩
  ·by_cases hl:l.toNat=h.toNat
   ·exact .inl ⟨hl,_,by unfold sliced;rw [hl,Nat.sub_self]⟩
   ·refine .inr ⟨g,rfl,?_⟩;unfold sliced;rw [if_neg om_];simp [Bj];omega
theorem run_cp0 {T T':TypeId} {A:Option Addr} {dl dc:Nat} {y:Value} (he:P.underlying T=some (.slice (P.elem T))) (hs:(P.info? (P.elem T)).map (·.size)=some 1) {M:Nat->Prop} {ys:GW} (hy:Sl M w y ys) (h0:min dl ys.length=0) :
  (Builtin.copy_ #[T,T'] ty #[.slice A dl dc,y]).run P w=.ok (goInt 0) w:=by
 obtain ⟨a,cap,rfl,hs'⟩:=hy;cases hie:P.info? (P.elem T) with
 | none=>simp [hie] at hs
 | some i=>
  have hi:i.size=1:=by simpa [hie] using hs
  have h1:Nat.min ys.length dl=0:=by rw [Nat.min_comm] at h0;exact h0
  cases a <;> cases A <;> simp [Builtin.copy_,run_underlying he,Builtin.lenOf,Builtin.firstCells,sizeOf,typeInfo,hie,hi,h1,storeCells,loadCells,loadCellsFrom]
theorem cp_take {xs ys:GW} {lo hi cap:Nat} {cur:Array Value} (hlo:lo<=hi) (hhi:hi<=xs.length) (hle:xs.length<=cap) (hsz:cur.size=cap) (ht:cur.toList.take xs.length=xs.map (Value.int .i64)) :
  ((cur.toList.take lo ++ (ys.take (min (hi - lo) ys.length)).map (Value.int .i64) ++ cur.toList.drop (lo + ((ys.take (min (hi - lo) ys.length)).map (Value.int .i64)).length)).toArray.toList.take xs.length)=(cpl xs lo hi ys).map (Value.int .i64):=by
 have hm:((ys.take (min (hi - lo) ys.length)).map (Value.int .i64)).length=min (hi - lo) ys.length:=by rw [EA,D0];omega
 rw [hm];simp only [cpl];generalize hmm:min (hi - lo) ys.length=m;have hm2:m<=hi - lo:=by omega
 have hm4:m<=ys.length:=by omega
 have hcl:cur.toList.length=cap:=by simp [hsz]
 have hA:(cur.toList.take lo).length=lo:=by rw [D0];omega
 have hB:((ys.take m).map (Value.int .i64)).length=m:=by rw [EA,D0];omega
 have hC:(xs.take lo).length=lo:=by rw [D0];omega
 have hD:(ys.take m).length=m:=by rw [D0];omega
 have e1:cur.toList.take lo=(xs.take lo).map (Value.int .i64):=by
  rw [List.map_take,← ht,List.take_take,Nat.min_eq_left om_]
 have e2:(cur.toList.drop (lo + m)).take (xs.length - (lo + m))=(xs.drop (lo + m)).map (Value.int .i64):=by
  rw [List.map_drop,← ht,List.drop_take]
 show List.take xs.length (cur.toList.take lo ++ (ys.take m).map (Value.int .i64) ++ cur.toList.drop (lo + m))=_;rw [List.take_append,CO,hA,hB,e2,DY (by rw [CO,hA,hB];omega),e1];simp [List.map_append]
theorem cpl_len {xs ys:GW} {lo hi:Nat} (hlo:lo<=hi) (hhi:hi<=xs.length):(cpl xs lo hi ys).length=xs.length:=by
 simp [cpl];omega
theorem run_cp {T T':TypeId} {e g cap lo hi dc:Nat} {cur:Array Value} {xs ys:GW} {A2:Option Addr} {c2:Nat} (he:P.underlying T=some (.slice (P.elem T))) (hs:(P.info? (P.elem T)).map (·.size)=some 1)
  (hg:w.heap[g]?=some (.cells cur e (0,0))) (hle:xs.length<=cap) (hsz:cur.size=cap) (hlo:lo<=hi) (hhi:hi<=xs.length) (hm:min (hi - lo) ys.length≠0) (hsrc:∃ b o,A2=some ⟨b,o,none⟩/\∀ (j:Nat) y,ys[j]?=some y->w.cell? ⟨b,o + j,none⟩=some (.int .i64 y)) :
  (Builtin.copy_ #[T,T'] ty #[.slice (some ⟨g,lo,none⟩) (hi - lo) dc,.slice A2 ys.length c2]).run P w =
   .ok (goInt ((min (hi - lo) ys.length:Nat):Int)) (w.setRow g (cur.toList.take lo ++ (ys.take (min (hi - lo) ys.length)).map (Value.int .i64) ++ cur.toList.drop (lo + ((ys.take (min (hi - lo) ys.length)).map (Value.int .i64)).length)).toArray):=by
 obtain ⟨b,o,rfl,hsrc⟩:=hsrc;have hl:((ys.take (min (hi - lo) ys.length)).map (Value.int .i64)).length=min (hi - lo) ys.length:=by rw [EA,D0];omega
 have:=run_copy_row (P:=P) w T T' ty (P.elem T) g lo (hi - lo) dc ⟨b,o,none⟩ ys.length c2 cur e ((ys.take (min (hi - lo) ys.length)).map (Value.int .i64)) he hs hg (by rw [hl];exact Nat.min_comm _ _) (λj v hj=>by
   rw [C8] at hj;obtain ⟨y,hy,rfl⟩:=E5.1 hj;rw [Bj];refine hsrc j y ?_;rw [GR] at hy;split at hy
   ·exact hy
   ·cases hy) (by rw [hl];omega) (λv hv=>by obtain ⟨y,_,rfl⟩:=ET.1 hv;rfl)
 rw [this,hl]
theorem cpG {ops:Array Oper} {rest:List Oper} {T T' e k d:Nat} {x y:Operand} {pos:String} {aft:Array Edge} {c:Value} {lo hi:Nat} {xs ys:GW}
  (he:P.underlying T=some (.slice (P.elem T))) (hs1:(P.info? (P.elem T)).map (·.size)=some 1) (hs:St M0 w0 n Γ a w) (hx:Od Γ x (Sbp c lo hi)) (hk:Al Γ k=some (Ow e c xs))
  (hy:∀ F M,(Ow e c xs).p F M w undef->(∀ ρ,Rd (Al Γ) M w ρ->Sl No w (ρ y) ys\/Sl M w (ρ y) ys)) (hn:Nat.blt d n=true) (hdk:Nat.beq d k=false)
  (cont:∀ a' w',St M0 w0 n ((d,Va ((min (hi - lo) ys.length:Nat):Int)) :: (k,Ow e c (cpl xs lo hi ys)) :: Γ) a' w'->wpListIn (Fr rr) 0 P ops Q rest a' w') :
  wpListIn (Fr rr) 0 P ops Q (⟨some d,.call { callee:=.builtin .copy,args:=#[x,y],argTypes:=#[T,T'] },ty,pos,aft,none⟩ :: rest) a w:=by
 refine wpListIn_plain rfl λK hK=>?_;obtain ⟨M,φ,h⟩:=hs;obtain ⟨_,_,hlh,A,len,cap,cap',hc,hhl,hv⟩:=hx _ _ _ h.rd;have hp:=h.holds k _ hk;have hgh:(Ow e c xs).p (φ k) M w undef:=hp;have hsl:∃ MM,Sl MM w (a.eval y) ys:=by
  rcases hy (φ k) M hgh a.eval h.rd with h1 | h1
  ·exact ⟨_,h1⟩
  ·exact ⟨_,h1⟩
 obtain ⟨MM,hsl⟩:=hsl;have fin:∀ w' (e':Ent),StF M0 w0 n (put k e' (Al Γ)) a w'->St M0 w0 n ((d,Va ((min (hi - lo) ys.length:Nat):Int)) :: (k,e') :: Γ) (a.put (some d) (.int .i64 ((min (hi - lo) ys.length:Nat):Int))) w':=by
  intro w' e' ⟨M',φ',h'⟩;unfold St;rw [Ai,Ai];exact h'.gives ⟨Ext.refl _ _,[],DH,λq hq=>by simp at hq,rfl,_,rfl,rfl⟩ (CR hn)
 by_cases hm:min (hi - lo) ys.length=0
 ·have hcp:cpl xs lo hi ys=xs:=by simp [cpl,hm]
  have hdv:∃ A' dl dc,a.eval x=.slice A' dl dc/\dl=hi - lo:=by
   rcases hv with ⟨h1,A',h2⟩ | ⟨g,h1,h2⟩
   ·exact ⟨A',0,cap',h2,by omega⟩
   ·exact ⟨_,_,_,h2,rfl⟩
  obtain ⟨A',dl,dc,hdv,hdl⟩:=hdv;have hr:=run_cp0 (P:=P) (T:=T) (T':=T') (ty:=ty) (A:=A') (dl:=dl) (dc:=dc) (w:=w) he hs1 hsl (by rw [hdl];exact hm);refine Bc.upon (Bc.val (v:=.int .i64 0) (w':=w) ?_ ?_)
  ·simp only [execOp,resolve,invoke,builtin,CM,CN,CL,C9,CZ,DX,hdv,hr];rfl
  ·refine hK _ _ (cont _ _ ?_);have:=fin w (Ow e c (cpl xs lo hi ys)) (StF.less ⟨M,φ,h⟩ λt e he=>by
    unfold put at he;split at he
    ·rename_i ht;rw [hcp] at he;rw [ht,hk];exact he
    ·exact he)
   rw [hm] at this ⊢;exact this
 ·rcases Ow.num hp with ⟨h0,A',cap2,hA⟩ | ⟨g,cap2,cur,hF,hcg,hg,hle,hcap,hsz,htk⟩
  ·rw [hA] at hc;injection hc with _ hl _;omega
  ·have hcx:=hc;rw [hcg] at hcx;injection hcx with hA hl _;have hdv:a.eval x=.slice (some ⟨g,lo,none⟩) (hi - lo) (cap' + (hi - lo)):=by
    rcases hv with ⟨h1,_⟩ | ⟨g',h1,h2⟩
    ·omega
    ·rw [← hA] at h1;have:g'=g:=by injection h1 with h1;injection h1 with h1;exact h1.symm
     rw [h2,this]
   obtain ⟨A2,c2,hyv,hys⟩:=hsl;have hsrc:∃ b o,A2=some ⟨b,o,none⟩/\∀ (j:Nat) y,ys[j]?=some y->w.cell? ⟨b,o + j,none⟩=some (.int .i64 y):=by
    rcases hys with h1 | ⟨b,o,h1,h2⟩
    ·rw [h1] at hm;simp at hm
    ·refine ⟨b,o,h1,λj y hj=>?_⟩;obtain ⟨cs,hcs,hr⟩:=h2.get hj;have hr:cs=[.int .i64 y]:=hr;subst hr;have:=(hcs 0 _ rfl).2;have hsz1:j * Rep.sz Int=j:=EH j;rw [hsz1] at this;simpa using this
   have hr:=run_cp (P:=P) (T:=T) (T':=T') (ty:=ty) (dc:=cap' + (hi - lo)) (c2:=c2 + ys.length) he hs1 hg hle hsz hlh om_ hm hsrc;refine Bc.upon (Bc.val ?_ (v:=.int .i64 ((min (hi - lo) ys.length:Nat):Int)) (w':=w.setRow g (cur.toList.take lo ++ (ys.take (min (hi - lo) ys.length)).map (Value.int .i64) ++ cur.toList.drop (lo + ((ys.take (min (hi - lo) ys.length)).map (Value.int .i64)).length)).toArray) ?_)
   ·simp only [execOp,resolve,invoke,builtin,CM,CN,CL,C9,CZ,DX,hdv,hyv,hr];rfl
   ·refine hK _ _ (cont _ _ (fin _ _ ?_));refine h.write (b:=g) (by rw [hk];rfl) (by rw [hF];simp) (Ext.setRow w g _) ?_;have hlen:=cpl_len (ys:=ys) hlh (show hi<=xs.length by omega);have hcl:cur.toList.length=cap2:=by rw [GN,hsz]
    have hsz2:(cur.toList.take lo ++ (ys.take (min (hi - lo) ys.length)).map (Value.int .i64) ++ cur.toList.drop (lo + ((ys.take (min (hi - lo) ys.length)).map (Value.int .i64)).length)).toArray.size=cap2:=by
     rw [EO,CO,CO,List.length_drop,EA,D0,D0,hcl];omega
    have:=Ow.mkNum (e:=e) (g:=g) (cap:=cap2) (xs:=cpl xs lo hi ys) (M:=M) (v:=a.get k) (setRow_heap w g cur _ e _ hg) om_ hcap hsz2 (by rw [hlen];exact cp_take hlh om_ hle hsz htk);rw [hF,hcg];rw [hlen] at this;exact this
theorem cpW {ops:Array Oper} {rest:List Oper} {T T' e k d:Nat} {x y:Operand} {pos:String} {aft:Array Edge} {c:Value} {xs ys:GW}
  (hs:St M0 w0 n Γ a w) (hx:Od Γ x (Qv c)) (hk:Al Γ k=some (Ow e c xs)) (hy:Od Γ y (Va ys)) (he:P.underlying T=some (.slice (P.elem T))) (hs1:(P.info? (P.elem T)).map (·.size)=some 1) (hn:Nat.blt d n=true) (hdk:Nat.beq d k=false)
  (cont:∀ a' w',St M0 w0 n ((d,Va ((min (xs.length - 0) ys.length:Nat):Int)) :: (k,Ow e c (cpl xs 0 xs.length ys)) :: Γ) a' w'->wpListIn (Fr rr) 0 P ops Q rest a' w') :
  wpListIn (Fr rr) 0 P ops Q (⟨some d,.call { callee:=.builtin .copy,args:=#[x,y],argTypes:=#[T,T'] },ty,pos,aft,none⟩ :: rest) a w:=
 cpG he hs1 hs (λρ M w r=>by
  obtain ⟨F,hF,hv⟩:=hx ρ M w r;obtain ⟨F2,hp⟩:=r.tmp _ _ hk;refine ⟨[],rfl,EP _,?_⟩;rcases Ow.num hp with ⟨h0,A',cap2,hA⟩ | ⟨g,cap2,cur,_,hcg,_,hle,_⟩
  ·exact ⟨A',0,cap2,cap2,hA,by rw [h0];exact C5 _,.inl ⟨by rw [h0];rfl,A',by rw [hv,hA]⟩⟩
  ·exact ⟨_,_,cap2,cap2 - xs.length,hcg,C5 _,.inr ⟨g,rfl,by rw [hv,hcg,Nat.sub_zero,FM hle]⟩⟩) hk (λF M _ ρ rd=>by
  obtain ⟨_,h1⟩:=hy ρ M w rd;exact .inr (Va.list h1)) hn hdk cont
theorem cpS {ops:Array Oper} {rest:List Oper} {T T' e k d:Nat} {x y:Operand} {pos:String} {aft:Array Edge} {c:Value} {xs:GW} {lo hi lo2 hi2:Nat}
  (hs:St M0 w0 n Γ a w) (hx:Od Γ x (Sbp c lo hi)) (hk:Al Γ k=some (Ow e c xs)) (hy:Od Γ y (Sbp c lo2 hi2)) (he:P.underlying T=some (.slice (P.elem T))) (hs1:(P.info? (P.elem T)).map (·.size)=some 1) (hn:Nat.blt d n=true) (hdk:Nat.beq d k=false)
  (cont:∀ a' w',St M0 w0 n ((d,Va ((min (hi - lo) ((xs.drop lo2).take (hi2 - lo2)).length:Nat):Int)) :: (k,Ow e c (cpl xs lo hi ((xs.drop lo2).take (hi2 - lo2)))) :: Γ) a' w'->wpListIn (Fr rr) 0 P ops Q rest a' w') :
  wpListIn (Fr rr) 0 P ops Q (⟨some d,.call { callee:=.builtin .copy,args:=#[x,y],argTypes:=#[T,T'] },ty,pos,aft,none⟩ :: rest) a w:=
 cpG he hs1 hs hx hk (λF M hp ρ rd=>by
  obtain ⟨_,_,hlh,A,len,cap,cap',hc,hhl,hv⟩:=hy ρ M w rd;refine .inl ?_;rcases Ow.num hp with ⟨h0,A',cap2,hA⟩ | ⟨g,cap2,cur,hF,hcg,hg,hle,hcap,hsz,htk⟩
  ·rw [hA] at hc;injection hc with _ hl _;rcases hv with ⟨_,A',h2⟩ | ⟨g,_,h2⟩
   ·exact ⟨A',cap',by rw [h2,h0];simp,.inl (by rw [h0];simp)⟩
   ·have e3:hi2 - lo2=0:=by omega
    exact ⟨_,cap',by rw [h2,h0,e3];rfl,.inl (by rw [h0];simp)⟩
  ·rw [hcg] at hc;injection hc with hA hl _;have hlen:((xs.drop lo2).take (hi2 - lo2)).length=hi2 - lo2:=by simp;omega
   rcases hv with ⟨h1,A',h2⟩ | ⟨g',h1,h2⟩
   ·have h3:(xs.drop lo2).take (hi2 - lo2)=[]:=DZ om_;exact ⟨A',cap',by rw [h2,h3];rfl,.inl h3⟩
   ·rw [← hA] at h1;have hgg:g'=g:=by injection h1 with h1;injection h1 with h1;exact h1.symm
    subst hgg;refine ⟨_,cap',by rw [h2,hlen],.inr ⟨g',lo2,rfl,Row.of_get λi y hi=>?_⟩⟩;have hsz1:i * Rep.sz Int=i:=EH i;rw [hsz1];refine ⟨[.int .i64 y],λj v hj=>⟨λhno=>hno,?_⟩,rfl⟩;cases j with
    | succ j=>simp at hj
    | zero=>
     simp only [List.getElem?_cons_zero,Option.some.injEq] at hj;subst hj;have hi':i < hi2 - lo2:=by rw [← hlen];exact (CT.1 hi).1
     rw [DT hi',FL] at hi;have h5:cur.toList[lo2 + i]?=some (.int .i64 y):=by
      have h6:(cur.toList.take xs.length)[lo2 + i]?=some (.int .i64 y):=by rw [htk,C8,hi];rfl
      rwa [DT om_] at h6
     simp only [World.cell?,hg,E7];simpa using h5) hn hdk cont
end
end Go.Pn
namespace Go.Pn
open Go Go.RowKit
variable {rr:Option Nat}
def Si (b:Nat) (s:G0) (pos:Int):Ent where
 p F _ w _:=F=[b]/\0<=pos/\w.heap[b]?=some (.stringIter s pos.toNat)
 st h e:=by
  obtain ⟨rfl,h0,h⟩:=h;exact ⟨rfl,h0,by rw [e.block b (CQ.1 h).1 smp_];exact h⟩
 sb h _:=h
def SI (s:G0):Ent where
 p F M w v:=∃ b,v=pb b 0/\(Si b s 0).p F M w v
 st h e:=let ⟨b,hv,h⟩:=h;⟨b,hv,(Si b s 0).st h e⟩
 sb h s':=let ⟨b,hv,h⟩:=h;⟨b,hv,(Si b s 0).sb h s'⟩
def srn (s:G0) (pos:Int):Kd .i32:=⟨((Utf8.decode s pos.toNat).1:Nat)⟩
def snx (s:G0) (pos:Int):Int:=if pos < s.size then pos + (Utf8.decode s pos.toNat).2 else pos
def Nx (s:G0) (pos:Int):Ent where
 p F _ _ v:=F=[]/\(pos < s.size->v=.tuple #[.bool true,.int .i64 pos,.int .i32 (Utf8.decode s pos.toNat).1])/\(¬ pos < s.size->v=.tuple #[.bool false])
 st h _:=h
 sb h _:=h
section
variable {P:Program} {M0:Fm} {w0:World} {n:Nat} {Γ:Cx} {Q:Exit->Act->World->Prop} {a:Act} {w:World} {ty:TypeId}
theorem rgs {T:TypeId} {x:Operand} {s:G0} (hx:Od Γ x (Va s)) (hT:P.underlying T=some .string):OR P (.range T x) ty Γ (SI s):=by
 refine OR.run λρ M w r=>?_;obtain ⟨_,hv⟩:=hx ρ M w r;refine ⟨pb w.heap.size 0,w.alloc (.stringIter s 0),λ_ _ _ _=>?_,Ext.alloc _ _ _,[w.heap.size],by simp,λk hk=>?_,w.heap.size,rfl,rfl,FX _,heap_alloc_new w _⟩
 ·simp only [execOp,Va.str hv,CM,run_range_string w T s hT,CL,CN];rfl
 ·simp at hk;subst hk;exact ⟨Nat.le_refl _,by simp⟩
theorem sqsi {ops:Array Oper} {rest:List Oper} {d:Nat} {op:Op} {pos:String} {aft:Array Edge} {s:G0} (K:Nat)
  (hs:St M0 w0 n Γ a w) (ho:OR P op ty Γ (SI s)) (hn:Nat.blt d n=true) (hdk:Nat.beq d K=false)
  (k:∀ b a' w',St M0 w0 n ((d,Qv (pb b 0)) :: (K,Si b s 0) :: (d,SI s) :: Γ) a' w'->wpListIn (Fr rr) 0 P ops Q rest a' w'):wpListIn (Fr rr) 0 P ops Q (⟨some d,op,ty,pos,aft,none⟩ :: rest) a w:=
 sq hs ho hn λa' w' s'=>by
  obtain ⟨M,φ,h⟩:=s';obtain ⟨b,hv,hb⟩:=h.holds d (SI s) (by simp [Al]);refine k b a' w' ?_;unfold St;rw [Eh];exact h.split (by simp [Al]) (DL hdk) ⟨rfl,hv⟩ hb
theorem nxs {ops:Array Oper} {rest:List Oper} {d K:Nat} {x:Operand} {T:TypeId} {p:String} {aft:Array Edge} {b:Nat} {s:G0} {pos:Int}
  (hs:St M0 w0 n Γ a w) (hx:Od Γ x (Qv (pb b 0))) (hk:Al Γ K=some (Si b s pos)) (hn:Nat.blt d n=true) (hdk:Nat.beq d K=false)
  (k:∀ a' w',St M0 w0 n ((d,Nx s pos) :: (K,Si b s (snx s pos)) :: Γ) a' w'->wpListIn (Fr rr) 0 P ops Q rest a' w'):wpListIn (Fr rr) 0 P ops Q (⟨some d,.next x true,T,p,aft,none⟩ :: rest) a w:=by
 refine wpListIn_plain rfl λKc hK=>?_;obtain ⟨M,φ,h⟩:=hs;obtain ⟨_,_,hv⟩:=hx _ _ _ h.rd;obtain ⟨hF,h0,hc⟩:=h.holds K _ hk;have hlt:=(CQ.1 hc).1;by_cases hp:pos < s.size
 ·have hp':pos.toNat < s.size:=by omega
  have hrun:(Instr.next (pb b 0) true T).run P w=.ok (.tuple #[.bool true,.int .i64 pos,.int .i32 (Utf8.decode s pos.toNat).1]) { w with heap:=w.heap.setIfInBounds b (.stringIter s (pos.toNat + (Utf8.decode s pos.toNat).2)) }:=by
   simp only [Instr.next,getObj,setObj,CM,Sem.run,hc,Result.andThen,hp',if_true];simp only [goInt,Sem.run];have:((pos.toNat:Nat):Int)=pos:=by omega
   simp [this]
  refine Bc.upon (Bc.val (v:=.tuple #[.bool true,.int .i64 pos,.int .i32 (Utf8.decode s pos.toNat).1]) (w':={ w with heap:=w.heap.setIfInBounds b (.stringIter s (pos.toNat + (Utf8.decode s pos.toNat).2)) }) ?_ ?_)
  ·simp only [execOp,hv,CM,hrun,CL,CN]
  ·refine hK _ _ (k _ _ ?_);have h1:StF M0 w0 n (put K (Si b s (snx s pos)) (Al Γ)) a { w with heap:=w.heap.setIfInBounds b (.stringIter s (pos.toNat + (Utf8.decode s pos.toNat).2)) }:=by
    refine h.write (b:=b) (by rw [hk];rfl) (by rw [hF];simp) ⟨rfl,rfl,rfl,by simp,λq _ hq=>by simp only [EK];rw [if_neg (λe=>hq e.symm)],C5 _⟩ ⟨hF,?_,?_⟩
    ·unfold snx;rw [if_pos hp];omega
    ·have e1:(snx s pos).toNat=pos.toNat + (Utf8.decode s pos.toNat).2:=by unfold snx;rw [if_pos hp];omega
     rw [e1];simp only [EK,if_true];rw [if_pos hlt]
   obtain ⟨M',φ',h1⟩:=h1;unfold St;rw [Ai,Ai];exact h1.gives ⟨Ext.refl _ _,[],DH,λq hq=>by simp at hq,rfl,λ_=>rfl,λhh=>absurd hp hh⟩ (CR hn)
 ·have hp':¬ pos.toNat < s.size:=by omega
  have hrun:(Instr.next (pb b 0) true T).run P w=.ok (.tuple #[.bool false]) w:=by
   simp [Instr.next,getObj,Sem.run,hc,hp']
  refine Bc.upon (Bc.val (v:=.tuple #[.bool false]) (w':=w) ?_ ?_)
  ·simp only [execOp,hv,CM,hrun,CL,CN]
  ·refine hK _ _ (k _ _ ?_);have e1:snx s pos=pos:=by unfold snx;rw [if_neg hp]
   rw [e1];have h1:StF M0 w0 n (put K (Si b s pos) (Al Γ)) a w:=StF.less ⟨M,φ,h⟩ λt e he=>by
    unfold put at he;split at he
    ·rename_i ht;rw [ht,hk];exact he
    ·exact he
   obtain ⟨M',φ',h1⟩:=h1;unfold St;rw [Ai,Ai];exact h1.gives ⟨Ext.refl _ _,[],DH,λq hq=>by simp at hq,rfl,λhh=>absurd hh hp,λ_=>rfl⟩ (CR hn)
theorem nx0 {x:Operand} {s:G0} {pos:Int} (h:Od Γ x (Nx s pos)):OR P (.extract x 0) ty Γ (Va (decide (pos < (s.size:Int)))):=OR.val λρ M w r=>by
 obtain ⟨_,_,h1,h2⟩:=h ρ M w r;by_cases hp:pos < s.size
 ·exact ⟨.bool true,λ_ _ _ _=>by simp only [execOp,h1 hp];rfl,by rw [decide_eq_true hp];exact Va.mkBool⟩
 ·exact ⟨.bool false,λ_ _ _ _=>by simp only [execOp,h2 hp];rfl,by rw [decide_eq_false hp];exact Va.mkBool⟩
theorem nx1 {x:Operand} {s:G0} {pos:Int} (h:Od Γ x (Nx s pos)) (hb:decide (pos < (s.size:Int))=true):OR P (.extract x 1) ty Γ (Va pos):=OR.val λρ M w r=>by
 obtain ⟨_,_,h1,_⟩:=h ρ M w r;have hp:pos < s.size:=by simpa using hb
 exact ⟨.int .i64 pos,λ_ _ _ _=>by simp only [execOp,h1 hp];rfl,Va.mkInt⟩
theorem nx2 {x:Operand} {s:G0} {pos:Int} (h:Od Γ x (Nx s pos)) (hb:decide (pos < (s.size:Int))=true):OR P (.extract x 2) ty Γ (Va (srn s pos)):=OR.val λρ M w r=>by
 obtain ⟨_,_,h1,_⟩:=h ρ M w r;have hp:pos < s.size:=by simpa using hb
 exact ⟨.int .i32 (Utf8.decode s pos.toNat).1,λ_ _ _ _=>by simp only [execOp,h1 hp];rfl,Ik.mkv (x:=srn s pos)⟩
end
end Go.Pn
namespace Go.Pn
open Go Go.RowKit
variable {rr:Option Nat}
def InO (e:TypeId) (M:Nat->Prop) (w:World):GZ->List (Option GW)->GY->Prop
 | [],[],F=>F=[]
 | c :: cs,none :: xs,F=>c.oneCell'=true/\InO e M w cs xs F
 | c :: cs,some x :: xs,F=>∃ F1 F2,F=F1 ++ F2/\(Ow e c x).p F1 M w undef/\InO e M w cs xs F2
 | _,_,_=>False
theorem InO.st {e:TypeId} {M:Nat->Prop} {w w':World}:∀ {cs:GZ} {xs:List (Option GW)} {F:GY},InO e M w cs xs F->Ext (λk=>M k/\k ∉ F) w w'->InO e M w' cs xs F
 | [],[],_,h,_=>h
 | _ :: _,none :: _,_,⟨h0,h⟩,x=>⟨h0,h.st x⟩
 | _ :: _,some _ :: _,_,⟨F1,F2,hF,h1,h2⟩,x=>⟨F1,F2,hF,Ent.st _ h1 (x.mono λk _ hk=>⟨hk.1,λhm=>hk.2 (by rw [hF];exact C0 _ hm)⟩),h2.st (x.mono λk _ hk=>⟨hk.1,λhm=>hk.2 (by rw [hF];exact CX _ hm)⟩)⟩
 | [],_ :: _,_,h,_=>by simp [InO] at h
 | _ :: _,[],_,h,_=>by simp [InO] at h
theorem InO.sb {e:TypeId} {M M':Nat->Prop} {w:World}:∀ {cs:GZ} {xs:List (Option GW)} {F:GY},InO e M w cs xs F->(∀ k,k < w.heap.size->M' k->M k)->InO e M' w cs xs F
 | [],[],_,h,_=>h
 | _ :: _,none :: _,_,⟨h0,h⟩,x=>⟨h0,h.sb x⟩
 | _ :: _,some _ :: _,_,⟨F1,F2,hF,h1,h2⟩,x=>⟨F1,F2,hF,Ent.sb _ h1 x,h2.sb x⟩
 | [],_ :: _,_,h,_=>by simp [InO] at h
 | _ :: _,[],_,h,_=>by simp [InO] at h
theorem InO.focus {e:TypeId} {M:Nat->Prop} {w:World}:∀ {cs:GZ} {xs:List (Option GW)} {F:GY} {k:Nat} {x:GW},InO e M w cs xs F->xs[k]?=some (some x) ->
  ∃ c F1 F2,cs[k]?=some c/\(Ow e c x).p F1 M w undef/\InO e M w cs (xs.set k none) F2/\F.Perm (F1 ++ F2)
 | [],[],_,k,x,_,h=>by simp at h
 | c :: cs,none :: xs,F,0,x,_,h=>by simp at h
 | c :: cs,none :: xs,F,k + 1,x,⟨h0,h⟩,hk=>by
  obtain ⟨c',F1,F2,h1,h2,h3,h4⟩:=InO.focus (k:=k) h (by simpa using hk);exact ⟨c',F1,F2,by simpa using h1,h2,⟨h0,h3⟩,h4⟩
 | c :: cs,some y :: xs,F,0,x,⟨F1,F2,hF,h1,h2⟩,hk=>by
  have:y=x:=by simpa using hk
  subst this;refine ⟨c,F1,F2,by simp,h1,⟨?_,h2⟩,by rw [hF]⟩;obtain ⟨_,cs',ho,_⟩ | ⟨_,_,g,hc⟩:=h1
  ·rcases ho.2 with ⟨hc,_⟩ | ⟨_,_,_,hc,_⟩ <;> rw [hc] <;> rfl
  ·rw [hc];rfl
 | c :: cs,some y :: xs,F,k + 1,x,⟨Fa,Fb,hF,h1,h2⟩,hk=>by
  obtain ⟨c',F1,F2,q1,q2,q3,q4⟩:=InO.focus (k:=k) h2 (by simpa using hk);refine ⟨c',F1,Fa ++ F2,by simpa using q1,q2,⟨Fa,F2,rfl,h1,q3⟩,?_⟩;rw [hF];refine (List.Perm.append_left Fa q4).trans ?_;rw [← DJ,← DJ];exact List.Perm.append_right F2 List.perm_append_comm
 | [],_ :: _,_,_,_,h,_=>by simp [InO] at h
 | _ :: _,[],_,_,_,h,_=>by simp [InO] at h
theorem InO.close {e:TypeId} {M:Nat->Prop} {w:World}:∀ {cs:GZ} {xs:List (Option GW)} {F F1:GY} {k:Nat} {c:Value} {x:GW},InO e M w cs xs F->xs[k]?=some none->cs[k]?=some c->(Ow e c x).p F1 M w undef ->
  ∃ F',InO e M w cs (xs.set k (some x)) F'/\F'.Perm (F1 ++ F)
 | [],[],_,_,k,c,x,_,h,_,_=>by simp at h
 | c :: cs,none :: xs,F,F1,0,c',x,⟨h0,h⟩,_,hc,hp=>by
  have:c=c':=by simpa using hc
  subst this;exact ⟨F1 ++ F,⟨F1,F,rfl,hp,h⟩,List.Perm.refl _⟩
 | c :: cs,none :: xs,F,F1,k + 1,c',x,⟨h0,h⟩,hk,hc,hp=>by
  obtain ⟨F',h1,h2⟩:=InO.close (k:=k) h (by simpa using hk) (by simpa using hc) hp;exact ⟨F',⟨h0,h1⟩,h2⟩
 | c :: cs,some y :: xs,F,F1,0,c',x,_,hk,_,_=>by simp at hk
 | c :: cs,some y :: xs,F,F1,k + 1,c',x,⟨Fa,Fb,hF,h1,h2⟩,hk,hc,hp=>by
  obtain ⟨F',q1,q2⟩:=InO.close (k:=k) h2 (by simpa using hk) (by simpa using hc) hp;refine ⟨Fa ++ F',⟨Fa,F',rfl,h1,q1⟩,?_⟩;rw [hF];refine (List.Perm.append_left Fa q2).trans ?_;rw [← DJ,← DJ];exact List.Perm.append_right Fb List.perm_append_comm
 | [],_ :: _,_,_,_,_,_,h,_,_,_=>by simp [InO] at h
 | _ :: _,[],_,_,_,_,_,h,_,_,_=>by simp [InO] at h
theorem InO.setc {e:TypeId} {M:Nat->Prop} {w:World} {v:Value} (hv:v.oneCell'=true):∀ {cs:GZ} {xs:List (Option GW)} {F:GY} {k:Nat},InO e M w cs xs F->xs[k]?=some none->InO e M w (cs.set k v) xs F
 | [],[],_,k,_,h=>by simp at h
 | c :: cs,none :: xs,F,0,⟨h0,h⟩,_=>⟨hv,h⟩
 | c :: cs,none :: xs,F,k + 1,⟨h0,h⟩,hk=>⟨h0,InO.setc hv h (by simpa using hk)⟩
 | c :: cs,some y :: xs,F,0,_,hk=>by simp at hk
 | c :: cs,some y :: xs,F,k + 1,⟨Fa,Fb,hF,h1,h2⟩,hk=>⟨Fa,Fb,hF,h1,InO.setc hv h2 (by simpa using hk)⟩
 | [],_ :: _,_,_,h,_=>by simp [InO] at h
 | _ :: _,[],_,_,h,_=>by simp [InO] at h
def Oo (e2 e:TypeId) (c:Value) (xss:List (Option GW)):Ent where
 p F M w _:=∃ g cap cur F',F.Perm (g :: F')/\c=.slice (some ⟨g,0,none⟩) xss.length cap/\w.heap[g]?=some (.cells cur e2 (0,0))/\xss.length<=cap/\cap<=maxLen/\cur.size=cap/\InO e M w (cur.toList.take xss.length) xss F'
 st h x:=by
  obtain ⟨g,cap,cur,F',hF,hc,hg,h1,h2,h3,h4⟩:=h;refine ⟨g,cap,cur,F',hF,hc,?_,h1,h2,h3,h4.st (x.mono λk _ hk=>⟨hk.1,λhm=>hk.2 (hF.mem_iff.2 (DR _ hm))⟩)⟩;rw [x.block g (CQ.1 hg).1 λhm=>hm.2 (hF.mem_iff.2 (DW ..))];exact hg
 sb h s:=let ⟨g,cap,cur,F',hF,hc,hg,h1,h2,h3,h4⟩:=h;⟨g,cap,cur,F',hF,hc,hg,h1,h2,h3,h4.sb s⟩
def OO (e2 e:TypeId) (xss:List (Option GW)):Ent where
 p F M w v:=(Oo e2 e v xss).p F M w v
 st h x:=(Oo e2 e _ xss).st h x
 sb h s:=(Oo e2 e _ xss).sb h s
section
variable {P:Program} {M0:Fm} {w0:World} {n:Nat} {Γ:Cx} {Q:Exit->Act->World->Prop} {a:Act} {w:World} {ty:TypeId}
theorem StM.split3 {g:Mp} {M:Nat->Prop} {φ:Nat->GY} {d k:Nat} {e1 e2:Ent} {F1 F2:GY} (h:StM M0 w0 n g a w M φ) (hd:(g d).isSome=true) (hne:d≠k) (hF:(φ d).Perm (F2 ++ F1))
  (h1:e1.p F1 M w (a.get d)) (h2:e2.p F2 M w (a.get k)):StF M0 w0 n (put d e1 (put k e2 g)) a w:=by
 have h':StM M0 w0 n (put d ⟨λF _ _ _=>F=F2 ++ F1,λh _=>h,λh _=>h⟩ g) a w M (λt=>if t=d then F2 ++ F1 else φ t):=by
  refine ⟨λt e he=>?_,λt ht=>?_,λt s hts ht hs=>?_,h.sub,h.bd,h.fr,h.sz,h.df⟩
  ·unfold put at he;by_cases h3:t=d
   ·subst h3;simp only [if_true,Option.some.injEq] at he ⊢;subst he;rfl
   ·simp only [if_neg h3] at he ⊢;exact h.holds t e he
  ·by_cases h3:t=d
   ·subst h3;simp only [if_true];have:=h.own t hd;exact ⟨hF.nodup_iff.1 this.1,λk hk=>this.2 k (hF.mem_iff.2 hk)⟩
   ·simp only [put,if_neg h3] at ht ⊢;exact h.own t ht
  ·by_cases h3:t=d
   ·subst h3;simp only [if_true,if_neg (Ne.symm hts)];simp only [put,if_neg (Ne.symm hts)] at hs;exact λq hq=>h.apart t s hts hd hs q (hF.mem_iff.2 hq)
   ·by_cases h4:s=d
    ·subst h4;simp only [if_true,if_neg h3];simp only [put,if_neg h3] at ht;exact λq hq hm=>h.apart t s hts ht hd q hq (hF.mem_iff.2 hm)
    ·simp only [put,if_neg h3,if_neg h4] at ht hs ⊢;exact h.apart t s hts ht hs
 have:=h'.split2 (d:=d) (k:=k) (e1:=e1) (e2:=e2) (F1:=F1) (F2:=F2) (by simp [put]) hne smp_ h1 h2;refine StF.less this λt e he=>?_;unfold put at he ⊢;by_cases h3:t=d
 ·rw [if_pos h3] at he ⊢;exact he
 ·rw [if_neg h3] at he ⊢;by_cases h4:t=k
  ·rw [if_pos h4] at he ⊢;exact he
  ·rw [if_neg h4] at he ⊢;rw [if_neg h3];exact he
theorem StM.merge {g:Mp} {M:Nat->Prop} {φ:Nat->GY} {d k:Nat} {e:Ent} {F:GY} (h:StM M0 w0 n g a w M φ) (hd:(g d).isSome=true) (hk:(g k).isSome=true) (hne:d≠k) (hF:F.Perm (φ k ++ φ d)) (he:e.p F M w (a.get d)) :
  StF M0 w0 n (put d e (put k Dd g)) a w:=by
 refine ⟨M,λt=>if t=d then F else if t=k then [] else φ t,λt e' he'=>?_,λt ht=>?_,λt s hts ht hs=>?_,h.sub,h.bd,h.fr,h.sz,h.df⟩
 ·unfold put at he';by_cases h3:t=d
  ·subst h3;simp only [if_true,Option.some.injEq] at he' ⊢;subst he';exact he
  ·by_cases h4:t=k
   ·subst h4;simp only [if_neg h3,if_true,Option.some.injEq] at he' ⊢;subst he';rfl
   ·simp only [if_neg h3,if_neg h4] at he' ⊢;exact h.holds t e' he'
 ·by_cases h3:t=d
  ·subst h3;simp only [if_true];refine ⟨hF.nodup_iff.2 (EY.2 ⟨(h.own k hk).1,(h.own t hd).1,λx hx y hy e=>?_⟩),λq hq=>?_⟩
   ·subst e;exact h.apart t k hne hd hk x hy hx
   ·rcases CY.1 (hF.mem_iff.1 hq) with h5 | h5
    ·exact (h.own k hk).2 q h5
    ·exact (h.own t hd).2 q h5
  ·by_cases h4:t=k
   ·simp only [if_neg h3,if_pos h4];exact ⟨List.nodup_nil,λq hq=>by simp at hq⟩
   ·simp only [put,if_neg h3,if_neg h4] at ht ⊢;exact h.own t ht
 ·have ap:∀ u,u≠d->u≠k->((put d e (put k Dd g)) u).isSome=true->∀ q∈φ u,q ∉ F:=λu hu hk' hs q hq hm=>by
   simp only [put,if_neg hu,if_neg hk'] at hs;rcases CY.1 (hF.mem_iff.1 hm) with h5 | h5
   ·exact h.apart u k hk' hs hk q hq h5
   ·exact h.apart u d hu hs hd q hq h5
  by_cases h4:t=k
  ·subst h4;simp only [if_neg (Ne.symm hne),if_true];exact λq hq=>by simp at hq
  ·by_cases h6:s=k
   ·subst h6;simp only [if_neg (Ne.symm hne),if_true];exact λq _ hm=>by simp at hm
   ·by_cases h3:t=d
    ·subst h3;simp only [if_true,if_neg (Ne.symm hts),if_neg h6];exact λq hq hm=>ap s (Ne.symm hts) h6 hs q hm hq
    ·by_cases h5:s=d
     ·subst h5;simp only [if_true,if_neg h3,if_neg h4];exact λq hq=>ap t h3 h4 ht q hq
     ·simp only [put,if_neg h3,if_neg h4,if_neg h5,if_neg h6] at ht hs ⊢;exact h.apart t s hts ht hs
theorem InO.nils {e:TypeId} {M:Nat->Prop} {w:World}:∀ k:Nat,InO e M w (List.replicate k (Value.slice none 0 0)) (List.replicate k (some [])) []
 | 0=>rfl
 | k + 1=>⟨[],[],rfl,.inl ⟨rfl,[],⟨by simp,.inl ⟨rfl,rfl⟩⟩,rfl⟩,InO.nils k⟩
theorem mkO {T e2:TypeId} {e:TypeId} {x y:Operand} {m:Int} {xs:List GW} (hx:Od Γ x (Va m)) (hy:Od Γ y (Va m)) (hT:P.underlying T=some (.slice e2)) (hi:(P.info? e2).map (λi=>(i.zero,i.size,Nat.ble i.bytes 65536))=some (some (.slice none 0 0),1,true)) (h:mks ([]:GW) m=some xs):OR P (.makeSlice T x y) ty Γ (OO e2 e (xs.map some)):=by
 unfold mks at h;split at h
 case isFalse=>cases h
 rename_i hc;cases h
 refine OR.run λρ M w r=>?_;obtain ⟨_,h1⟩:=hx ρ M w r;obtain ⟨_,h2⟩:=hy ρ M w r;obtain ⟨k,rfl⟩:∃ k:Nat,m=k:=⟨m.toNat,by omega⟩;have hk:k<=1073741824:=by omega
 cases hie:P.info? e2 with
 | none=>simp [hie] at hi
 | some i=>
  simp only [hie,DG,Option.some.injEq,Prod.mk.injEq] at hi;obtain ⟨hz,hs,hb⟩:=hi;have hb':=CR hb;have hr:=run_make (P:=P) w T e2 i (.slice none 0 0) hT hie hz .i64 .i64 (k:Int) (k:Int) om_ (FX _) (by
   have:i.bytes * k<=65536 * 1073741824:=FR hb' hk;have h3:((i.bytes * k:Nat):Int)<=281474976710656:=by omega
   rwa [GE] at h3) om_
  simp only [DQ,hs] at hr;have hcells:(Value.slice none 0 0).cells=#[Value.slice none 0 0]:=rfl;rw [hcells,EH] at hr;have hmade:(madeCells #[Value.slice none 0 0] k)=(List.replicate k (Value.slice none 0 0)).toArray:=by
   apply Array.ext';apply List.ext_getElem
   ·simp [madeCells]
   ·intro j h1 h2;simp [madeCells,Nat.mod_one]
  rw [hmade] at hr;refine ⟨.slice (some ⟨w.heap.size,0,none⟩) k k,w.alloc (.cells (List.replicate k (Value.slice none 0 0)).toArray e2),λ_ _ _ _=>by simp only [execOp,Va.int h1,Va.int h2,CM,hr,CL,CN],Ext.alloc _ _ _,[w.heap.size],by simp,λq hq=>?_,w.heap.size,k,(List.replicate k (Value.slice none 0 0)).toArray,[],List.Perm.refl _,?_,heap_alloc_new w _,?_,?_,by simp,?_⟩
  ·simp at hq;subst hq;exact ⟨Nat.le_refl _,by simp⟩
  ·simp
  ·simp
  ·unfold maxLen;omega
  ·have hl:(List.map some (List.replicate (Int.toNat (k:Int)) ([]:GW))).length=k:=by simp
   rw [hl];simp only [DQ,List.map_replicate];rw [DY smp_];exact InO.nils k
theorem sqoo {ops:Array Oper} {rest:List Oper} {d:Nat} {op:Op} {pos:String} {aft:Array Edge} {e2 e:TypeId} {xss:List (Option GW)} (K:Nat)
  (hs:St M0 w0 n Γ a w) (ho:OR P op ty Γ (OO e2 e xss)) (hn:Nat.blt d n=true) (hdk:Nat.beq d K=false)
  (k:∀ c a' w',St M0 w0 n ((d,Qv c) :: (K,Oo e2 e c xss) :: (d,OO e2 e xss) :: Γ) a' w'->wpListIn (Fr rr) 0 P ops Q rest a' w'):wpListIn (Fr rr) 0 P ops Q (⟨some d,op,ty,pos,aft,none⟩ :: rest) a w:=
 sq hs ho hn λa' w' s'=>by
  obtain ⟨M,φ,h⟩:=s';have hb:=h.holds d (OO e2 e xss) (by simp [Al]);refine k (a'.get d) a' w' ?_;unfold St;rw [Eh];exact h.split (by simp [Al]) (DL hdk) ⟨rfl,rfl⟩ hb
theorem ixo {T e2 e k:TypeId} {x i:Operand} {c:Value} {xss:List (Option GW)} {m:Int} {y:Option GW} (hx:Od Γ x (Qv c)) (hk:Al Γ k=some (Oo e2 e c xss)) (hi:Od Γ i (Va m)) (hT:P.underlying T=some (.slice e2)) (hs:(P.info? e2).map (·.size)=some 1) (h:idx xss m=some y):OR P (.indexAddr T x i) ty Γ (Pe c m.toNat):=by
 refine OR.val λρ M w r=>?_;obtain ⟨_,_,hv⟩:=hx ρ M w r;obtain ⟨_,h2⟩:=hi ρ M w r;obtain ⟨_,g,cap,cur,F',hF,hc,_⟩:=r.tmp _ _ hk;obtain ⟨h0,hl,hg⟩:=Aq h;have hsz:∀ w,(sizeOf e2).run P w=.ok 1 w:=λw=>by
  cases hie:P.info? e2 with
  | none=>simp [hie] at hs
  | some i=>simp [hie] at hs;simp [sizeOf,typeInfo,hie,hs]
 refine ⟨.pointer (some ⟨g,m.toNat,none⟩),λ_ _ _ _=>?_,rfl,g,by rw [hc];rfl,rfl⟩;simp only [execOp,hv,hc,Va.int h2,Instr.indexAt,CM,asIntOf,CN,CL,run_underlying hT];simp [h0,hl,hsz,Bj]
theorem ldo {ops:Array Oper} {rest:List Oper} {d K K2 T e2 e:Nat} {x:Operand} {pos:String} {aft:Array Edge} {c:Value} {xss:List (Option GW)} {j:Nat} {y:GW}
  (hs:St M0 w0 n Γ a w) (hx:Od Γ x (Pe c j)) (hk:Al Γ K=some (Oo e2 e c xss)) (hy:xss[j]?=some (some y)) (ha:(P.underlying T).map By=some false) (hn:Nat.blt d n=true) (hKK:Nat.beq K K2=false) (hdK:Nat.beq d K=false) (hdK2:Nat.beq d K2=false)
  (k:∀ c' a' w',St M0 w0 n ((d,Qv c') :: (K,Oo e2 e c (xss.set j none)) :: (K2,Ow e c' y) :: Γ) a' w'->wpListIn (Fr rr) 0 P ops Q rest a' w'):wpListIn (Fr rr) 0 P ops Q (⟨some d,.load T x,ty,pos,aft,none⟩ :: rest) a w:=by
 refine wpListIn_plain rfl λKc hK=>?_;obtain ⟨M,φ,h⟩:=hs;obtain ⟨_,_,g',hg',hv⟩:=hx _ _ _ h.rd;obtain ⟨g,cap,cur,F',hF,hc,hg,h1,h2,h3,h4⟩:=h.holds K _ hk;have hgg:g'=g:=by rw [hc] at hg';simpa [Value.ownBlock] using hg'.symm
 subst hgg;obtain ⟨c',F1,F2,q1,q2,q3,q4⟩:=h4.focus hy;have hj:j < xss.length:=(CT.1 hy).1;rw [DT hj] at q1;have hcell:w.cell? ⟨g',j,none⟩=some c':=by
  simp only [World.cell?,hg];simpa using q1
 refine Bc.upon (Bc.val (v:=c') (w':=w) ?_ ?_)
 ·simp only [execOp,hv,Instr.loadAt,Instr.sureAddr,CM,CN,CL,loadVar,Ty.run_agg ha];simp [hcell]
 ·refine hK _ _ (k c' _ _ ?_);have hsp:=h.split3 (d:=K) (k:=K2) (e1:=Oo e2 e c (xss.set j none)) (e2:=Ow e c' y) (F1:=g' :: F2) (F2:=F1) (by rw [hk];rfl) (DL hKK)
   (hF.trans ((List.Perm.cons _ q4).trans (by
    rw [← E4];exact (List.perm_middle (a:=g') (l₁:=F1) (l₂:=F2)).symm)))
   ⟨g',cap,cur,F2,List.Perm.refl _,by rw [hc];simp,hg,by simpa using h1,h2,h3,by simpa using q3⟩ q2
  obtain ⟨M',φ',hsp⟩:=hsp;unfold St;rw [Ai,Ai,Ai];exact hsp.gives ⟨Ext.refl _ _,[],DH,λq hq=>by simp at hq,rfl,rfl⟩ (CR hn)
theorem sto {ops:Array Oper} {rest:List Oper} {K K2 T e2 e:Nat} {x y:Operand} {pos:String} {aft:Array Edge} {c c':Value} {xss:List (Option GW)} {j:Nat} {ys:GW}
  (hs:St M0 w0 n Γ a w) (hx:Od Γ x (Pe c j)) (hk:Al Γ K=some (Oo e2 e c xss)) (hy:Od Γ y (Qv c')) (hk2:Al Γ K2=some (Ow e c' ys)) (hh:xss[j]?=some none) (hT:(P.info? T).map (·.size)=some 1) (hKK:Nat.beq K K2=false)
  (k:∀ w',St M0 w0 n ((K,Oo e2 e c (xss.set j (some ys))) :: (K2,Dd) :: Γ) a w'->wpListIn (Fr rr) 0 P ops Q rest a w'):wpListIn (Fr rr) 0 P ops Q (⟨none,.store T x y,ty,pos,aft,none⟩ :: rest) a w:=by
 refine wpListIn_plain rfl λKc hK=>?_;obtain ⟨M,φ,h⟩:=hs;obtain ⟨_,_,g',hg',hv⟩:=hx _ _ _ h.rd;obtain ⟨_,_,hyv⟩:=hy _ _ _ h.rd;obtain ⟨g,cap,cur,F',hF,hc,hg,h1,h2,h3,h4⟩:=h.holds K _ hk;have how:=h.holds K2 _ hk2;have hgg:g'=g:=by rw [hc] at hg';simpa [Value.ownBlock] using hg'.symm
 subst hgg;have hne:=DL hKK;have hj:j < xss.length:=(CT.1 hh).1;have hc1:c'.oneCell'=true/\c'.cells=#[c']:=by
  obtain ⟨_,cs',ho,_⟩ | ⟨_,_,g,hc⟩:=how
  ·rcases ho.2 with ⟨hc,_⟩ | ⟨_,_,_,hc,_⟩ <;> rw [hc] <;> exact ⟨rfl,rfl⟩
  ·rw [hc];exact ⟨rfl,rfl⟩
 have hst:=run_storeCells_at P g' j e2 [c'] 0 cur w hg (by simp;omega) (λv hv=>by simp at hv;rw [hv];exact hc1.1);simp only [E7,EN,FZ,ED] at hst;have hsz:∀ w,(sizeOf T).run P w=.ok 1 w:=λw=>by
  cases hie:P.info? T with
  | none=>simp [hie] at hT
  | some i=>simp [hie] at hT;simp [sizeOf,typeInfo,hie,hT]
 have hset:(cur.toList.take j ++ [c'] ++ cur.toList.drop (j + 1))=cur.toList.set j c':=by
  rw [List.set_eq_take_append_cons_drop,if_pos (by simp;omega)];simp
 rw [hset] at hst;refine Bc.upon (Bc.skip (w':=w.setRow g' (cur.toList.set j c').toArray) ?_ ?_)
 ·simp only [execOp,hv,hyv,Instr.storeAt,Instr.sureAddr,CM,CN,CL,storeVar,hc1.2,hsz];simp [hst]
 ·refine hK _ _ (k _ ?_);have hgK:g'∈φ K:=hF.mem_iff.2 (DW ..);have hMg:=((h.own K (by rw [hk];rfl)).2 _ hgK).1;have hgF':g' ∉ F':=by
   have:=hF.nodup_iff.1 (h.own K (by rw [hk];rfl)).1;exact (List.nodup_cons.1 this).1
  have hin:InO e M (w.setRow g' (cur.toList.set j c').toArray) ((cur.toList.take xss.length).set j c') xss F':=by
   refine InO.st (InO.setc hc1.1 h4 hh) ((Ext.setRow w g' _).mono λq _ hq=>?_);subst hq;exact ⟨hMg,hgF'⟩
  have hw1:=h.write (b:=g') (p:=K) (e':=Oo e2 e c xss) (w':=w.setRow g' (cur.toList.set j c').toArray) (by rw [hk];rfl) hgK (Ext.setRow w g' _)
   ⟨g',cap,(cur.toList.set j c').toArray,F',hF,hc,setRow_heap w g' cur _ e2 _ hg,h1,h2,by simp [h3],by
    show InO e M _ (List.take xss.length (cur.toList.set j c')) xss F';rw [List.take_set];exact hin⟩
  obtain ⟨M',φ',hw1⟩:=hw1;have e1:put K (Oo e2 e c xss) (Al Γ) K=some (Oo e2 e c xss):=by simp [put]
  have e2':put K (Oo e2 e c xss) (Al Γ) K2=some (Ow e c' ys):=by unfold put;rw [if_neg (Ne.symm hne)];exact hk2
  obtain ⟨g2,cap2,cur2,F2,p1,p2,p3,p4,p5,p6,p7⟩:=hw1.holds K _ e1;have how2:=hw1.holds K2 _ e2';have hg2:g2=g':=by rw [hc] at p2;injection p2 with p2;injection p2 with p2;injection p2 with p2;exact p2.symm
  subst hg2;have hcur:cur2=(cur.toList.set j c').toArray:=by
   have:=setRow_heap w g2 cur (cur.toList.set j c').toArray e2 _ hg;rw [this] at p3;injection p3 with p3;injection p3 with p3;exact p3.symm
  have hcj:(cur2.toList.take xss.length)[j]?=some c':=by
   rw [hcur,DT hj];have hlt:j < cur.toList.length:=by simp;omega
   show (cur.toList.set j c')[j]?=some c';rw [DK hlt]
  obtain ⟨F3,r1,r2⟩:=p7.close hh hcj (show (Ow e c' ys).p (φ' K2) M' _ undef from how2);have hm:=hw1.merge (d:=K) (k:=K2) (e:=Oo e2 e c (xss.set j (some ys))) (F:=g2 :: F3) (by rw [e1];rfl) (by rw [e2'];rfl) hne (by
    refine (List.Perm.cons _ r2).trans ?_;rw [← E4];refine (List.perm_middle (a:=g2) (l₁:=φ' K2) (l₂:=F2)).symm.trans ?_;exact List.Perm.append_left _ p1.symm)
   ⟨g2,cap2,cur2,F3,List.Perm.refl _,by rw [p2];simp,p3,by simpa using p4,p5,p6,by simpa using r1⟩
  unfold St;refine StF.less hm λt e he=>?_;rw [Ai,Ai] at he;unfold put at he ⊢;by_cases h5:t=K
  ·rw [if_pos h5] at he ⊢;exact he
  ·rw [if_neg h5] at he ⊢;by_cases h6:t=K2
   ·rw [if_pos h6] at he ⊢;exact he
   ·rw [if_neg h6] at he ⊢;rw [if_neg h5];exact he
theorem InO.chk {e:TypeId} {M M':Nat->Prop} {w:World}:∀ {cs:GZ} {xs:List GW} {F:GY},InO e M w cs (xs.map some) F->(∀ k,k < w.heap.size->M' k->M k)->(∀ k∈F,¬ M' k)->Chk M' w cs xs
 | [],[],_,_,_,_=>rfl
 | c :: cs,x :: xs,F,⟨F1,F2,hF,h1,h2⟩,hs,hM=>by
  refine ⟨[c],cs,rfl,⟨c,rfl,Ow.sl (Ent.sb _ h1 hs) λk hk=>hM k (by rw [hF];exact C0 _ hk)⟩,h2.chk hs λk hk=>hM k (by rw [hF];exact CX _ hk)⟩
 | [],_ :: _,_,h,_,_=>by simp [InO] at h
 | _ :: _,[],_,h,_,_=>by simp [InO] at h
theorem fzo {k e2 e:Nat} {c:Value} {xss:List GW} {R:Prop} (hM:Bd M0 w0) (h:St M0 w0 n Γ a w) (hk:Al Γ k=some (Oo e2 e c (xss.map some))) (r:St M0 w0 n ((k,At c (Va xss)) :: Γ) a w->R):R:=by
 refine r ?_;obtain ⟨M,φ,h⟩:=h;have hks:(Al Γ k).isSome=true:=by rw [hk];rfl
 have hMs:∀ q,q < w.heap.size->(M q/\q ∉ φ k)->M q:=λq _ hq=>hq.1;unfold St;rw [Ai];refine ⟨λq=>M q/\q ∉ φ k,λt=>if t=k then [] else φ t,λt e' he=>?_,λt ht=>?_,λt s hts ht hs=>?_,λq hq=>⟨h.sub q hq,λhm=>?_⟩,λq hq=>h.bd q hq.1,h.fr,h.sz,h.df⟩
 ·simp only [put] at he;by_cases h4:t=k
  ·subst h4;simp only [if_true,Option.some.injEq] at he ⊢;subst he;obtain ⟨g,cap,cur,F',hF,hc,hg,h1,h2,h3,h4⟩:=h.holds t _ hk;show (Va xss).p [] _ w c;refine Va.mkList ⟨some ⟨g,0,none⟩,cap - xss.length,by rw [hc,EA] at *;rw [FM h1],.inr ⟨g,0,rfl,(h4.chk hMs λq hq hm=>hm.2 (hF.mem_iff.2 (DR _ hq))).row λj v hj=>⟨λhm=>hm.2 (hF.mem_iff.2 (DW ..)),?_⟩⟩⟩;have hlt:j < (xss.map some).length:=by
    have:=(CT.1 hj).1;simp only [D0] at this;omega
   rw [DT hlt] at hj;simp only [World.cell?,hg,ED];simpa using hj
  ·simp only [if_neg h4] at he ⊢;exact Ent.sb _ (h.holds t e' he) hMs
 ·by_cases h4:t=k
  ·simp [h4]
  ·simp only [put,if_neg h4] at ht ⊢;have:=h.own t ht;exact ⟨this.1,λq hq=>⟨⟨(this.2 q hq).1,h.apart t k h4 ht hks q hq⟩,(this.2 q hq).2⟩⟩
 ·by_cases h5:t=k
  ·simp [h5]
  ·by_cases h6:s=k
   ·simp [h6]
   ·simp only [put,if_neg h5,if_neg h6] at ht hs ⊢;exact h.apart t s hts ht hs
 ·rcases ((h.own k hks).2 q hm).2 with h1 | h1
  ·have:=hM.1 q hq;omega
  ·exact hM.2 q h1 hq
theorem Oo.at_ {xss:List GW} {m:Int} {y:GW} (h:idx xss m=some y):(xss.map some)[m.toNat]?=some (some y):=by
 obtain ⟨_,_,h⟩:=Aq h;rw [C8,h];rfl
theorem Oo.idx {xss:List GW} {m:Int} {y:GW} (h:Pn.idx xss m=some y):Pn.idx (xss.map some) m=some (some y):=by
 obtain ⟨h0,_,h⟩:=Aq h;unfold Pn.idx;rw [if_pos h0,C8,h];rfl
theorem Oo.idxh {xss:List GW} {m:Int} {y:GW} (h:Pn.idx xss m=some y):Pn.idx ((xss.map some).set m.toNat none) m=some none:=by
 obtain ⟨h0,h1,h⟩:=Aq h;unfold Pn.idx;rw [if_pos h0,DK (by simp;omega)]
theorem Oo.hole {xss:List GW} {m:Int} {y:GW} (h:Pn.idx xss m=some y):((xss.map some).set m.toNat none)[m.toNat]?=some none:=by
 obtain ⟨h0,h1,h⟩:=Aq h;rw [DK (by simp;omega)]
theorem oor {K e2 e j:Nat} {c:Value} {xss:List GW} {ys:GW} {R:Prop} (h:St M0 w0 n Γ a w) (hk:Al Γ K=some (Oo e2 e c (((xss.map some).set j none).set j (some ys)))) (r:St M0 w0 n ((K,Oo e2 e c ((xss.set j ys).map some)) :: Γ) a w->R):R:=by
 refine r (StF.less h λt e' he=>?_);have e1:(xss.set j ys).map some=((xss.map some).set j none).set j (some ys):=by rw [List.set_set,List.map_set]
 rw [Ai] at he;unfold put at he;split at he
 ·rename_i ht;rw [ht,hk,← e1];exact he
 ·exact he
end
end Go.Pn
namespace Go.Pn
open Go Go.RowKit
variable {rr:Option Nat}
def BuAt (T e b:Nat) (v:Value) (s:GZ) (w:World):Prop:=
 (∃ p,(p=.pointer none\/p=pb b 0)/\w.heap[b]?=some (.cells #[p,v] T (0,0)))/\w.ownsRow 0 e 1 v s.length s/\v.ownBlock≠some b
def Bw (T e b:Nat) (s:G0):Ent where
 p F _ w _:=∃ v:Value,F=b :: v.ownBlock.toList/\BuAt T e b v (Lib.strCells s) w
 st {_ _ w _ _} h x:=by
  obtain ⟨v,rfl,⟨p,hp,hb⟩,ho,hne⟩:=h;have hl:b < w.heap.size:=(CQ.1 hb).1;refine ⟨v,rfl,⟨p,hp,?_⟩,Qh ho λk hk=>?_,hne⟩
  ·rw [x.block b hl smp_];exact hb
  ·exact x.block k (ho.lt k hk).2 λhm=>hm.2 (by simp [hk])
 sb h _:=h
instance {T e b:Nat} {s:G0}:Gh (Bw T e b s):=⟨λh _=>h⟩
def MBu (T e:Nat):Ent where
 p F M w v:=∃ b,v=pb b 0/\(Bw T e b .empty).p F M w v
 st h x:=let ⟨b,hv,h⟩:=h;⟨b,hv,(Bw T e b .empty).st h x⟩
 sb h s:=let ⟨b,hv,h⟩:=h;⟨b,hv,(Bw T e b .empty).sb h s⟩
section
variable {P:Program} {M0:Fm} {w0:World} {n:Nat} {Γ:Cx} {Q:Exit->Act->World->Prop} {a:Act} {w:World} {ty:TypeId}
theorem albu {T e:TypeId} (hz1:(P.info? T).map (·.zero)=some (some (.agg #[.pointer none,.slice none 0 0]))):OR P (.alloc T) ty Γ (MBu T e):=by
 refine OR.run λρ M w r=>?_;refine ⟨.pointer (some ⟨w.heap.size,0,none⟩),w.alloc (.cells #[.pointer none,.slice none 0 0] T),λ_ _ _ _=>?_,Ext.alloc _ _ _,[w.heap.size],by simp,λk hk=>?_,w.heap.size,rfl,.slice none 0 0,rfl,⟨_,.inl rfl,Bq _ _⟩,World.ownsRow_nil _ _ _ _,by simp [Value.ownBlock]⟩
 ·cases hi:P.info? T with
  | none=>simp [hi] at hz1
  | some i=>
   simp only [hi,DG,Option.some.injEq] at hz1;simp only [execOp,Instr.alloc,zeroValue,typeInfo,CM,run_program,CL,hi,CN,hz1,newVar,newRow,run_newObj];rfl
 ·simp at hk;subst hk;exact ⟨Nat.le_refl _,by simp⟩
theorem St.openBu {d T e:Nat} (h:St M0 w0 n Γ a w) (k:Nat) (hd:Al Γ d=some (MBu T e)) (hne:Nat.beq d k=false):∃ b,St M0 w0 n ((d,Qv (pb b 0)) :: (k,Bw T e b .empty) :: Γ) a w:=by
 obtain ⟨M,φ,h⟩:=h;obtain ⟨b,hv,hb⟩:=h.holds d _ hd;refine ⟨b,?_⟩;unfold St;rw [Eh];exact h.split (by rw [hd];rfl) (DL hne) ⟨rfl,hv⟩ hb
theorem sqbu {ops:Array Oper} {rest:List Oper} {d:Nat} {op:Op} {pos:String} {aft:Array Edge} {T e:Nat} (K:Nat)
  (hs:St M0 w0 n Γ a w) (ho:OR P op ty Γ (MBu T e)) (hn:Nat.blt d n=true) (hdk:Nat.beq d K=false)
  (k:∀ b a' w',St M0 w0 n ((d,Qv (pb b 0)) :: (K,Bw T e b .empty) :: (d,MBu T e) :: Γ) a' w'->wpListIn (Fr rr) 0 P ops Q rest a' w'):wpListIn (Fr rr) 0 P ops Q (⟨some d,op,ty,pos,aft,none⟩ :: rest) a w:=
 sq hs ho hn λa' w' s=>let ⟨b,s⟩:=s.openBu K (by simp [Al]) hdk;k b a' w' s
theorem bu_ext {w w':World} {b:Nat} {v:Value} (hg:w.grownBy w' v.ownBlock) (hd:w.drawn<=w'.drawn):Ext (λk=>k=b\/v.ownBlock=some k) w w':=
 ⟨hg.os,hg.tape,hg.output,hg.size,λk hk hn=>hg.block k hk λe=>hn (.inr e.symm),hd⟩
theorem buc {f T e n0:Nat} {ps:List Ent} {vs0:GZ->GZ} {R:Value} {s r:G0} (hc:cal P f=true)
  (hps:∀ {M:Nat->Prop} {w:World} {vs:GZ},Nu M w (Qv (pb n0 0) :: ps) vs->vs=vs0 vs)
  (h:∀ (vs:GZ) (v:Value) (w:World) (M:Nat->Prop),Nu M w (Qv (pb n0 0) :: ps) vs->BuAt T e n0 v (Lib.strCells s) w->Calls P f (vs0 vs).toArray w λen w'=>en=.returned R/\Ext (λk=>k=n0\/v.ownBlock=some k) w w'/\∃ v',BuAt T e n0 v' (Lib.strCells r) w'/\∀ k,v'.ownBlock=some k->v.ownBlock=some k\/w.heap.size<=k) :
  Cg P f (Qv (pb n0 0) :: ps) [Bw T e n0 s] (Rz (λ_:Unit=>Dd) (λ_=>[Bw T e n0 r])):=by
 refine ⟨hc,λvs M w Ft hM hf ho hnd hFM=>?_⟩;obtain ⟨F1,_,rfl,hown,rfl⟩:=ho;obtain ⟨v,rfl,hb⟩:=hown undef;rw [hps hf];refine (h vs v w M hf hb).mono ?_;rintro en w' ⟨rfl,hx,v',hb',hk⟩;refine ⟨_,n0 :: v'.ownBlock.toList,rfl,hx.mono λk _ hk=>?_,?_,λk hk'=>?_,(),rfl,n0 :: v'.ownBlock.toList,[],by simp,λu=>⟨v',rfl,hb'⟩,rfl⟩
 ·rcases hk with rfl | hk
  ·simp
  ·simp [hk]
 ·cases hv:v'.ownBlock with
  | none=>simp
  | some k=>
   have:=hb'.2.2;rw [hv] at this;simp only [Option.toList_some,List.nodup_cons,EV,List.not_mem_nil,not_false_eq_true,DH,and_self,and_true];intro e;exact this (by rw [e])
 ·simp only [C7,Option.mem_toList] at hk';rcases hk' with rfl | hk'
  ·exact .inl smp_
  ·rcases hk k hk' with h1 | h1
   ·exact .inl (by simp [h1])
   ·exact .inr ⟨h1,(hb'.2.1.lt k hk').2⟩
end
end Go.Pn
namespace Go.Proofs
open Go Go.RowKit
theorem cc_used (b:Nat) (w:World) (h0:w.cell? ⟨b,0,none⟩=some (.pointer (some ⟨b,0,none⟩))) :
  Calls Tryz.prog 99 #[.pointer (some ⟨b,0,none⟩)] w λe w'=>e=.returned (.tuple #[])/\w'=w:=by
 obtain ⟨j,hj,_⟩:=E5.1 (show (Tryz.prog.info? 115).map (·.size)=some 2 by kernel_rfl)
 go_enter Tryz.func99,Tryz.ntmps99
 go_wp2
 rw [Lib.run_neq_ptr_same w _ Tryz.underlying112 hj]
 go_wp2
 go_end0
 exact ⟨rfl,rfl⟩
theorem BU (b:Nat) (w:World) (h0:w.cell? ⟨b,0,none⟩=some (.pointer none)) (hsh:w.shape? b=some (115,2)) (hfz:w.frozen? ⟨b,0,none⟩=false) :
  Calls Tryz.prog 99 #[.pointer (some ⟨b,0,none⟩)] w λe w'=>e=.returned (.tuple #[])/\w'=w.setCell ⟨b,0,none⟩ (.pointer (some ⟨b,0,none⟩)):=by
 obtain ⟨j,hj,hjs⟩:=E5.1 (show (Tryz.prog.info? 115).map (·.size)=some 2 by kernel_rfl)
 go_enter Tryz.func99,Tryz.ntmps99
 go_wp2
 rw [Lib.run_to_unsafe w ⟨b,0,none⟩ Tryz.underlying112 Tryz.underlying207 hj (by rw [hjs];decide) hsh (Nat.zero_lt_succ 1)];simp only [Result.andThen];rw [Oper.upon_value]
 go_wp2
 rw [run_callFunc_extern Tryz.func140 Go.Pn.kr_ Go.Pn.kr_ Go.Pn.kr_ (e:=Extern.AbiNoEscape.same) Go.Pn.kr_];rw [Lib.run_noEscape];simp only [Result.andThen];rw [Oper.upon_value]
 go_wp2
 rw [Lib.run_from_unsafe w ⟨b,0,none⟩ Tryz.underlying207 Tryz.underlying112 hj hsh Go.Pn.kr_];simp only [Result.andThen];rw [Oper.upon_value]
 go_wp2
 go_end0
 exact ⟨rfl,rfl⟩
theorem CD (b:Nat) (v:Value) (s:GZ) (w:World) (h:Pn.BuAt 115 5 b v s w) :
  Calls Tryz.prog 99 #[.pointer (some ⟨b,0,none⟩)] w λe w'=>e=.returned (.tuple #[])/\w'.heap[b]?=some (.cells #[Pn.pb b 0,v] 115 (0,0))/\w'.ownsRow 0 5 1 v s.length s/\v.ownBlock≠some b/\Pn.Ext (λk=>k=b) w w':=by
 obtain ⟨⟨p,rfl | rfl,hb⟩,ho,hne⟩:=h
 ·have ha:Lib.BuilderAt 115 5 0 b (.pointer none) s w:=⟨Nat.zero_le _,v,hb,ho,hne⟩;refine (BU b w ha.cell0 ha.shape ha.frozen0).mono ?_;rintro e w' ⟨rfl,rfl⟩;refine ⟨rfl,by simp [World.setCell,FA,hb,Pn.pb],?_,hne,Pn.Ext.setCell w ⟨b,0,none⟩ _ rfl⟩;exact ho.kept (row:=some b) ⟨rfl,rfl,rfl,by simp [World.setCell],λk _ hk=>Below.heap_setCell _ _ _ _ (λe=>hk (by simp [e]))⟩ (Or.inr hne)
 ·have ha:Lib.BuilderAt 115 5 0 b (Pn.pb b 0) s w:=⟨Nat.zero_le _,v,hb,ho,hne⟩;refine (cc_used b w ha.cell0).mono ?_;rintro e w' ⟨rfl,rfl⟩;exact ⟨rfl,hb,ho,hne,Pn.Ext.refl _ _⟩
theorem CE {b:Nat} {p v v':Value} {s s':GZ} {w w1 w2:World} (hx1:Pn.Ext (λk=>k=b) w w1) (hl:v.ownBlock≠some b) (hb2:w2.heap[b]?=some (.cells #[Pn.pb b 0,v] 115 (0,0))) (hx2:Pn.Ext (λk=>k=b\/v.ownBlock=some k) w1 w2) (hown':w2.ownsRow 0 5 1 v' s'.length s') (hk:∀ k,v'.ownBlock=some k->v.ownBlock=some k\/w.heap.size<=k) :
  Pn.Ext (λk=>k=b\/v.ownBlock=some k) w (w2.setCell ⟨b,1,none⟩ v')/\∃ v'',Pn.BuAt 115 5 b v'' s' (w2.setCell ⟨b,1,none⟩ v')/\∀ k,v''.ownBlock=some k->v.ownBlock=some k\/w.heap.size<=k:=by
 refine ⟨(hx1.mono λk _ hk=>.inl hk).trans (hx2.trans (Pn.Ext.setCell w2 ⟨b,1,none⟩ _ (.inl rfl))),v',?_,hk⟩;obtain ⟨_,v2,hb3,ho3,hne3⟩:=Lib.BuilderAt.put (T:=115) (e:=5) (EP b) hb2 hown' (by decide);have:v2=v':=by
  have h1:(w2.setCell ⟨b,1,none⟩ v').heap[b]?=some (.cells #[Pn.pb b 0,v'] 115 (0,0)):=by simp [World.setCell,FA,hb2]
  rw [h1] at hb3;simp at hb3;exact hb3.symm
 subst this;exact ⟨⟨_,.inr rfl,hb3⟩,ho3,hne3⟩
theorem bu_wb (b:Nat) (v:Value) (bs:GZ) (c:Int) (w:World) (h:Pn.BuAt 115 5 b v bs w) (hlen:bs.length + 1<=140737488355328) :
  Calls Tryz.prog 61 #[.pointer (some ⟨b,0,none⟩),.int .u8 c] w λe w'=>e=.returned .nilIface/\Pn.Ext (λk=>k=b\/v.ownBlock=some k) w w'/\∃ v',Pn.BuAt 115 5 b v' (bs ++ [.int .u8 c]) w'/\∀ k,v'.ownBlock=some k->v.ownBlock=some k\/w.heap.size<=k:=by
 obtain ⟨i0,hi,hz0,hz1,hz2⟩:=info_parts (show (Tryz.prog.info? 5).map (λi=>(i.zero,i.size,i.bytes))=some (some (.int .u8 0),1,1) by kernel_rfl);have e240:∀ args w,(callFunc 99 args).run Tryz.prog w=.ok (.enter 99 args) w:=enters_of Tryz.func99 Go.Pn.kr_ rfl
 go_enter Tryz.func61,Tryz.ntmps61
 go_wp2_with (go_at_fn 99;refine (CD b v bs _ h).mono ?_)
 rintro e w1 ⟨rfl,hbk,hown,hne,hx1⟩;have c0:w1.cell? ⟨b,0,none⟩=some (.pointer (some ⟨b,0,none⟩)):=by rw [D7 hbk];rfl
 have c1:w1.cell? ⟨b,1,none⟩=some v:=by rw [D7 hbk];rfl
 obtain ⟨v',w2,hr,hown',hgrow,_,hat⟩:=run_append_own_at (P:=Tryz.prog) (w:=w1.alloc (.cells #[.int .u8 c] 5)) 0 113 113 5 i0 (.int .u8 0) 1 1 Tryz.underlying113 hi hz0 hz1 hz2 rfl (by decide) v bs.length bs (hown.alloc _) ⟨w1.heap.size,0,none⟩ 1 1 [.int .u8 c] rfl (λj u hj=>by
  match j,hj with
  | 0,hj=>simp at hj;subst hj;simp [Addr.add]) (λu hu=>by simp at hu;subst hu;rfl) (by unfold maxLen;omega) Go.Pn.om_ (EP _)
 have hdr:=Pn.app_dr (P:=Tryz.prog) Tryz.underlying113 hi hz0 hz1 hz2 (hown.alloc (.cells #[.int .u8 c] 5)) (a:=⟨w1.heap.size,0,none⟩) (news:=[.int .u8 c]) rfl (λj u hj=>by
  match j,hj with
  | 0,hj=>simp at hj;subst hj;simp [Addr.add]) (λu hu=>by simp at hu;subst hu;rfl) (by unfold maxLen;omega) Go.Pn.om_ hr
 have hlt:b < w1.heap.size:=(CQ.1 hbk).1;have hb2:w2.heap[b]?=some (.cells #[.pointer (some ⟨b,0,none⟩),v] 115 (0,0)):=by
  rw [hgrow.block b (by simp;omega) (λe=>hne e.symm),Lib.alloc_old w1 _ b hlt];exact hbk
 have d0:w2.cell? ⟨b,0,none⟩=some (.pointer (some ⟨b,0,none⟩)):=by rw [D7 hb2];rfl
 have d1:w2.cell? ⟨b,1,none⟩=some v:=by rw [D7 hb2];rfl
 have f1:w2.frozen? ⟨b,1,none⟩=false:=Lib.frozen_of_heap hb2 1;obtain ⟨g,cap,rfl⟩:∃ g cap,v'=.slice (some ⟨g,0,none⟩) (bs.length + 1) cap:=by
  rcases hown'.2 with ⟨_,h0⟩ | ⟨g,cap,cur,hv,_⟩
  ·omega
  ·exact ⟨g,cap,hv⟩
 go_wp2_with (at_builtin;refine FS _ rfl _ _ _ _ rfl _ _ rfl rfl _ _ hr ?_)
 go_ret
 refine ⟨rfl,?_⟩;refine CE (p:=.pointer none) (s:=bs) hx1 hne hb2 ((Pn.Ext.alloc _ w1 _).trans (Pn.bu_ext hgrow hdr)) (by simpa using hown') (λk hk=>?_);have:=hx1.size;rcases hat with h1 | h1
 ·exact .inl (by rw [← h1];exact hk)
 ·rw [h1] at hk;injection hk with hk;rw [World.size_alloc] at hk;exact .inr Go.Pn.om_
theorem str_own {P:Program} {t u ty e:TypeId} {i:TypeInfo} (ht:P.underlying t=some (.slice e)) (hu:P.underlying u=some .string) (hi:P.info? e=some i) (hz:i.zero=some (.int .u8 0)) (hsize:i.size=1) (hby:i.bytes=1)
  {v v':Value} {n:Nat} {xs:GZ} {w w':World} {s:G0} (hown:w.ownsRow 0 e 1 v n xs) (hb:n + s.size<=140737488355328) (hr:(Builtin.append_ #[t,u] ty #[v,.string s]).run P w=.ok v' w') :
  (∀ k,v'.ownBlock=some k->v.ownBlock=some k\/w.heap.size<=k)/\w.drawn<=w'.drawn:=by
 have hxl:xs.length=n:=by simpa using hown.1
 rcases hown.2 with ⟨rfl,rfl⟩ | ⟨g,cap,cur,rfl,hbg,hg,hnc,hcm,hcs,htake⟩
 ·by_cases hm:s.size=0
  ·have hn:Lib.strCells s=[]:=DZ (by rw [F0];exact hm);have hf:=Lib.run_firstCells_string (P:=P) w 1 s;rw [hm] at hf;have:(Builtin.append_ #[t,u] ty #[.slice none 0 0,.string s]).run P w=.ok (.slice none 0 0) w:=by
    simp [Builtin.append_,run_underlying ht,run_underlying hu,sizeOf,typeInfo,hi,hsize,Builtin.lenOf,hm,hf]
   rw [this] at hr;injection hr with h1 h2;subst h1 h2;exact ⟨λk hk=>by simp [Value.ownBlock] at hk,C5 _⟩
  ·have:=run_append_nil_string (P:=P) w t u ty e i (.int .u8 0) ht hu hi hz s Go.Pn.om_ Go.Pn.om_ (by rw [hby];omega);rw [this] at hr;injection hr with h1 h2;subst h1 h2;exact ⟨λk hk=>by simp [Value.ownBlock] at hk;exact .inr Go.Pn.om_,GM _⟩
 ·by_cases hroom:n + s.size<=cap
  ·have:=Lib.run_append_room_string (P:=P) w t u ty e i ht hu hi hsize g n cap cur hg s hroom Go.Pn.om_;rw [this] at hr;injection hr with h1 h2;subst h1 h2;exact ⟨λk hk=>.inl hk,C5 _⟩
  ·have:=Lib.run_append_grow_string (P:=P) w t u ty e i (.int .u8 0) ht hu hi hz ⟨g,0,none⟩ n cap xs (by rw [hsize];exact hown.1) (hown.cells rfl) s Go.Pn.om_ Go.Pn.om_ (growslice_fits Go.Pn.om_ (by rw [hby];omega));rw [this] at hr;injection hr with h1 h2;subst h1 h2;exact ⟨λk hk=>by simp [Value.ownBlock] at hk;exact .inr Go.Pn.om_,GM _⟩
theorem bu_ws (b:Nat) (v:Value) (bs:GZ) (s:G0) (w:World) (h:Pn.BuAt 115 5 b v bs w) (hlen:bs.length + s.size<=140737488355328) :
  Calls Tryz.prog 59 #[.pointer (some ⟨b,0,none⟩),.string s] w λe w'=>e=.returned (.tuple #[.int .i64 s.size,.nilIface])/\Pn.Ext (λk=>k=b\/v.ownBlock=some k) w w'/\∃ v',Pn.BuAt 115 5 b v' (bs ++ Lib.strCells s) w'/\∀ k,v'.ownBlock=some k->v.ownBlock=some k\/w.heap.size<=k:=by
 obtain ⟨i0,hi,hz0,hz1,hz2⟩:=info_parts (show (Tryz.prog.info? 5).map (λi=>(i.zero,i.size,i.bytes))=some (some (.int .u8 0),1,1) by kernel_rfl);have e240:∀ args w,(callFunc 99 args).run Tryz.prog w=.ok (.enter 99 args) w:=enters_of Tryz.func99 Go.Pn.kr_ rfl
 go_enter Tryz.func59,Tryz.ntmps59
 go_wp2_with (go_at_fn 99;refine (CD b v bs _ h).mono ?_)
 rintro e w1 ⟨rfl,hbk,hown,hne,hx1⟩;have c0:w1.cell? ⟨b,0,none⟩=some (.pointer (some ⟨b,0,none⟩)):=by rw [D7 hbk];rfl
 have c1:w1.cell? ⟨b,1,none⟩=some v:=by rw [D7 hbk];rfl
 obtain ⟨v',w2,hr,hown',hgrow,_⟩:=Lib.run_append_own_string (P:=Tryz.prog) w1 0 113 9 113 5 i0 Tryz.underlying113 Tryz.underlying9 hi hz0 hz1 hz2 v bs.length bs hown s (by unfold maxLen;omega) hlen (EP _);have hat:=str_own Tryz.underlying113 Tryz.underlying9 hi hz0 hz1 hz2 hown hlen hr;have hlt:b < w1.heap.size:=(CQ.1 hbk).1;have hb2:w2.heap[b]?=some (.cells #[.pointer (some ⟨b,0,none⟩),v] 115 (0,0)):=by
  rw [hgrow.block b hlt (λe=>hne e.symm)];exact hbk
 have d0:w2.cell? ⟨b,0,none⟩=some (.pointer (some ⟨b,0,none⟩)):=by rw [D7 hb2];rfl
 have d1:w2.cell? ⟨b,1,none⟩=some v:=by rw [D7 hb2];rfl
 have f1:w2.frozen? ⟨b,1,none⟩=false:=Lib.frozen_of_heap hb2 1;obtain ⟨ao,n',cap,rfl⟩:∃ ao n' cap,v'=.slice ao n' cap:=by
  rcases hown'.2 with ⟨hv,_⟩ | ⟨g,cap,cur,hv,_⟩
  ·exact ⟨_,_,_,hv⟩
  ·exact ⟨_,_,_,hv⟩
 go_wp2_with (at_builtin;refine FS _ rfl _ _ _ _ rfl _ _ rfl rfl _ _ hr ?_)
 go_ret2
 refine ⟨rfl,?_⟩;refine CE (p:=.pointer none) (s:=bs) hx1 hne hb2 (Pn.bu_ext hgrow hat.2) (by simpa [F0] using hown') (λk hk=>?_);have:=hx1.size;rcases hat.1 k hk with h1 | h1
 ·exact .inl h1
 ·exact .inr Go.Pn.om_
theorem fz_ext {w:World} {g:Nat} (n:Nat) {M:Nat->Prop} (h:M g):Pn.Ext M w (w.freeze ⟨g,0,none⟩ n):=by
 unfold World.freeze;split
 ·exact Pn.Ext.refl _ _
 ·refine ⟨rfl,rfl,rfl,by simp,λk hk hn=>?_,C5 _⟩;simp only [FA];rw [if_neg (λe=>hn (by rw [← e];exact h))]
theorem bu_s1 (b g cap:Nat) (p:Value) (cur:Array Value) (l:List UInt8) (w:World) (h0:l≠[]) (hbk:w.heap[b]?=some (.cells #[p,.slice (some ⟨g,0,none⟩) l.length cap] 115 (0,0))) (hg:w.heap[g]?=some (.cells cur 5 (0,0))) (hnc:l.length<=cap) (hcm:cap<=maxLen) (hcs:cur.size=cap) (htk:∀ j x,l[j]?=some x->w.cell? ((⟨g,0,none⟩:Addr).add j)=some (.int .u8 x.toNat)) :
  Calls Tryz.prog 62 #[.pointer (some ⟨b,0,none⟩)] w λe w'=>e=.returned (.string ⟨l.toArray⟩)/\Pn.Ext (λk=>k=g) w w':=by
 have hl0:l.length≠0:=by simpa using h0
 have c1:w.drew.cell? ⟨b,1,none⟩=some (.slice (some ⟨g,0,none⟩) l.length cap):=by
  have:w.drew.heap[b]?=some (.cells #[p,.slice (some ⟨g,0,none⟩) l.length cap] 115 (0,0)):=hbk;rw [D7 this];rfl
 have hSD:(Builtin.unsafeSliceData_ #[113] 166 #[.slice (some ⟨g,0,none⟩) l.length cap]).run Tryz.prog w.drew=.ok (.pointer (some ⟨g,0,none⟩)) w.drew:=
  Lib.run_unsafeSliceData_row _ _ _ _ _ _ Go.Pn.om_
 have hUS:(Builtin.unsafeString_ #[166,3] 9 #[.pointer (some ⟨g,0,none⟩),.int .i64 l.length]).run Tryz.prog w.drew=.ok (.string ⟨l.toArray⟩) (w.drew.freeze ⟨g,0,none⟩ l.length):=by
  refine Lib.run_unsafeString_row w.drew 166 3 9 5 Tryz.underlying166 Go.Pn.kr_ g cur.size (by have hg':w.drew.heap[g]?=some (.cells cur 5 (0,0)):=hg;simp [World.shape?,hg']) l h0 Go.Pn.om_ (by unfold maxLen at hcm;omega) ?_;intro j x hx;exact htk j x hx
 have mixed:Tryz.prog.follows Departure.mixedOrders=true:=by kernel_rfl
 go_enter Tryz.func62,Tryz.ntmps62
 go_wp2
 go_region_o
 all_goals (go_wp2;go_ret;exact ⟨rfl,(Pn.Ext.drew _ w).trans (fz_ext _ rfl)⟩)
theorem bu_s0 (b:Nat) (p:Value) (w:World) (hbk:w.heap[b]?=some (.cells #[p,.slice none 0 0] 115 (0,0))) :
  Calls Tryz.prog 62 #[.pointer (some ⟨b,0,none⟩)] w λe w'=>e=.returned (.string ⟨#[]⟩)/\Pn.Ext Pn.No w w':=by
 have hUS:∀ (W:World) (q:Option Addr),(Builtin.unsafeString_ #[166,3] 9 #[.pointer q,.int .i64 0]).run Tryz.prog W=.ok (.string .empty) W:=λW q=>GB W _ _ _ q;have c1:w.drew.cell? ⟨b,1,none⟩=some (.slice none 0 0):=by
  have:w.drew.heap[b]?=some (.cells #[p,.slice none 0 0] 115 (0,0)):=hbk;rw [D7 this];rfl
 have hSD:(Builtin.unsafeSliceData_ #[113] 166 #[.slice none 0 0]).run Tryz.prog w.drew=.ok (.pointer none) w.drew:=rfl;have mixed:Tryz.prog.follows Departure.mixedOrders=true:=by kernel_rfl
 go_enter Tryz.func62,Tryz.ntmps62
 go_wp2
 go_region_o
 all_goals (go_wp2;go_ret;exact ⟨rfl,Pn.Ext.drew _ w⟩)
theorem bu_s00 (b g:Nat) (p:Value) (cur:Array Value) (w:World) (hbk:w.heap[b]?=some (.cells #[p,.slice (some ⟨g,0,none⟩) 0 0] 115 (0,0))) (hg:w.heap[g]?=some (.cells cur 5 (0,0))) :
  Calls Tryz.prog 62 #[.pointer (some ⟨b,0,none⟩)] w λe w'=>e=.returned (.string ⟨#[]⟩)/\Pn.Ext Pn.No w w':=by
 have hUS:∀ (W:World) (q:Option Addr),(Builtin.unsafeString_ #[166,3] 9 #[.pointer q,.int .i64 0]).run Tryz.prog W=.ok (.string .empty) W:=λW q=>GB W _ _ _ q;have hlt:b < w.heap.size:=(CQ.1 hbk).1;have c1:w.drew.cell? ⟨b,1,none⟩=some (.slice (some ⟨g,0,none⟩) 0 0):=by
  have:w.drew.heap[b]?=some (.cells #[p,.slice (some ⟨g,0,none⟩) 0 0] 115 (0,0)):=hbk;rw [D7 this];rfl
 have hSD:(Builtin.unsafeSliceData_ #[113] 166 #[.slice (some ⟨g,0,none⟩) 0 0]).run Tryz.prog w.drew=.ok (.pointer (some ⟨w.drew.heap.size,0,none⟩)) (w.drew.alloc (.view ⟨g,0,none⟩ 5)):=
  Lib.run_unsafeSliceData_zero w.drew _ _ 5 Tryz.underlying166 ⟨g,0,none⟩ 0 (5,cur.size) (by have hg':w.drew.heap[g]?=some (.cells cur 5 (0,0)):=hg;simp [World.shape?,hg'])
 have c2:(w.drew.alloc (.view ⟨g,0,none⟩ 5)).cell? ⟨b,1,none⟩=some (.slice (some ⟨g,0,none⟩) 0 0):=by
  have:(w.drew.alloc (.view ⟨g,0,none⟩ 5)).heap[b]?=_:=(Lib.alloc_old w.drew _ b hlt).trans hbk;rw [D7 this];rfl
 have c3:(w.alloc (.view ⟨g,0,none⟩ 5)).drew.cell? ⟨b,1,none⟩=some (.slice (some ⟨g,0,none⟩) 0 0):=c2;have c0:w.cell? ⟨b,1,none⟩=some (.slice (some ⟨g,0,none⟩) 0 0):=c1;have mixed:Tryz.prog.follows Departure.mixedOrders=true:=by kernel_rfl
 go_enter Tryz.func62,Tryz.ntmps62
 go_wp2
 go_region_o
 all_goals (go_wp2;go_ret;exact ⟨rfl,(Pn.Ext.drew _ w).trans (Pn.Ext.alloc _ _ _)⟩)
theorem bu_s01 (b g cap:Nat) (p:Value) (w:World) (hc0:cap≠0) (hbk:w.heap[b]?=some (.cells #[p,.slice (some ⟨g,0,none⟩) 0 cap] 115 (0,0))) :
  Calls Tryz.prog 62 #[.pointer (some ⟨b,0,none⟩)] w λe w'=>e=.returned (.string ⟨#[]⟩)/\Pn.Ext Pn.No w w':=by
 have hUS:∀ (W:World) (q:Option Addr),(Builtin.unsafeString_ #[166,3] 9 #[.pointer q,.int .i64 0]).run Tryz.prog W=.ok (.string .empty) W:=λW q=>GB W _ _ _ q;have c1:w.drew.cell? ⟨b,1,none⟩=some (.slice (some ⟨g,0,none⟩) 0 cap):=by
  have:w.drew.heap[b]?=some (.cells #[p,.slice (some ⟨g,0,none⟩) 0 cap] 115 (0,0)):=hbk;rw [D7 this];rfl
 have hSD:(Builtin.unsafeSliceData_ #[113] 166 #[.slice (some ⟨g,0,none⟩) 0 cap]).run Tryz.prog w.drew=.ok (.pointer (some ⟨g,0,none⟩)) w.drew:=
  Lib.run_unsafeSliceData_row _ _ _ _ _ _ hc0
 clear hc0;have mixed:Tryz.prog.follows Departure.mixedOrders=true:=by kernel_rfl
 go_enter Tryz.func62,Tryz.ntmps62
 go_wp2
 go_region_o
 all_goals (go_wp2;go_ret;exact ⟨rfl,Pn.Ext.drew _ w⟩)
theorem bu_str (b:Nat) (v:Value) (l:List UInt8) (w:World) (h:Pn.BuAt 115 5 b v (Lib.byteCells l) w) :
  Calls Tryz.prog 62 #[.pointer (some ⟨b,0,none⟩)] w λe w'=>e=.returned (.string ⟨l.toArray⟩)/\Pn.Ext (λk=>k=b\/v.ownBlock=some k) w w':=by
 obtain ⟨⟨p,_,hb⟩,ho,hne⟩:=h;rw [Lib.byteCells_length] at ho;rcases ho.2 with ⟨rfl,h0⟩ | ⟨g,cap,cur,rfl,_,hg,hnc,hcm,hcs,htk⟩
 ·obtain rfl:=DZ h0;exact (bu_s0 b p w hb).mono λe w' h=>⟨h.1,h.2.no⟩
 ·cases l with
  | nil=>
   by_cases hc:cap=0
   ·subst hc;exact (bu_s00 b g p cur w hb hg).mono λe w' h=>⟨h.1,h.2.no⟩
   ·exact (bu_s01 b g cap p w hc hb).mono λe w' h=>⟨h.1,h.2.no⟩
  | cons x r=>
   refine (bu_s1 b g cap p cur (x :: r) w Go.Pn.smp_ hb hg hnc hcm Go.Pn.om_ ?_).mono λe w' h=>⟨h.1,h.2.mono λk _ hk=>.inr (by rw [hk];rfl)⟩;intro j x hx;exact ho.cells (g:=g) rfl j (.int .u8 x.toNat) (by simp only [Lib.byteCells,C8,hx,DG])
end Go.Proofs
namespace Go.Pn
open Go Go.RowKit Go.Proofs
def m59 (f:Nat) (v0:G0) (v1:G0):Option G0:=if v1.size + v0.size<=1000000000 then some (v1 ++ v0) else none
theorem s59 (f:Nat) (n0:Nat) (v0:G0) (v1:G0) (r:G0) (hm:m59 f v0 v1=some r):Cg Tryz.prog 59 [Qv (pb n0 0),Va v0] [Bw 115 5 n0 (v1)] (Rz (λx:Unit=>Dd) (λx=>[Bw 115 5 n0 (r)])):=by
 unfold m59 at hm;split at hm
 case isFalse=>cases hm
 rename_i hb;obtain rfl:=Option.some.inj hm;refine buc (vs0:=λ_=>[pb n0 0,.string v0]) (R:=.tuple #[.int .i64 v0.size,.nilIface]) kr_ ?_ ?_
 ·intro M w vs hf
  match vs,hf with
  | [a,b],⟨⟨_,ha⟩,hb,_⟩=>rw [show a=pb n0 0 from ha,Va.str hb]
 ·intro vs v w M hf h;refine (Proofs.bu_ws n0 v (Lib.strCells v1) v0 w h (by rw [F0];omega)).mono ?_;rintro e w' ⟨rfl,h1,v',h2,h3⟩;refine ⟨rfl,h1,v',?_,h3⟩;have:Lib.strCells (v1 ++ v0)=Lib.strCells v1 ++ Lib.strCells v0:=by simp [Lib.strCells]
  rw [this];exact h2
def m61 (f:Nat) (v0:UInt8) (v1:G0):Option G0:=if v1.size + 1<=1000000000 then some (v1.push v0) else none
theorem s61 (f:Nat) (n0:Nat) (v0:UInt8) (v1:G0) (r:G0) (hm:m61 f v0 v1=some r):Cg Tryz.prog 61 [Qv (pb n0 0),Va v0] [Bw 115 5 n0 (v1)] (Rz (λx:Unit=>Dd) (λx=>[Bw 115 5 n0 (r)])):=by
 unfold m61 at hm;split at hm
 case isFalse=>cases hm
 rename_i hb;obtain rfl:=Option.some.inj hm;refine buc (vs0:=λ_=>[pb n0 0,.int .u8 v0.toNat]) (R:=.nilIface) kr_ ?_ ?_
 ·intro M w vs hf
  match vs,hf with
  | [a,b],⟨⟨_,ha⟩,hb,_⟩=>rw [show a=pb n0 0 from ha,Va.byte hb]
 ·intro vs v w M hf h;refine (Proofs.bu_wb n0 v (Lib.strCells v1) v0.toNat w h (by rw [F0];omega)).mono ?_;rintro e w' ⟨rfl,h1,v',h2,h3⟩;refine ⟨rfl,h1,v',?_,h3⟩;have:Lib.strCells (v1.push v0)=Lib.strCells v1 ++ [.int .u8 v0.toNat]:=by simp [Lib.strCells,ByteArray.push]
  rw [this];exact h2
def m62 (f:Nat) (v0:G0):Option G0:=some v0
theorem s62 (f:Nat) (n0:Nat) (v0:G0) (r:G0) (hm:m62 f v0=some r):Cg Tryz.prog 62 [Qv (pb n0 0)] [Bw 115 5 n0 (v0)] (Rz (λx:Unit=>Va (r)) (λx=>[Dd])):=by
 obtain rfl:=Option.some.inj hm;refine ⟨by kernel_rfl,λvs M w Ft hM hf ho hnd hFM=>?_⟩;obtain ⟨F1,_,rfl,hown,rfl⟩:=ho;obtain ⟨v,rfl,hb⟩:=hown undef
 match vs,hf with
 | [a],⟨⟨_,ha⟩,_⟩=>
  rw [show a=pb n0 0 from ha];refine (Proofs.bu_str n0 v v0.data.toList w (by rw [← Lib.strCells_eq];exact hb)).mono ?_;rintro e w' ⟨rfl,hx⟩;refine ⟨_,[],rfl,hx.mono λk _ hk=>?_,DH,by simp,(),?_⟩
  ·rcases hk with rfl | hk
   ·simp
   ·simp [hk]
  ·exact ⟨Va.mkStr,[],[],rfl,λ_=>rfl,rfl⟩
end Go.Pn
namespace Go.Pn
open Go Go.RowKit Go.Proofs
@[reducible] def lk:Cx->Nat->Option Ent
 | [],_=>none
 | (s,e) :: Γ,t=>match Nat.beq s t with | true=>some e | false=>lk Γ t
theorem Cd:∀ (Γ:Cx) (n:Nat),lk Γ n=Al Γ n
 | [],_=>rfl
 | (s,e) :: Γ,t=>by
  show (match Nat.beq s t with | true=>some e | false=>lk Γ t)=(match Nat.beq s t with | true=>some e | false=>Al Γ t)
  rw [Cd Γ t]
@[reducible] def gt_:List Oper->Nat->Option Tmp
 | [],_=>none
 | o :: _,0=>o.dst
 | _ :: l,j + 1=>gt_ l j
theorem gt_eq:∀ (l:List Oper) (j:Nat) (d:Tmp),gt_ l j=some d->(l[j]?).bind (·.dst)=some d
 | [],_,_,h=>by cases h
 | o :: l,0,d,h=>h
 | o :: l,j + 1,d,h=>by simpa using gt_eq l j d h
class Lk (o:Option Ent) (e:outParam Ent):Prop where h:o=some e
instance {e:Ent}:Lk (some e) e:=⟨rfl⟩
@[reducible] def lk2:Cx->Cx->Nat->Option Ent
 | [],Γ,t=>lk Γ t
 | (s,e) :: Δ,Γ,t=>match Nat.beq s t with | true=>some e | false=>lk2 Δ Γ t
theorem Zm:∀ (Δ Γ:Cx) (n:Nat),lk2 Δ Γ n=lk (Δ ++ Γ) n
 | [],_,_=>rfl
 | (s,e) :: Δ,Γ,t=>by
  show (match Nat.beq s t with | true=>some e | false=>lk2 Δ Γ t)=(match Nat.beq s t with | true=>some e | false=>lk (Δ ++ Γ) t)
  rw [Zm Δ Γ t]
instance {Δ Γ:Cx} {n:Nat} {e:Ent} [h:Lk (lk2 Δ Γ n) e]:Lk (lk (Δ ++ Γ) n) e:=⟨(Zm _ _ _).symm.trans h.h⟩
class Gt (o:Option Tmp) (e:outParam Tmp):Prop where h:o=some e
instance {e:Tmp}:Gt (some e) e:=⟨rfl⟩
theorem gt_o {ops:Array Oper} {L:List Oper} {j d:Nat} (ho:ops.toList=L) (h:gt_ L j=some d):(ops[j]?).bind (·.dst)=some d:=by
 subst ho;have:=gt_eq _ _ _ h
 rwa [ER] at this
@[reducible] def CF (d n:Nat):Option Unit:=match Nat.ble n d with | true=>none | false=>some ()
class Bf (b:Option Unit):Prop where h:b=some ()
instance:Bf (some ()):=⟨rfl⟩
theorem Bf.lt {d n:Nat} (h:Bf (CF d n)):Nat.blt d n=true:=by
 have h:=h.h;unfold CF at h;split at h
 ·cases h
 ·rename_i hb;cases hc:Nat.blt d n with
  | true=>rfl
  | false=>
   have h1:¬ d < n:=λhd=>by
    have:Nat.blt d n=true:=GF hd;rw [this] at hc;cases hc
   have h2:Nat.ble n d=true:=GF om_;rw [h2] at hb;cases hb
class AD (g:Prop) (Γ:Cx) (x:Operand) (e:outParam Ent):Prop where h:g->Od Γ x e
class AO (g:Prop) (P:Program) (op:Op) (Γ:Cx) (e:outParam Ent):Prop where h:g->∀ ty,OR P op ty Γ e
class Ug (g:Prop) (e:Ent) (e':outParam Ent):Prop where h:g->∀ F M w v,e.p F M w v->e'.p F M w v
section
variable {g:Prop} {P:Program} {Γ:Cx}
instance (priority:=low) {e:Ent}:Ug g e e:=⟨λ_ _ _ _ _ h=>h⟩
instance {b c:Bool} {e:Ent}:Ug (b=c) (Gd b c e) e:=⟨λhb _ _ _ _ h=>h.1 hb⟩
instance {b c b2 w:Bool} {e:Ent}:Ug (b=c/\b2=w) (Gd ((b == c) && (b2 == w)) true e) e:=⟨λhb _ _ _ _ h=>h.1 (g2 hb.1 hb.2)⟩
instance {n:Nat} {e e':Ent} [Lk (lk Γ n) e] [Ug g e e']:AD g Γ (.tmp n) e':=⟨λhg ρ M w r=>let ⟨F,hF⟩:=t ((Cd _ _).symm.trans Lk.h) ρ M w r;⟨F,Ug.h hg _ _ _ _ hF⟩⟩
instance {n:Int}:AD g Γ (.const (.int .i64 n)) (Va n):=⟨λ_=>ci⟩
instance {n:Bool}:AD g Γ (.const (.bool n)) (Va n):=⟨λ_=>cb⟩
instance {n:G0}:AD g Γ (.const (.string n)) (Va n):=⟨λ_=>cs⟩
instance (priority:=low) {n:Value}:AD g Γ (.const n) (Qv n):=⟨λ_=>cq⟩
instance {x:Operand} {α:Type} {_:Rep α} {y:α} [AD g Γ x (Va y)]:AO g P (.move x) Γ (Va y):=⟨λh _=>mv (AD.h h)⟩
instance {x:Operand} {α:Type} {_:Rep α} {y:α} [AD g Γ x (Va y)]:AO g P (.assign x) Γ (Va y):=⟨λh _=>sa (AD.h h)⟩
instance {x:Operand} {c:Value} [AD g Γ x (Qv c)]:AO g P (.move x) Γ (Qv c):=⟨λh _=>mvq (AD.h h)⟩
instance {x:Operand} {c:Value} [AD g Γ x (Qv c)]:AO g P (.assign x) Γ (Qv c):=⟨λh _=>saq (AD.h h)⟩
instance (priority:=low) {x:Operand} {e:Ent} [AD g Γ x e] [Zf e]:AO g P (.move x) Γ e:=⟨λh _=>mve (AD.h h)⟩
instance {x y:Operand} {T T':TypeId} {m n:Int} [AD g Γ x (Va m)] [AD g Γ y (Va n)]:AO g P (.binOp .lss T x y T') Γ (Va (decide (m < n))):=⟨λh _=>lt (AD.h h) (AD.h h)⟩
instance {x y:Operand} {T T':TypeId} {m n:Int} [AD g Γ x (Va m)] [AD g Γ y (Va n)]:AO g P (.binOp .leq T x y T') Γ (Va (decide (m<=n))):=⟨λh _=>le (AD.h h) (AD.h h)⟩
instance {x y:Operand} {T T':TypeId} {m n:Int} [AD g Γ x (Va m)] [AD g Γ y (Va n)]:AO g P (.binOp .gtr T x y T') Γ (Va (decide (m > n))):=⟨λh _=>gt (AD.h h) (AD.h h)⟩
instance {x y:Operand} {T T':TypeId} {m n:Int} [AD g Γ x (Va m)] [AD g Γ y (Va n)]:AO g P (.binOp .geq T x y T') Γ (Va (decide (m>=n))):=⟨λh _=>ge (AD.h h) (AD.h h)⟩
instance {x y:Operand} {T T':TypeId} {m n:Int} [AD g Γ x (Va m)] [AD g Γ y (Va n)]:AO g P (.binOp .eql T x y T') Γ (Va (m == n)):=⟨λh _=>eq (AD.h h) (AD.h h)⟩
instance {x y:Operand} {T T':TypeId} {m n:Int} [AD g Γ x (Va m)] [AD g Γ y (Va n)]:AO g P (.binOp .neq T x y T') Γ (Va (m != n)):=⟨λh _=>ne (AD.h h) (AD.h h)⟩
instance {x y:Operand} {T T':TypeId} {m n:Int} [AD g Γ x (Va m)] [AD g Γ y (Va n)]:AO g P (.binOp .add T x y T') Γ (Va (wr (m + n))):=⟨λh _=>ad (AD.h h) (AD.h h)⟩
instance {x y:Operand} {T T':TypeId} {m n:Int} [AD g Γ x (Va m)] [AD g Γ y (Va n)]:AO g P (.binOp .sub T x y T') Γ (Va (wr (m - n))):=⟨λh _=>sb (AD.h h) (AD.h h)⟩
instance {x y:Operand} {T T':TypeId} {m n:Int} [AD g Γ x (Va m)] [AD g Γ y (Va n)]:AO g P (.binOp .mul T x y T') Γ (Va (wr (m * n))):=⟨λh _=>ml (AD.h h) (AD.h h)⟩
instance {x y:Operand} {T T':TypeId} {m n:G0} [AD g Γ x (Va m)] [AD g Γ y (Va n)]:AO g P (.binOp .eql T x y T') Γ (Va (m.toList == n.toList)):=⟨λh _=>seq (AD.h h) (AD.h h)⟩
instance {x:Operand} {T:TypeId} {b:Bool} [AD g Γ x (Va b)]:AO g P (.unOp .not T x) Γ (Va (!b)):=⟨λh _=>nt (AD.h h)⟩
instance {x:Operand} {e1 e2:Ent} [AD g Γ x (T2 e1 e2)] [Zf e1]:AO g P (.extract x 0) Γ e1:=⟨λh _=>x20 (AD.h h)⟩
instance {x:Operand} {e1 e2:Ent} [AD g Γ x (T2 e1 e2)] [Zf e2]:AO g P (.extract x 1) Γ e2:=⟨λh _=>x21 (AD.h h)⟩
instance {x:Operand} {e1 e2 e3:Ent} [AD g Γ x (T3 e1 e2 e3)] [Zf e1]:AO g P (.extract x 0) Γ e1:=⟨λh _=>Pn.x30 (AD.h h)⟩
instance {x:Operand} {e1 e2 e3:Ent} [AD g Γ x (T3 e1 e2 e3)] [Zf e2]:AO g P (.extract x 1) Γ e2:=⟨λh _=>Pn.x31 (AD.h h)⟩
instance {x:Operand} {e1 e2 e3:Ent} [AD g Γ x (T3 e1 e2 e3)] [Zf e3]:AO g P (.extract x 2) Γ e3:=⟨λh _=>Pn.x32 (AD.h h)⟩
instance {T:TypeId} {x:Operand} {α:Type} {_:Rep α} {y:α} [AD g Γ x (Pt y)] [Ty P T α]:AO g P (.load T x) Γ (Va y):=⟨λh _=>ld (AD.h h)⟩
instance {x:Operand} {b o:Nat} [AD g Γ x (Qv (pb b o))]:AO g P (.nilCheck x) Γ (Qv (pb b o)):=⟨λh _=>nkq (AD.h h)⟩
instance {x y:Operand} {T':TypeId} {b c:Bool} [AD g Γ x (Va b)] [AD g Γ y (Va c)]:AO g Tryz.prog (.binOp .eql 4 x y T') Γ (Va (b == c)):=⟨λh _=>beq (AD.h h) (AD.h h) Tryz.underlying4⟩
instance {x y:Operand} {T':TypeId} {b c:Bool} [AD g Γ x (Va b)] [AD g Γ y (Va c)]:AO g Tryz.prog (.binOp .neq 4 x y T') Γ (Va (b != c)):=⟨λh _=>bne (AD.h h) (AD.h h) Tryz.underlying4⟩
instance {x:Operand} {b:G0} [AD g Γ x (Va b)]:AO g Tryz.prog (.call { callee:=.builtin .len,args:=#[x],argTypes:=#[9] }) Γ (Va (b.size:Int)):=⟨λh _=>lns (AD.h h) Tryz.underlying9⟩
class AF (P:Program) (S k:Nat) (α:Type) (hα:Rep α) (β:outParam Type) (hβ:outParam (Rep β)) (f:outParam (α->β)):Prop where h:Fd P S k f
set_option synthInstance.checkSynthOrder false in
instance {S k:Nat} {α β:Type} {hα:Rep α} {hβ:Rep β} {f:α->β} [h:Fd P S k f]:AF P S k α hα β hβ f:=⟨h⟩
instance {S k:Nat} {x:Operand} {α β:Type} {hα:Rep α} {hβ:Rep β} {f:α->β} {y:α} [AD g Γ x (Pt y)] [h:AF P S k α hα β hβ f]:AO g P (.fieldAddr S x k) Γ (Pt (f y)):=⟨λhg _=>have:=h.h;fa (AD.h hg)⟩
instance {T:TypeId} {x:Operand} {α:Type} {_:Rep α} {y:α} [AD g Γ x (Va y)]:AO g P (.box T x) Γ (Pt y):=⟨λh _=>bx (AD.h h)⟩
instance {T:TypeId} {x:Operand} {α:Type} {_:Rep α} {xs:List α} [AD g Γ x (Va xs)] [Es P T α]:AO g P (.call { callee:=.builtin .len,args:=#[x],argTypes:=#[T] }) Γ (Va (xs.length:Int)):=⟨λh _=>ln (AD.h h)⟩
instance {c:Operand} {m:Nat} {b p:Bool} [AD g Γ c (Va b)] [hx:Lk (lk Γ m) (Gd b true (Va p))]:AO g P (.pick c (.tmp m) (.const (.bool false))) Γ (Va (b && p)):=⟨λh _=>paP (AD.h h) ((Cd _ _).symm.trans hx.h)⟩
instance {c:Operand} {m:Nat} {b p:Bool} [AD g Γ c (Va b)] [hx:Lk (lk Γ m) (Gd b false (Va p))]:AO g P (.pick c (.const (.bool true)) (.tmp m)) Γ (Va (b || p)):=⟨λh _=>poP (AD.h h) ((Cd _ _).symm.trans hx.h)⟩
class ADl (g:Prop) (Γ:Cx) (xs:List Operand) (es:List Ent):Prop where h:g->Odl Γ xs es
instance:ADl g Γ [] []:=⟨λ_=>on⟩
instance {x:Operand} {xs:List Operand} {e:Ent} {es:List Ent} [AD g Γ x e] [Zf e] [ADl g Γ xs es]:ADl g Γ (x :: xs) (e :: es):=⟨λh=>oc (AD.h h) (ADl.h h)⟩
class Rn (P:Program) (L:List Oper) (n:Nat) (k:Nat) (l:List Oper) (Γ:Cx) (l':outParam (List Oper)) (Γ':outParam Cx):Prop where
 h:∀ {M0 w0 a w ops Q rr},ops.toList=L->St M0 w0 n Γ a w->(∀ a w,St M0 w0 n Γ' a w->wpListIn (Fr rr) 0 P ops Q l' a w)->wpListIn (Fr rr) 0 P ops Q l a w
variable {L:List Oper} {n k:Nat}
instance {l:List Oper}:Rn P L n 0 l Γ l Γ:=⟨λ_ s h=>h _ _ s⟩
instance {op:Op} {d:Tmp} {ty:TypeId} {pos:String} {aft:Array Edge} {rest l':List Oper} {e:Ent} {Γ':Cx} [AO True P op Γ e] [hn:Bf (CF d n)] [hr:Rn P L n k rest ((d,e) :: Γ) l' Γ'] :
  Rn P L n (k + 1) (⟨some d,op,ty,pos,aft,none⟩ :: rest) Γ l' Γ':=⟨λho s h=>sq s (AO.h trivial ty) hn.lt λ_ _ s=>hr.h ho s h⟩
instance {op:Op} {d j dj:Tmp} {b want:Bool} {ty:TypeId} {pos:String} {aft:Array Edge} {rest l':List Oper} {e:Ent} {Γ':Cx} [hj:Gt (gt_ L j) dj] [hl:Lk (lk Γ dj) (Va b)] [AO (b=want) P op Γ e] [hn:Bf (CF d n)] [hr:Rn P L n k rest ((d,Gd b want e) :: Γ) l' Γ'] :
  Rn P L n (k + 1) (⟨some d,op,ty,pos,aft,some (j,want)⟩ :: rest) Γ l' Γ':=⟨λho s h=>sg s (gt_o ho hj.h) ((Cd _ _).symm.trans hl.h) (λhb=>AO.h hb ty) hn.lt λ_ _ s=>hr.h ho s h⟩
instance {op:Op} {d j dj:Tmp} {b c b2 want:Bool} {ty:TypeId} {pos:String} {aft:Array Edge} {rest l':List Oper} {e:Ent} {Γ':Cx} [hj:Gt (gt_ L j) dj] [hl:Lk (lk Γ dj) (Gd b c (Va b2))] [AO (b=c/\b2=want) P op Γ e] [hn:Bf (CF d n)] [hr:Rn P L n k rest ((d,Gd ((b == c) && (b2 == want)) true e) :: Γ) l' Γ'] :
  Rn P L n (k + 1) (⟨some d,op,ty,pos,aft,some (j,want)⟩ :: rest) Γ l' Γ':=⟨λho s h=>sn s (gt_o ho hj.h) ((Cd _ _).symm.trans hl.h) (λhb hc=>AO.h (g:=b=c/\b2=want) ⟨hb,hc⟩ ty) hn.lt λ_ _ s=>hr.h ho s h⟩
theorem ru {ops:Array Oper} {l l':List Oper} {Γ':Cx} {M0:Fm} {w0:World} {a:Act} {w:World} {Q:Exit->Act->World->Prop} {rr:Option Nat} (k:Nat) (s:St M0 w0 n Γ a w) [hr:Rn P ops.toList n k l Γ l' Γ'] (h:∀ a w,St M0 w0 n Γ' a w->wpListIn (Fr rr) 0 P ops Q l' a w):wpListIn (Fr rr) 0 P ops Q l a w:=hr.h rfl s h
end
end Go.Pn
namespace Go.Pn
open Go Go.RowKit Go.Proofs
section
variable {rr:Option Nat} {P:Program} {M0:Fm} {w0:World} {n:Nat} {Γ:Cx} {Q:Exit->Act->World->Prop} {a:Act} {w:World} {ty:TypeId}
theorem la {c:Code} {id:Nat} {S τ:Type} {m:Nat->S->Option S} {f:Nat} {s0:S} {k:S->Option τ} {r:τ} (hm:(m f s0).bind k=some r) (I:S->Act->World->Prop) (h0:I s0 a w) (hz:∀ s,m 0 s=none)
  (hb:∀ o,k o=some r->∀ n z a w,m (n + 1) z=some o->I z a w->c.wpIn (Fr rr) 0 P (Exit.then (λa' w'=>∃ s',m n s'=some o/\I s' a' w') (Exit.inBlock id (Exit.then (I o) Q))) a w)
  (hc:∀ o,k o=some r->∀ a w,I o a w->Q .normal a w):(Code.block id (Code.loop c)).wpIn (Fr rr) 0 P Q a w:=by
 obtain ⟨o,ho,hk⟩:=bs hm;exact cpI (I o) (wpIn_block (loI m o I f s0 h0 ho hz λn z a w hm s=>hb o hk n z a w hm s)) (hc o hk)
theorem lb {c:Code} {id:Nat} {S ρ τ:Type} {m:Nat->S->Option (Lo S ρ)} {f:Nat} {s0:S} {k:Lo S ρ->Option τ} {r:τ} (hm:(m f s0).bind k=some r) (I:S->Act->World->Prop) (h0:I s0 a w) (hz:∀ s,m 0 s=none)
  (hb:∀ o,k o=some r->∀ n z a w,m (n + 1) z=some o->I z a w->c.wpIn (Fr rr) 0 P (Exit.then (λa' w'=>∃ s',m n s'=some o/\I s' a' w') (Exit.inBlock id (Exit.then (λa w=>∃ z,o=.brk z/\I z a w) Q))) a w)
  (hc:∀ z,k (.brk z)=some r->∀ a w,I z a w->Q .normal a w):(Code.block id (Code.loop c)).wpIn (Fr rr) 0 P Q a w:=by
 obtain ⟨o,ho,hk⟩:=bs hm;exact lcI o I (wpIn_block (loI m o I f s0 h0 ho hz λn z a w hm s=>hb o hk n z a w hm s)) λz a w e h=>by subst e;exact hc z hk a w h
theorem R {id:Nat} {ops:Array Oper} {d:Code} {Γ':Cx} (k:Nat) (s:St M0 w0 n Γ a w) [hr:Rn P ops.toList n k ops.toList Γ [] Γ'] (h:∀ a w,St M0 w0 n Γ' a w->d.wpIn (Fr rr) 0 P Q a w):(Code.seq (Code.region id ops false) d).wpIn (Fr rr) 0 P Q a w:=
 se (rg (hr.h rfl s λ_ _ s=>nl (h _ _ s)))
theorem R0 {id:Nat} {ops:Array Oper} {Γ':Cx} (k:Nat) (s:St M0 w0 n Γ a w) [hr:Rn P ops.toList n k ops.toList Γ [] Γ'] (h:∀ a w,St M0 w0 n Γ' a w->Q .normal a w):(Code.region id ops false).wpIn (Fr rr) 0 P Q a w:=
 rg (hr.h rfl s λ_ _ s=>nl (h _ _ s))
theorem cmf {t:Nat} {b:Bool} {c:Code} {ρ:Type} {x y:Option ρ} {r:ρ} (hs:St M0 w0 n Γ a w) [hl:Lk (lk Γ t) (Va b)] (hm:(bif b then x else y)=some r)
  (ht:b=true->x=some r->c.wpIn (Fr rr) 0 P Q a w) (hf:b=false->y=some r->Q .normal a w):(Code.cond (.tmp t) c .skip).wpIn (Fr rr) 0 P Q a w:=
 cm hs ((Cd _ _).symm.trans hl.h) hm ht λh1 h2=>wpIn_skip (hf h1 h2)
theorem cmt {t:Nat} {b:Bool} {d:Code} {ρ:Type} {x y:Option ρ} {r:ρ} (hs:St M0 w0 n Γ a w) [hl:Lk (lk Γ t) (Va b)] (hm:(bif b then x else y)=some r)
  (ht:b=true->x=some r->Q .normal a w) (hf:b=false->y=some r->d.wpIn (Fr rr) 0 P Q a w):(Code.cond (.tmp t) .skip d).wpIn (Fr rr) 0 P Q a w:=
 cm hs ((Cd _ _).symm.trans hl.h) hm (λh1 h2=>wpIn_skip (ht h1 h2)) hf
theorem cM {t:Nat} {b:Bool} {c d:Code} {ρ:Type} {x y:Option ρ} {r:ρ} (hs:St M0 w0 n Γ a w) [hl:Lk (lk Γ t) (Va b)] (hm:(bif b then x else y)=some r)
  (ht:b=true->x=some r->c.wpIn (Fr rr) 0 P Q a w) (hf:b=false->y=some r->d.wpIn (Fr rr) 0 P Q a w):(Code.cond (.tmp t) c d).wpIn (Fr rr) 0 P Q a w:=
 cm hs ((Cd _ _).symm.trans hl.h) hm ht hf
class ADa (Γ:Cx) (xs:Array Operand) (es:List Ent):Prop where h:Odl Γ xs.toList es
instance {xs:List Operand} {es:List Ent} [h:ADl True Γ xs es]:ADa Γ xs.toArray es:=⟨h.h trivial⟩
theorem cB {ops:Array Oper} {rest:List Oper} {d:Nat} {f:FuncId} {A:Array TypeId} {args:Array Operand} {ps:List Ent} {pos:String} {aft:Array Edge} {ρ τ:Type} {m:Option ρ} {k:ρ->Option τ} {r:τ} {E:ρ->Ent} (hs:St M0 w0 n Γ a w) (hm:m.bind k=some r)
  (c:∀ x,m=some x->Sp P f ps (E x)) [hA:ADa Γ args ps] [hn:Bf (CF d n)]
  (cont:∀ x,k x=some r->∀ a' w',St M0 w0 n ((d,E x) :: Γ) a' w'->wpListIn (Fr rr) 0 P ops Q rest a' w') :
  wpListIn (Fr rr) 0 P ops Q (⟨some d,.call { callee:=.value (.func f),args:=args,argTypes:=A },ty,pos,aft,none⟩ :: rest) a w:=
 let ⟨x,hx,hk⟩:=bs hm;sq hs (cc rfl hA.h (c x hx)) hn.lt (cont x hk)
theorem iB {ops:Array Oper} {rest:List Oper} {d T:Nat} {x i:Operand} {pos:String} {aft:Array Edge} {τ α:Type} {hα:Rep α} {xs:List α} {v:Int} {k:α->Option τ} {r:τ} (hs:St M0 w0 n Γ a w) (hm:(idx xs v).bind k=some r)
  [hx:AD True Γ x (Va xs)] [hi:AD True Γ i (Va v)] [he:Es P T α] [hn:Bf (CF d n)]
  (cont:∀ x,k x=some r->∀ a' w',St M0 w0 n ((d,Pt x) :: Γ) a' w'->wpListIn (Fr rr) 0 P ops Q rest a' w') :
  wpListIn (Fr rr) 0 P ops Q (⟨some d,.indexAddr T x i,ty,pos,aft,none⟩ :: rest) a w:=
 let ⟨_,hx',hk⟩:=bs hm;sq hs (ix (hx.h trivial) (hi.h trivial) hx') hn.lt (cont _ hk)
class Su (Γ' Γ:Cx):Prop where h:∀ t e,Al Γ' t=some e->Al Γ t=some e
instance:Su [] Γ:=⟨λ_ _ h=>by cases h⟩
instance {k:Nat} {e:Ent} {Γ':Cx} [h:Lk (lk Γ k) e] [h':Su Γ' Γ]:Su ((k,e) :: Γ') Γ:=⟨λt e1 he=>by
 rw [Ai] at he;unfold put at he;split at he
 ·rename_i ht;subst ht;cases he;exact (Cd _ _).symm.trans h.h
 ·exact h'.h t e1 he⟩
theorem St.fi {Γ':Cx} (s:St M0 w0 n Γ a w) [h:Su Γ' Γ]:St M0 w0 n Γ' a w:=StF.less s h.h
end
section
variable {P:Program} {M0:Fm} {w0:World} {n:Nat} {Γ:Cx} {a:Act} {w:World}
@[reducible] def nq_ (k d:Nat):Option Unit:=match Nat.beq k d with | true=>none | false=>some ()
theorem nq_h {k d:Nat} (h:Bf (nq_ k d)):Nat.beq k d=false:=by
 have h:=h.h;unfold nq_ at h;split at h
 ·cases h
 ·assumption
class AG (Γ:Cx) (b:Nat) (K:outParam Nat) (e:outParam Ent):Prop where h:Al Γ K=some e
instance {α:Type} {_:Rep α} {K b:Nat} {x:α}:AG ((K,Mg b x) :: Γ) b K (Mg b x):=⟨by simp [Al]⟩
instance (priority:=low) {K k b:Nat} {e e':Ent} [h:AG Γ b K e] [hn:Bf (nq_ k K)]:AG ((k,e') :: Γ) b K e:=⟨by
 have:=nq_h hn;show (match Nat.beq k K with | true=>some e' | false=>Al Γ K)=some e
 rw [this];exact h.h⟩
instance {K b:Nat} {e:Ent} [h:AG Γ b K e]:AG ([] ++ Γ) b K e:=⟨h.h⟩
instance {K b:Nat} {p:Nat×Ent} {Δ:Cx} {e:Ent} [h:AG (p :: (Δ ++ Γ)) b K e]:AG ((p :: Δ) ++ Γ) b K e:=⟨h.h⟩
class AC (Γ:Cx) (c:Value) (K:outParam Nat) (e:outParam Ent):Prop where h:Al Γ K=some (At c e)
instance {K:Nat} {c:Value} {e:Ent}:AC ((K,At c e) :: Γ) c K e:=⟨by simp [Al]⟩
class RC (P:Program) (Γ:Cx) (r:ResultVar) (e:Ent):Prop where h:RS P Γ r e
instance {t:Nat} {e:Ent} [h:Lk (lk Γ t) e] [Zf e]:RC P Γ (.tmp t) e:=⟨rt ((Cd _ _).symm.trans h.h)⟩
instance {t m:Nat} {α:Type} {_:Rep α} [h:Lk (lk Γ t) (Qv (.slice none 0 m))]:RC P Γ (.tmp t) (Va ([]:List α)):=⟨ro (qns (Pn.t ((Cd _ _).symm.trans h.h)))⟩
instance {t T K b:Nat} {α:Type} {_:Rep α} {x:α} [h:Lk (lk Γ t) (Qv (pb b 0))] [h2:AG Γ b K (Mg b x)] [Ty P T α]:RC P Γ (.cell t T) (Va x):=⟨rc ((Cd _ _).symm.trans h.h) h2.h⟩
class RVc (P:Program) (Γ:Cx) (rs:Array ResultVar) (e:Ent):Prop where h:RV P Γ rs e
instance {r:ResultVar} {e:Ent} [h:RC P Γ r e]:RVc P Γ #[r] e:=⟨rv1 h.h⟩
instance {r1 r2:ResultVar} {e1 e2:Ent} [h1:RC P Γ r1 e1] [h2:RC P Γ r2 e2]:RVc P Γ #[r1,r2] (T2 e1 e2):=⟨rv2 h1.h h2.h⟩
instance {r1 r2 r3:ResultVar} {e1 e2 e3:Ent} [h1:RC P Γ r1 e1] [h2:RC P Γ r2 e2] [h3:RC P Γ r3 e3]:RVc P Γ #[r1,r2,r3] (T3 e1 e2 e3):=⟨rv3 h1.h h2.h h3.h⟩
theorem rT {fn:Func} {rr:Option Nat} {Q:Exit->Act->World->Prop} {e:Ent} {r1:ResultVar} (hD:M0.ds=[]) (hs:St M0 w0 n Γ a w) (hq:bqM P fn (Pst M0 w0 e) .ret a w=Q .ret a w) (hr:fn.results=#[r1]) [h:RVc P Γ #[r1] e]:Code.ret.wpIn (Fr rr) 0 P Q a w:=wpIn_ret (hq ▸ rn hD hs hr h.h)
theorem rU {fn:Func} {rr:Option Nat} {Q:Exit->Act->World->Prop} {e:Ent} {r1 r2:ResultVar} (hD:M0.ds=[]) (hs:St M0 w0 n Γ a w) (hq:bqM P fn (Pst M0 w0 e) .ret a w=Q .ret a w) (hr:fn.results=#[r1,r2]) [h:RVc P Γ #[r1,r2] e]:Code.ret.wpIn (Fr rr) 0 P Q a w:=wpIn_ret (hq ▸ rn hD hs hr h.h)
theorem rV {fn:Func} {rr:Option Nat} {Q:Exit->Act->World->Prop} {e:Ent} {r1 r2 r3:ResultVar} (hD:M0.ds=[]) (hs:St M0 w0 n Γ a w) (hq:bqM P fn (Pst M0 w0 e) .ret a w=Q .ret a w) (hr:fn.results=#[r1,r2,r3]) [h:RVc P Γ #[r1,r2,r3] e]:Code.ret.wpIn (Fr rr) 0 P Q a w:=wpIn_ret (hq ▸ rn hD hs hr h.h)
end
end Go.Pn
namespace Go.Pn
open Go Go.RowKit
set_option synthInstance.checkSynthOrder false
class Kw (g:Prop) {ρ:Type} (m:Option ρ) (x:outParam ρ):Prop where h:g->m=some x
theorem Kw.e {ρ:Type} {m:Option ρ} {x:ρ} (h:Kw True m x):m=some x:=h.h trivial
theorem bk {α β:Type} {o:Option α} {f:α->Option β} {r:β} (h:o.bind f=some r):∃ x,Kw True o x/\f x=some r:=let ⟨x,h1,h2⟩:=bs h;⟨x,⟨λ_=>h1⟩,h2⟩
theorem gk {α ρ:Type} [Inhabited α] {B c:Bool} {o:Option α} {k:α->Option ρ} {r:ρ} (h:B=c->o.bind k=some r):∃ x,Kw (B=c) o x/\(B=c->k x=some r):=let ⟨x,h1,h2⟩:=gx h;⟨x,⟨h1⟩,h2⟩
class Kf (g:Prop) {ρ:Type} (m:Option ρ) (x:outParam ρ):Prop where h:g->m=some x
section
variable {g:Prop} {ρ:Type} {m:Option ρ} {x:ρ}
instance [h:Kw g m x]:Kf g m x:=⟨h.h⟩
end
class Pa (b p:Bool) (r:outParam Bool):Prop where
 h:b=true->p=r
 z:b=false->r=false
class Po (b p:Bool) (r:outParam Bool):Prop where
 h:b=false->p=r
 z:b=true->r=true
theorem pka {b p r:Bool} (h:b=true->some p=some r) (e:b=false->some false=some r):Pa b p r:=⟨λx=>si (h x),λx=>(si (e x)).symm⟩
theorem pko {b p r:Bool} (h:b=false->some p=some r) (e:b=true->some true=some r):Po b p r:=⟨λx=>si (h x),λx=>(si (e x)).symm⟩
class Cn (P:Program) (f:FuncId) {ρ:outParam Type} (m:outParam (Option ρ)) (ps:outParam (List Ent)) (E:outParam (ρ->Ent)):Prop where h:∀ x,m=some x->Sp P f ps (E x)
section
variable {g:Prop} {P:Program} {Γ:Cx}
class AX (g:Prop) (Γ:Cx) (x:Operand) (e:Ent):Prop where h:g->Od Γ x e
instance {x:Operand} {e:Ent} [h:AD g Γ x e]:AX g Γ x e:=⟨h.h⟩
instance (priority:=low) {x:Operand} {K:Nat} {c:Value} {e:Ent} [h:AD g Γ x (Qv c)] [h2:AC Γ c K e]:AX g Γ x e:=⟨λhg=>ta (h.h hg) h2.h⟩
class AXl (g:Prop) (Γ:Cx) (xs:List Operand) (es:List Ent):Prop where h:g->Odl Γ xs es
instance:AXl g Γ [] []:=⟨λ_=>on⟩
instance {x:Operand} {xs:List Operand} {e:Ent} {es:List Ent} [h:AX g Γ x e] [Zf e] [h':AXl g Γ xs es]:AXl g Γ (x :: xs) (e :: es):=⟨λhg=>oc (h.h hg) (h'.h hg)⟩
instance {f:FuncId} {ρ:Type} {m:Option ρ} {ps:List Ent} {E:ρ->Ent} {xs:List Operand} {A:Array TypeId} {x:ρ} [hc:Cn P f m ps E] [hA:AXl g Γ xs ps] [hk:Kf g m x] :
  AO g P (.call { callee:=.value (.func f),args:=xs.toArray,argTypes:=A }) Γ (E x):=⟨λhg _=>cc rfl (hA.h hg) (hc.h x (hk.h hg))⟩
instance {T:TypeId} {x i:Operand} {α:Type} {hα:Rep α} {xs:List α} {v:Int} {y:α} [hx:AD g Γ x (Va xs)] [hi:AX g Γ i (Va v)] [he:Es P T α] [hk:Kf g (idx xs v) y] :
  AO g P (.indexAddr T x i) Γ (Pt y):=⟨λhg _=>ix (hx.h hg) (hi.h hg) (hk.h hg)⟩
instance (priority:=high) {c:Operand} {m:Nat} {b p r:Bool} [hc:AD g Γ c (Va b)] [hx:Lk (lk Γ m) (Gd b true (Va p))] [hp:Pa b p r]:AO g P (.pick c (.tmp m) (.const (.bool false))) Γ (Va r):=⟨λh _=>pa (hc.h h) ((Cd _ _).symm.trans hx.h) hp.h hp.z⟩
instance (priority:=high) {c:Operand} {m:Nat} {b p r:Bool} [hc:AD g Γ c (Va b)] [hx:Lk (lk Γ m) (Gd b false (Va p))] [hp:Po b p r]:AO g P (.pick c (.const (.bool true)) (.tmp m)) Γ (Va r):=⟨λh _=>po (hc.h h) ((Cd _ _).symm.trans hx.h) hp.h hp.z⟩
instance {c:Operand} {m:Nat} {B w b p:Bool} [hc:AD (B=w) Γ c (Va b)] [hx:Lk (lk Γ m) (Gd ((B == w) && (b == true)) true (Va p))]:AO (B=w) P (.pick c (.tmp m) (.const (.bool false))) Γ (Va (b && p)):=⟨λh _=>pagP (hc.h h) ((Cd _ _).symm.trans hx.h) λe=>g2 h e⟩
instance {c:Operand} {m:Nat} {B w b p:Bool} [hc:AD (B=w) Γ c (Va b)] [hx:Lk (lk Γ m) (Gd ((B == w) && (b == false)) true (Va p))]:AO (B=w) P (.pick c (.const (.bool true)) (.tmp m)) Γ (Va (b || p)):=⟨λh _=>pogP (hc.h h) ((Cd _ _).symm.trans hx.h) λe=>g2 h e⟩
instance {x y:Operand} {T T':TypeId} {m n:Int} [hx:AD g Γ x (Va m)] [hy:AD g Γ y (Va n)]:AO g P (.call { callee:=.builtin .max,args:=#[x,y],argTypes:=#[T,T'] }) Γ (Va (if n > m then n else m)):=⟨λh _=>mx (hx.h h) (hy.h h)⟩
instance {K b:Nat} {cs:GZ}:AG ((K,Mr b cs) :: Γ) b K (Mr b cs):=⟨by simp [Al]⟩
instance {T K b:Nat} {x:Operand} {α:Type} {_:Rep α} {y:α} [hx:AD g Γ x (Qv (pb b 0))] [hk:AG Γ b K (Mg b y)] [Ty P T α]:AO g P (.load T x) Γ (Va y):=⟨λh _=>lm (hx.h h) hk.h⟩
class AFo (α:Type) (hα:Rep α) (off:Nat) (β:outParam Type) (hβ:outParam (Rep β)) (f:outParam (α->β)):Prop where h:DF f off
instance {off:Nat} {α β:Type} {hα:Rep α} {hβ:Rep β} {f:α->β} [h:DF f off]:AFo α hα off β hβ f:=⟨h⟩
instance (priority:=low) {T K b off:Nat} {x:Operand} {α β:Type} {hα:Rep α} {hβ:Rep β} {y:α} {f:α->β} [hx:AD g Γ x (Qv (pb b off))] [hk:AG Γ b K (Mg b y)] [hf:AFo α hα off β hβ f] [Ty P T β]:AO g P (.load T x) Γ (Va (f y)):=⟨λh _=>have:=hf.h;lf (hx.h h) hk.h⟩
class Fo (P:Program) (S k:Nat) (off:outParam Nat):Prop where h:∃ m,Mb P S k=some (off,m + 1)
class Pq (o off:Nat) (q:outParam Nat):Prop where h:o + off=q
instance {o:Nat}:Pq 0 o o:=⟨Nat.zero_add o⟩
instance (priority:=low) {o:Nat}:Pq o 0 o:=⟨rfl⟩
instance {S k b o off q:Nat} {x:Operand} [hx:AD g Γ x (Qv (pb b o))] [hf:Fo P S k off] [hq:Pq o off q]:AO g P (.fieldAddr S x k) Γ (Qv (pb b q)):=⟨λh _=>let ⟨_,e⟩:=hf.h;fm_ (hx.h h) e hq.h⟩
@[reducible] def nth_:GZ->Nat->Option Value
 | [],_=>none
 | c :: _,0=>some c
 | _ :: l,j + 1=>nth_ l j
theorem Wn:∀ (l:GZ) (j:Nat),nth_ l j=l[j]?
 | [],_=>rfl
 | _ :: _,0=>rfl
 | _ :: l,j + 1=>by simpa [nth_] using Wn l j
class Nt (o:Option Value) (c:outParam Value):Prop where h:o=some c
instance {c:Value}:Nt (some c) c:=⟨rfl⟩
instance (priority:=low) {T K b off:Nat} {x:Operand} {β:Type} {_:Rep β} {cs:GZ} {c:Value} [hx:AD g Γ x (Qv (pb b off))] [hk:AG Γ b K (Mr b cs)] [hc:Nt (nth_ cs off) c] [Ty P T (List β)]:AO g P (.load T x) Γ (Qv c):=⟨λh _=>lrc (List β) (hx.h h) hk.h ((Wn _ _).symm.trans hc.h) rfl rfl⟩
instance (priority:=low) {T K b off:Nat} {x:Operand} {cs:GZ} {c:Value} [hx:AD g Γ x (Qv (pb b off))] [hk:AG Γ b K (Mr b cs)] [hc:Nt (nth_ cs off) c] [Ty P T Int]:AO g P (.load T x) Γ (Qv c):=⟨λh _=>lrc Int (hx.h h) hk.h ((Wn _ _).symm.trans hc.h) rfl rfl⟩
class AR (Γ:Cx) (c:Value) (K:outParam Nat) (ei:outParam Nat) (α:outParam Type) (hα:outParam (Rep α)) (xs:outParam (List α)):Prop where h:Al Γ K=some (Ow ei c xs)
instance {K ei:Nat} {c:Value} {α:Type} {hα:Rep α} {xs:List α}:AR ((K,Ow ei c xs) :: Γ) c K ei α hα xs:=⟨by simp [Al]⟩
instance (priority:=low) {K k ei:Nat} {c:Value} {e':Ent} {α:Type} {hα:Rep α} {xs:List α} [h:AR Γ c K ei α hα xs] [hn:Bf (nq_ k K)]:AR ((k,e') :: Γ) c K ei α hα xs:=⟨by
 have:=nq_h hn;show (match Nat.beq k K with | true=>some e' | false=>Al Γ K)=some (Ow ei c xs)
 rw [this];exact h.h⟩
instance {K ei:Nat} {c:Value} {α:Type} {hα:Rep α} {xs:List α} [h:AR Γ c K ei α hα xs]:AR ([] ++ Γ) c K ei α hα xs:=⟨h.h⟩
instance {K ei:Nat} {c:Value} {p:Nat×Ent} {Δ:Cx} {α:Type} {hα:Rep α} {xs:List α} [h:AR (p :: (Δ ++ Γ)) c K ei α hα xs]:AR ((p :: Δ) ++ Γ) c K ei α hα xs:=⟨h.h⟩
instance {T K e:Nat} {x i:Operand} {c:Value} {α:Type} {hα:Rep α} {xs:List α} {m:Int} {y:α} [hx:AD g Γ x (Qv c)] [hk:AR Γ c K e α hα xs] [hi:AX g Γ i (Va m)] [he:Ea P T e α] [h:Kf g (idx xs m) y]:AO g P (.indexAddr T x i) Γ (Pe c (m.toNat * Rep.sz α)):=⟨λhg _=>ixq (hx.h hg) hk.h (hi.h hg) (h.h hg)⟩
instance {T K e:Nat} {x:Operand} {c:Value} {α:Type} {hα:Rep α} {xs:List α} {m:Int} {y:α} [hx:AD g Γ x (Pe c (m.toNat * Rep.sz α))] [hk:AR Γ c K e α hα xs] [Ty P T α] [h:Kf g (idx xs m) y]:AO g P (.load T x) Γ (Va y):=⟨λhg _=>lq (hx.h hg) hk.h (Co (h.h hg))⟩
instance {T K e:Nat} {x:Operand} {c:Value} {α:Type} {hα:Rep α} {xs:List α} [hx:AD g Γ x (Qv c)] [hk:AR Γ c K e α hα xs] [he:Ea P T e α]:AO g P (.call { callee:=.builtin .len,args:=#[x],argTypes:=#[T] }) Γ (Va (xs.length:Int)):=⟨λhg _=>lnq (hx.h hg) hk.h⟩
class Smz (α:Type) [Rep α]:Prop where h:Nat.ble (Rep.sz α) 1000000=true
theorem Smz.le {α:Type} [Rep α] [h:Smz α] {k:Nat} (hk:Nat.ble k 16=true):Nat.ble (k * Rep.sz α) 16777216=true:=by
 have h1:=CR h.h;have h2:=CR hk;refine GF ?_;exact DS (FR h2 h1) (by decide)
instance {T e:Nat} {α:Type} {_:Rep α} [Ea P T e α] [Smz α] {x:Operand} {y:α} [hx:AX g Γ x (Va y)]:AO g P (.buildSlice T 1 #[(0,x)]) Γ (Va [y]):=⟨λhg _=>bsv (o1 (hx.h hg) o0) rfl rfl (Smz.le rfl)⟩
instance {T e:Nat} {α:Type} {_:Rep α} [Ea P T e α] [Smz α] {x x2:Operand} {y y2:α} [hx:AX g Γ x (Va y)] [hx2:AX g Γ x2 (Va y2)]:AO g P (.buildSlice T 2 #[(0,x),(1,x2)]) Γ (Va [y,y2]):=⟨λhg _=>bsv (o1 (hx.h hg) (o1 (hx2.h hg) o0)) rfl rfl (Smz.le rfl)⟩
theorem Oy {ks:GY} {t:Nat} {Δ Γ:Cx} (ht:t∈ks):Al (Dj ks Δ ++ Γ) t=Al (Δ ++ Γ) t:=by
 induction Δ with
 | nil=>rfl
 | cons p Δ ih=>
  obtain ⟨s,e⟩:=p;show Al ((match ks.contains s with | true=>(s,e) :: Dj ks Δ | false=>Dj ks Δ) ++ Γ) t=(match Nat.beq s t with | true=>some e | false=>Al (Δ ++ Γ) t)
  split
  ·show (match Nat.beq s t with | true=>some e | false=>Al (Dj ks Δ ++ Γ) t)=_
   rw [ih]
  ·rename_i hc;split
   ·rename_i hb;have:=EC hb;subst this;simp at hc;exact absurd ht hc
   ·exact ih
class Ot (op:Op) (n:Nat):Prop where h:n∈Ap op
class Ml (n:Nat) (xs:List Operand):Prop where h:Operand.tmp n∈xs
instance {n:Nat} {xs:List Operand}:Ml n (.tmp n :: xs):=⟨by simp⟩
instance (priority:=low) {n:Nat} {x:Operand} {xs:List Operand} [h:Ml n xs]:Ml n (x :: xs):=⟨by simp [h.h]⟩
instance {n:Nat}:Ot (.move (.tmp n)) n:=⟨by simp [Ap,Op.operands]⟩
instance {n:Nat} {o:BinOp} {T T':TypeId} {y:Operand}:Ot (.binOp o T (.tmp n) y T') n:=⟨by simp [Ap,Op.operands]⟩
instance {n:Nat} {o:BinOp} {T T':TypeId} {x:Operand}:Ot (.binOp o T x (.tmp n) T') n:=⟨by simp [Ap,Op.operands]⟩
instance {n:Nat} {o:UnOp} {T:TypeId}:Ot (.unOp o T (.tmp n)) n:=⟨by simp [Ap,Op.operands]⟩
instance {n k:Nat}:Ot (.extract (.tmp n) k) n:=⟨by simp [Ap,Op.operands]⟩
instance {n T:Nat}:Ot (.load T (.tmp n)) n:=⟨by simp [Ap,Op.operands]⟩
instance {n:Nat}:Ot (.nilCheck (.tmp n)) n:=⟨by simp [Ap,Op.operands]⟩
instance {n S k:Nat}:Ot (.fieldAddr S (.tmp n) k) n:=⟨by simp [Ap,Op.operands]⟩
instance {n T:Nat} {y:Operand}:Ot (.indexAddr T (.tmp n) y) n:=⟨by simp [Ap,Op.operands]⟩
instance {n T:Nat} {x:Operand}:Ot (.indexAddr T x (.tmp n)) n:=⟨by simp [Ap,Op.operands]⟩
instance {n:Nat} {x y:Operand}:Ot (.pick (.tmp n) x y) n:=⟨by simp [Ap,Op.operands]⟩
instance {n:Nat} {x y:Operand}:Ot (.pick x (.tmp n) y) n:=⟨by simp [Ap,Op.operands]⟩
instance {n:Nat} {x y:Operand}:Ot (.pick x y (.tmp n)) n:=⟨by simp [Ap,Op.operands]⟩
instance {n T i:Nat}:Ot (.buildSlice T 1 #[(i,.tmp n)]) n:=⟨by simp [Ap,Op.operands]⟩
instance {n T i j:Nat} {y:Operand}:Ot (.buildSlice T 2 #[(i,.tmp n),(j,y)]) n:=⟨by simp [Ap,Op.operands]⟩
instance {n T i j:Nat} {x:Operand}:Ot (.buildSlice T 2 #[(i,x),(j,.tmp n)]) n:=⟨by simp [Ap,Op.operands]⟩
instance {n:Nat} {f:FuncId} {xs:List Operand} {A:Array TypeId} [h:Ml n xs]:Ot (.call { callee:=.value (.func f),args:=xs.toArray,argTypes:=A }) n:=⟨by simp only [Ap,Op.operands,Call.operands,FK];exact ⟨.tmp n,by simp [h.h],rfl⟩⟩
instance {n:Nat} {f:Builtin} {xs:List Operand} {A:Array TypeId} [h:Ml n xs]:Ot (.call { callee:=.builtin f,args:=xs.toArray,argTypes:=A }) n:=⟨by simp only [Ap,Op.operands,Call.operands,FK];exact ⟨.tmp n,by simp [h.h],rfl⟩⟩
instance {op:Op} {Δ:Cx} {n:Nat} {e:Ent} [hl:Lk (lk2 Δ Γ n) e] [ho:Ot op n]:Lk (lk (Dj (Ap op) Δ ++ Γ) n) e:=⟨by
 rw [Cd];have h1:=hl.h;rw [Zm,Cd] at h1;exact (Oy ho.h).trans h1⟩
class Nk (Δ:Cx) (K:Nat):Prop where h:Al Δ K=none
instance {K:Nat}:Nk [] K:=⟨rfl⟩
instance {Δ:Cx} {K k:Nat} {e:Ent} [hn:Bf (nq_ k K)] [h:Nk Δ K]:Nk ((k,e) :: Δ) K:=⟨by
 have:=nq_h hn;show (match Nat.beq k K with | true=>some e | false=>Al Δ K)=none
 rw [this];exact h.h⟩
theorem Hj {Δ Γ:Cx} {K:Nat} (h:Al Δ K=none):Al (Δ ++ Γ) K=Al Γ K:=by
 induction Δ with
 | nil=>rfl
 | cons p Δ ih=>
  obtain ⟨k,e⟩:=p;have h':(match Nat.beq k K with | true=>some e | false=>Al Δ K)=none:=h
  show (match Nat.beq k K with | true=>some e | false=>Al (Δ ++ Γ) K)=Al Γ K
  split at h'
  ·cases h'
  ·exact ih h'
theorem Ff {Δ:Cx} {ks:GY} {K:Nat} (h:Al Δ K=none):Al (Dj ks Δ) K=none:=by
 cases hl:Al (Dj ks Δ) K with
 | none=>rfl
 | some e=>exact absurd (Bm hl).2 (by rw [h];simp)
instance {Δ:Cx} {ks:GY} {b K:Nat} {e:Ent} [h:AG Γ b K e] [hn:Nk Δ K]:AG (Dj ks Δ ++ Γ) b K e:=⟨(Hj (Ff hn.h)).trans h.h⟩
instance {Δ:Cx} {ks:GY} {c:Value} {K ei:Nat} {α:Type} {hα:Rep α} {xs:List α} [h:AR Γ c K ei α hα xs] [hn:Nk Δ K]:AR (Dj ks Δ ++ Γ) c K ei α hα xs:=⟨(Hj (Ff hn.h)).trans h.h⟩
class Fs (P:Program) (L:List Oper) (k:Nat) (l:List Oper) (i:Nat) (Γ Δ:Cx) (Δ':outParam Cx) (l':outParam (List Oper)):Prop where
 h:∀ {ops:Array Oper},ops.toList=L->L.drop i=l->Fl P ops Γ i Δ->Fl P ops Γ (i + k) Δ'/\L.drop (i + k)=l'
variable {L:List Oper} {k i:Nat} {Δ Δ':Cx} {l':List Oper}
instance {l:List Oper}:Fs P L 0 l i Γ Δ Δ l:=⟨λ_ h2 h=>⟨h,h2⟩⟩
theorem fs_at {ops:Array Oper} {L l:List Oper} {o:Oper} {i:Nat} (h:ops.toList=L) (hd:L.drop i=o :: l):ops[i]?=some o/\L.drop (i + 1)=l:=by
 subst h;constructor
 ·rw [← ER,← List.head?_drop,hd];rfl
 ·rw [← List.drop_drop,hd];rfl
instance {l:List Oper} {op:Op} {d:Tmp} {ty:TypeId} {pos:String} {aft:Array Edge} {e:Ent} [ho:AO True P op (Dj (Ap op) Δ ++ Γ) e] [hr:Fs P L k l (i + 1) Γ ((d,e) :: Δ) Δ' l'] :
  Fs P L (k + 1) (⟨some d,op,ty,pos,aft,none⟩ :: l) i Γ Δ Δ' l':=⟨λh1 h2 h=>by
 have h3:=fs_at h1 h2;have:=hr.h h1 h3.2 (.cons h h3.1 (ho.h trivial ty))
 rwa [Nat.add_right_comm] at this⟩
instance {l:List Oper} {op:Op} {d j dj:Tmp} {b want:Bool} {ty:TypeId} {pos:String} {aft:Array Edge} {e:Ent} [hj:Gt (gt_ L j) dj] [hl:Lk (lk Δ dj) (Va b)] [ho:AO (b=want) P op (Dj (Ap op) Δ ++ Γ) e] [hr:Fs P L k l (i + 1) Γ ((d,Gd b want e) :: Δ) Δ' l'] :
  Fs P L (k + 1) (⟨some d,op,ty,pos,aft,some (j,want)⟩ :: l) i Γ Δ Δ' l':=⟨λh1 h2 h=>by
 have h3:=fs_at h1 h2;have:=hr.h h1 h3.2 (.cong h h3.1 (gt_o h1 hj.h) ((Cd _ _).symm.trans hl.h) λhb=>ho.h hb ty)
 rwa [Nat.add_right_comm] at this⟩
theorem fW {n id:Nat} {M0:Fm} {w0:World} [hmx:Mx P] {rr:Option Nat} {ops:Array Oper} {Q:Exit->Act->World->Prop} {a:Act} {w:World} (m:Nat) (hs:St M0 w0 n Γ a w) [hfl:Fs P ops.toList m ops.toList 0 Γ [] Δ l'] (hf:Hl ops m=true)
  (hdj:Δ.all (λx=>(Al Γ x.1).isNone)=true) (hn:Δ.all (λx=>Nat.blt x.1 n)=true)
  (K:∀ a' w',St M0 w0 n (Δ ++ Γ) a' w'->wpListIn (Fr rr) 0 P ops Q l' a' w'):(Code.region id ops true).wpIn (Fr rr) 0 P Q a w:=by
 have:=hfl.h rfl rfl .nil;rw [ED] at this;exact Dn (m:=m) hs this.1 hf hdj hn λa' w' s=>by rw [this.2];exact K a' w' s
class Zc (P:Program) (T:TypeId) (cs:outParam GZ):Prop where h:∀ ty Γ,OR P (.alloc T) ty Γ (MR cs)
theorem aR {n:Nat} {M0:Fm} {w0:World} {rr:Option Nat} {Q:Exit->Act->World->Prop} {a:Act} {w:World} {ops:Array Oper} {rest:List Oper} {d T:Nat} {ty:TypeId} {pos:String} {aft:Array Edge} {cs:GZ} (K:Nat)
  (hs:St M0 w0 n Γ a w) [hz:Zc P T cs] [hn:Bf (CF d n)] [hdk:Bf (nq_ d K)]
  (k:∀ b a' w',St M0 w0 n ((d,Qv (pb b 0)) :: (K,Mr b cs) :: (d,MR cs) :: Γ) a' w'->wpListIn (Fr rr) 0 P ops Q rest a' w'):wpListIn (Fr rr) 0 P ops Q (⟨some d,.alloc T,ty,pos,aft,none⟩ :: rest) a w:=
 sqr K hs (hz.h ty Γ) hn.lt (nq_h hdk) k
theorem sW {n:Nat} {M0:Fm} {w0:World} {rr:Option Nat} {Q:Exit->Act->World->Prop} {a:Act} {w:World} {ops:Array Oper} {rest:List Oper} {T K b:Nat} {x y:Operand} {ty:TypeId} {pos:String} {aft:Array Edge} {α:Type} {_:Rep α} [Ty P T α] {v:α} {cs:GZ}
  (hs:St M0 w0 n Γ a w) [hx:AD True Γ x (Qv (pb b 0))] [hk:AG Γ b K (Mr b cs)] [hy:AD True Γ y (Va v)] (hl:cs.length=Rep.sz α)
  (k:∀ w',St M0 w0 n ((K,Mg b v) :: Γ) a w'->wpListIn (Fr rr) 0 P ops Q rest a w'):wpListIn (Fr rr) 0 P ops Q (⟨none,.store T x y,ty,pos,aft,none⟩ :: rest) a w:=
 swd hs (hx.h trivial) hk.h (hy.h trivial) hl k
end
end Go.Pn
namespace Go.Pn
open Go Go.RowKit
@[reducible] def ap_:Cx->Cx->Cx
 | [],Γ=>Γ
 | p :: l,Γ=>p :: ap_ l Γ
class Pj (Γ:Cx) (ks:GY) (Γ':outParam Cx):Prop where h:∀ t e,Al Γ' t=some e->Al Γ t=some e
instance {Γ:Cx}:Pj Γ [] []:=⟨λ_ _ h=>by cases h⟩
instance {Γ Γ':Cx} {k:Nat} {ks:GY} {e:Ent} [h:Lk (lk Γ k) e] [h':Pj Γ ks Γ']:Pj Γ (k :: ks) ((k,e) :: Γ'):=⟨λt e1 he=>by
 rw [Ai] at he;unfold put at he;split at he
 ·rename_i ht;subst ht;cases he;exact (Cd _ _).symm.trans h.h
 ·exact h'.h t e1 he⟩
section
variable {rr:Option Nat} {P:Program} {M0:Fm} {w0:World} {nn:Nat} {Γ Γ0:Cx} {Q:Exit->Act->World->Prop} {a:Act} {w:World}
theorem lA {c:Code} {id:Nat} {S τ:Type} {m:Nat->S->Option S} {f:Nat} {s0:S} {k:S->Option τ} {r:τ} (hm:(m f s0).bind k=some r) (ks:GY) (s:St M0 w0 nn Γ a w) [Pj Γ ks Γ0] (C:S->Cx) (h0:St M0 w0 nn (ap_ (C s0) Γ0) a w) (hz:∀ s,m 0 s=none)
  (hb:∀ o,k o=some r->∀ n z a w,m (n + 1) z=some o->St M0 w0 nn (ap_ (C z) Γ0) a w->c.wpIn (Fr rr) 0 P (Exit.then (λa' w'=>∃ s',m n s'=some o/\St M0 w0 nn (ap_ (C s') Γ0) a' w') (Exit.inBlock id (Exit.then (λa w=>St M0 w0 nn (ap_ (C o) Γ0) a w) Q))) a w)
  (hc:∀ o,k o=some r->∀ a w,St M0 w0 nn (ap_ (C o) Γ0) a w->Q .normal a w):(Code.block id (Code.loop c)).wpIn (Fr rr) 0 P Q a w:=
 la hm (λz a w=>St M0 w0 nn (ap_ (C z) Γ0) a w) h0 hz hb hc
theorem lA1 {c:Code} {id:Nat} {S τ:Type} {m:Nat->S->Option S} {f:Nat} {s0:S} {k:S->Option τ} {r:τ} (hm:(m f s0).bind k=some r) (ks:GY) (s:St M0 w0 nn Γ a w) [Pj Γ ks Γ0] (C:S->Value->Cx) (h0:∃ v,St M0 w0 nn (ap_ (C s0 v) Γ0) a w) (hz:∀ s,m 0 s=none)
  (hb:∀ o,k o=some r->∀ n z a w,m (n + 1) z=some o->(∃ v,St M0 w0 nn (ap_ (C z v) Γ0) a w)->c.wpIn (Fr rr) 0 P (Exit.then (λa' w'=>∃ s',m n s'=some o/\∃ v,St M0 w0 nn (ap_ (C s' v) Γ0) a' w') (Exit.inBlock id (Exit.then (λa w=>∃ v,St M0 w0 nn (ap_ (C o v) Γ0) a w) Q))) a w)
  (hc:∀ o,k o=some r->∀ a w,(∃ v,St M0 w0 nn (ap_ (C o v) Γ0) a w)->Q .normal a w):(Code.block id (Code.loop c)).wpIn (Fr rr) 0 P Q a w:=
 la hm (λz a w=>∃ v,St M0 w0 nn (ap_ (C z v) Γ0) a w) h0 hz hb hc
theorem lB {c:Code} {id:Nat} {S ρ τ:Type} {m:Nat->S->Option (Lo S ρ)} {f:Nat} {s0:S} {k:Lo S ρ->Option τ} {r:τ} (hm:(m f s0).bind k=some r) (ks:GY) (s:St M0 w0 nn Γ a w) [Pj Γ ks Γ0] (C:S->Cx) (h0:St M0 w0 nn (ap_ (C s0) Γ0) a w) (hz:∀ s,m 0 s=none)
  (hb:∀ o,k o=some r->∀ n z a w,m (n + 1) z=some o->St M0 w0 nn (ap_ (C z) Γ0) a w->c.wpIn (Fr rr) 0 P (Exit.then (λa' w'=>∃ s',m n s'=some o/\St M0 w0 nn (ap_ (C s') Γ0) a' w') (Exit.inBlock id (Exit.then (λa w=>∃ z,o=.brk z/\St M0 w0 nn (ap_ (C z) Γ0) a w) Q))) a w)
  (hc:∀ z,k (.brk z)=some r->∀ a w,St M0 w0 nn (ap_ (C z) Γ0) a w->Q .normal a w):(Code.block id (Code.loop c)).wpIn (Fr rr) 0 P Q a w:=
 lb hm (λz a w=>St M0 w0 nn (ap_ (C z) Γ0) a w) h0 hz hb hc
theorem lB1 {c:Code} {id:Nat} {S ρ τ:Type} {m:Nat->S->Option (Lo S ρ)} {f:Nat} {s0:S} {k:Lo S ρ->Option τ} {r:τ} (hm:(m f s0).bind k=some r) (ks:GY) (s:St M0 w0 nn Γ a w) [Pj Γ ks Γ0] (C:S->Value->Cx) (h0:∃ v,St M0 w0 nn (ap_ (C s0 v) Γ0) a w) (hz:∀ s,m 0 s=none)
  (hb:∀ o,k o=some r->∀ n z a w,m (n + 1) z=some o->(∃ v,St M0 w0 nn (ap_ (C z v) Γ0) a w)->c.wpIn (Fr rr) 0 P (Exit.then (λa' w'=>∃ s',m n s'=some o/\∃ v,St M0 w0 nn (ap_ (C s' v) Γ0) a' w') (Exit.inBlock id (Exit.then (λa w=>∃ z,o=.brk z/\∃ v,St M0 w0 nn (ap_ (C z v) Γ0) a w) Q))) a w)
  (hc:∀ z,k (.brk z)=some r->∀ a w,(∃ v,St M0 w0 nn (ap_ (C z v) Γ0) a w)->Q .normal a w):(Code.block id (Code.loop c)).wpIn (Fr rr) 0 P Q a w:=
 lb hm (λz a w=>∃ v,St M0 w0 nn (ap_ (C z v) Γ0) a w) h0 hz hb hc
theorem lB2 {c:Code} {id:Nat} {S ρ τ:Type} {m:Nat->S->Option (Lo S ρ)} {f:Nat} {s0:S} {k:Lo S ρ->Option τ} {r:τ} (hm:(m f s0).bind k=some r) (ks:GY) (s:St M0 w0 nn Γ a w) [Pj Γ ks Γ0] (C:S->Value->Value->Cx) (h0:∃ v u,St M0 w0 nn (ap_ (C s0 v u) Γ0) a w) (hz:∀ s,m 0 s=none)
  (hb:∀ o,k o=some r->∀ n z a w,m (n + 1) z=some o->(∃ v u,St M0 w0 nn (ap_ (C z v u) Γ0) a w)->c.wpIn (Fr rr) 0 P (Exit.then (λa' w'=>∃ s',m n s'=some o/\∃ v u,St M0 w0 nn (ap_ (C s' v u) Γ0) a' w') (Exit.inBlock id (Exit.then (λa w=>∃ z,o=.brk z/\∃ v u,St M0 w0 nn (ap_ (C z v u) Γ0) a w) Q))) a w)
  (hc:∀ z,k (.brk z)=some r->∀ a w,(∃ v u,St M0 w0 nn (ap_ (C z v u) Γ0) a w)->Q .normal a w):(Code.block id (Code.loop c)).wpIn (Fr rr) 0 P Q a w:=
 lb hm (λz a w=>∃ v u,St M0 w0 nn (ap_ (C z v u) Γ0) a w) h0 hz hb hc
theorem cP {c:Code} (ks:GY) (s:St M0 w0 nn Γ a w) [Pj Γ ks Γ0] (C:Cx) (h:c.wpIn (Fr rr) 0 P (Exit.then (λa w=>St M0 w0 nn (ap_ C Γ0) a w) Q) a w) (h':∀ a w,St M0 w0 nn (ap_ C Γ0) a w->Q .normal a w):c.wpIn (Fr rr) 0 P Q a w:=cpI _ h h'
theorem cP1 {c:Code} (ks:GY) (s:St M0 w0 nn Γ a w) [Pj Γ ks Γ0] (C:Value->Cx) (h:c.wpIn (Fr rr) 0 P (Exit.then (λa w=>∃ v,St M0 w0 nn (ap_ (C v) Γ0) a w) Q) a w) (h':∀ a w,(∃ v,St M0 w0 nn (ap_ (C v) Γ0) a w)->Q .normal a w):c.wpIn (Fr rr) 0 P Q a w:=cpI _ h h'
end
end Go.Pn
set_option maxRecDepth 100000
namespace Go.Pn
open Go Go.RowKit Go.Proofs
instance:Fo Tryz.prog 26 0 0:=⟨0,by kernel_rfl⟩
instance:Fo Tryz.prog 26 2 2:=⟨0,by kernel_rfl⟩
instance:Fo Tryz.prog 31 0 0:=⟨0,by kernel_rfl⟩
instance:Fo Tryz.prog 31 1 1:=⟨0,by kernel_rfl⟩
instance:Fo Tryz.prog 45 0 0:=⟨0,by kernel_rfl⟩
instance:Fo Tryz.prog 45 1 1:=⟨0,by kernel_rfl⟩
instance:Fo Tryz.prog 45 2 2:=⟨2,by kernel_rfl⟩
instance:Fo Tryz.prog 45 3 5:=⟨2,by kernel_rfl⟩
instance:Fo Tryz.prog 45 4 8:=⟨0,by kernel_rfl⟩
instance:Fo Tryz.prog 45 5 9:=⟨0,by kernel_rfl⟩
instance:Fo Tryz.prog 49 0 0:=⟨0,by kernel_rfl⟩
instance:Fo Tryz.prog 49 1 1:=⟨0,by kernel_rfl⟩
instance:Fo Tryz.prog 49 2 2:=⟨0,by kernel_rfl⟩
instance:Fo Tryz.prog 49 3 3:=⟨0,by kernel_rfl⟩
instance:Fo Tryz.prog 49 4 4:=⟨0,by kernel_rfl⟩
instance:Fo Tryz.prog 56 0 0:=⟨0,by kernel_rfl⟩
instance:Fo Tryz.prog 90 1 2:=⟨0,by kernel_rfl⟩
instance:Fo Tryz.prog 144 0 0:=⟨0,by kernel_rfl⟩
instance:Fo Tryz.prog 144 1 1:=⟨0,by kernel_rfl⟩
instance:Fo Tryz.prog 149 0 0:=⟨0,by kernel_rfl⟩
instance:Fo Tryz.prog 149 1 1:=⟨0,by kernel_rfl⟩
instance:Fo Tryz.prog 189 0 0:=⟨4,by kernel_rfl⟩
instance:Fo Tryz.prog 189 1 5:=⟨0,by kernel_rfl⟩
instance:Fo Tryz.prog 189 2 6:=⟨2,by kernel_rfl⟩
instance:Fo Tryz.prog 198 0 0:=⟨4,by kernel_rfl⟩
instance:Fo Tryz.prog 241 0 0:=⟨4,by kernel_rfl⟩
instance:Fo Tryz.prog 241 1 5:=⟨4,by kernel_rfl⟩
instance:Fo Tryz.prog 241 2 10:=⟨0,by kernel_rfl⟩
instance:Fo Tryz.prog 266 0 0:=⟨0,by kernel_rfl⟩
instance:Fo Tryz.prog 266 1 1:=⟨0,by kernel_rfl⟩
instance:Fo Tryz.prog 287 0 0:=⟨0,by kernel_rfl⟩
instance:Fo Tryz.prog 287 1 1:=⟨0,by kernel_rfl⟩
instance:Fo Tryz.prog 287 2 2:=⟨0,by kernel_rfl⟩
instance:Zc Tryz.prog 24 [(.slice none 0 0)]:=⟨λ_ _=>alr (z:=(.slice none 0 0)) kr_ rfl rfl⟩
instance:Zc Tryz.prog 26 [(.int .i64 (0:Int)),(.slice none 0 0),(.slice none 0 0),(.slice none 0 0),(.slice none 0 0)]:=⟨λ_ _=>alr (z:=.agg #[(.int .i64 (0:Int)),(.slice none 0 0),(.slice none 0 0),(.slice none 0 0),(.slice none 0 0)]) kr_ rfl rfl⟩
instance:Zc Tryz.prog 31 [(.slice none 0 0),(.slice none 0 0)]:=⟨λ_ _=>alr (z:=.agg #[(.slice none 0 0),(.slice none 0 0)]) kr_ rfl rfl⟩
instance:Zc Tryz.prog 34 [(.slice none 0 0),(.slice none 0 0)]:=⟨λ_ _=>alr (z:=.agg #[(.slice none 0 0),(.slice none 0 0)]) kr_ rfl rfl⟩
instance:Zc Tryz.prog 43 [(.int .i64 (0:Int)),(.int .i64 (0:Int)),(.slice none 0 0)]:=⟨λ_ _=>alr (z:=.agg #[(.int .i64 (0:Int)),(.int .i64 (0:Int)),(.slice none 0 0)]) kr_ rfl rfl⟩
instance:Zc Tryz.prog 45 [(.string ByteArray.empty),(.int .i64 (0:Int)),(.int .i64 (0:Int)),(.int .i64 (0:Int)),(.slice none 0 0),(.int .i64 (0:Int)),(.int .i64 (0:Int)),(.slice none 0 0),(.int .i64 (0:Int)),(.bool false)]:=⟨λ_ _=>alr (z:=.agg #[(.string ByteArray.empty),(.int .i64 (0:Int)),(.int .i64 (0:Int)),(.int .i64 (0:Int)),(.slice none 0 0),(.int .i64 (0:Int)),(.int .i64 (0:Int)),(.slice none 0 0),(.int .i64 (0:Int)),(.bool false)]) kr_ rfl rfl⟩
instance:Zc Tryz.prog 49 [(.slice none 0 0),(.slice none 0 0),(.slice none 0 0),(.slice none 0 0),(.slice none 0 0)]:=⟨λ_ _=>alr (z:=.agg #[(.slice none 0 0),(.slice none 0 0),(.slice none 0 0),(.slice none 0 0),(.slice none 0 0)]) kr_ rfl rfl⟩
instance:Zc Tryz.prog 56 [(.int .i64 (0:Int)),(.slice none 0 0)]:=⟨λ_ _=>alr (z:=.agg #[(.int .i64 (0:Int)),(.slice none 0 0)]) kr_ rfl rfl⟩
instance:Zc Tryz.prog 80 [(.map none)]:=⟨λ_ _=>alr (z:=(.map none)) kr_ rfl rfl⟩
instance:Zc Tryz.prog 90 [(.int .i64 (0:Int)),(.slice none 0 0),(.slice none 0 0)]:=⟨λ_ _=>alr (z:=.agg #[(.int .i64 (0:Int)),(.slice none 0 0),(.slice none 0 0)]) kr_ rfl rfl⟩
instance:Zc Tryz.prog 144 [(.slice none 0 0),(.int .i64 (0:Int))]:=⟨λ_ _=>alr (z:=.agg #[(.slice none 0 0),(.int .i64 (0:Int))]) kr_ rfl rfl⟩
instance:Zc Tryz.prog 200 [.nilFunc,.nilFunc,.nilFunc]:=⟨λ_ _=>alr (z:=.agg #[.nilFunc,.nilFunc,.nilFunc]) kr_ rfl rfl⟩
instance:Zc Tryz.prog 211 [(.int .i64 (0:Int)),(.int .i64 (0:Int))]:=⟨λ_ _=>alr (z:=.agg #[(.int .i64 (0:Int)),(.int .i64 (0:Int))]) kr_ rfl rfl⟩
instance:Zc Tryz.prog 284 [.nilFunc,.nilFunc,.nilFunc]:=⟨λ_ _=>alr (z:=.agg #[.nilFunc,.nilFunc,.nilFunc]) kr_ rfl rfl⟩
instance:Smz Int:=⟨rfl⟩
instance:Smz Bool:=⟨rfl⟩
instance:Smz G0:=⟨rfl⟩
instance:Smz Expr:=⟨rfl⟩
instance:Smz Ad:=⟨rfl⟩
instance:Smz Ac:=⟨rfl⟩
instance:Smz Ae:=⟨rfl⟩
instance:Smz Step:=⟨rfl⟩
instance:Smz Ab:=⟨rfl⟩
instance {α:Type} [Rep α]:Smz (List α):=⟨rfl⟩
end Go.Pn
namespace Go.Pn
open Go Go.RowKit Go.Proofs
theorem Pz {P:Program} {nm:String} {kd:IntKind} {zs:GW} {g:Nat} {M:Nat->Prop} {w w':World} (hg:P.globalNamed nm=some g) (hs:g < w.heap.size) (hM:¬ M g) (h:Lib.TabIs P w nm kd zs) (x:Ext M w w'):Lib.TabIs P w' nm kd zs:=by
 unfold Lib.TabIs World.var? at *;rw [hg,E3] at *;rw [x.block g hs hM];exact h
def TbE (P:Program) (nm:String) (kd:IntKind) (zs:GW):Ent where
 p F M w _:=F=[]/\∃ g,P.globalNamed nm=some g/\g < w.heap.size/\¬ M g/\Lib.TabIs P w nm kd zs
 st:=by
  rintro F M w w' v ⟨rfl,g,h1,h2,h3,h4⟩ x;exact ⟨rfl,g,h1,DE h2 x.size,h3,Pz h1 h2 (λh=>h3 h.1) h4 x⟩
 sb:=by
  rintro F M M' w v ⟨rfl,g,h1,h2,h3,h4⟩ s;exact ⟨rfl,g,h1,h2,λh=>h3 (s g h2 h),h4⟩
def Tv (P:Program) (nm:String) (kd:IntKind) (zs:GW) (e:Ent):Ent where
 p F M w v:=e.p F M w v/\(TbE P nm kd zs).p [] M w v
 st:=by
  rintro F M w w' v ⟨h1,h2⟩ x;refine ⟨e.st h1 x,?_⟩;obtain ⟨_,g,k1,k2,k3,k4⟩:=h2;exact ⟨rfl,g,k1,DE k2 x.size,k3,Pz k1 k2 (λh=>k3 h.1) k4 x⟩
 sb:=by
  rintro F M M' w v ⟨h1,h2⟩ s;exact ⟨e.sb h1 s,(TbE P nm kd zs).sb h2 s⟩
instance {P:Program} {nm:String} {kd:IntKind} {zs:GW} {e:Ent} [hz:Zf e]:Zf (Tv P nm kd zs e):=⟨λh=>hz.z h.1⟩
theorem otb {P:Program} {nm:String} {kd:IntKind} {zs:GW} {Γ:Cx} {x:Operand} {e:Ent} {k:Nat} (h:Od Γ x e) (hk:Al Γ k=some (TbE P nm kd zs)):Od Γ x (Tv P nm kd zs e):=λρ M w r=>by
 obtain ⟨F,h1⟩:=h ρ M w r;obtain ⟨F',h2⟩:=r.tmp _ _ hk;obtain rfl:F'=[]:=h2.1;exact ⟨F,h1,h2⟩
theorem ntb {P:Program} {nm:String} {kd:IntKind} {zs:GW} {M0:Fm} {w0 w:World} {n:Nat} {Γ:Cx} {a:Act} {d:Nat} {e:Ent} [hz:Zf e] {R:Prop} (k:Nat) (h:St M0 w0 n Γ a w) (hd:Al Γ d=some (Tv P nm kd zs e)) (hne:Nat.beq d k=false) (r:St M0 w0 n ((d,e) :: (k,TbE P nm kd zs) :: Γ) a w->R):R:=by
 obtain ⟨M,φ,h⟩:=h;refine r ?_;unfold St;rw [Eh];have h1:=h.holds d _ hd;obtain ⟨h2,h3⟩:=h1;have hF:=hz.z h2;refine h.split (by rw [hd];rfl) (DL hne) ?_ ?_
 ·rw [hF] at h2;exact h2
 ·rw [hF];exact h3
theorem To {w:World} {q:Nat} {os:Array Obj}:Ext No w (Sort.grow (w.drewN q) os):=by
 refine ⟨rfl,rfl,rfl,?_,λk hk _=>?_,?_⟩
 ·show w.heap.size<=(w.heap ++ os).size;simp
 ·show (w.heap ++ os)[k]?=w.heap[k]?;rw [FC hk]
 ·show w.drawn<=w.drawn + q;omega
theorem sp_fi {P:Program} {f:FuncId} {nm:String} {kd:IntKind} {zs:GW} (hc:cal P f=true)
  (H:∀ (n:Int),-9223372036854775808<=n->n<=9223372036854775807->∀ w:World,Lib.TabIs P w nm kd zs->Calls P f #[.int .i64 n,.int .i64 10] w λe w'=>e=.returned (.string ⟨(Lib.itoa n).toArray⟩)/\∃ k os,w'=Sort.grow (w.drewN k) os)
  {n:Int} (h0:-9223372036854775808<=n) (h1:n<=9223372036854775807):Sp P f [Tv P nm kd zs (Va n),Va (10:Int)] (Va (⟨(Lib.itoa n).toArray⟩:G0)):=by
 intro vs M w hM hf
 match vs,hf with
 | [v1,v2],⟨⟨⟨_,cs1,e1,r1⟩,_,g,_,_,_,h4⟩,⟨_,cs2,e2,r2⟩,_⟩=>
  have r1:cs1=[.int .i64 n]:=r1;have r2:cs2=[.int .i64 (10:Int)]:=r2;subst r1 r2;have e1:v1=.int .i64 n:=e1;have e2:v2=.int .i64 10:=e2;subst e1 e2;refine ⟨hc,(H n h0 h1 w h4).mono ?_⟩;rintro e w' ⟨rfl,k,os,rfl⟩;exact ⟨_,rfl,To,[],DH,λk hk=>by simp at hk,rfl,[.string ⟨(Lib.itoa n).toArray⟩],rfl,rfl⟩
abbrev TbT : Ent := TbE Tryz.prog "internal/strconv.uint64pow10" .u64 Lib.pow10Tab
abbrev TV (e : Ent) : Ent := Tv Tryz.prog "internal/strconv.uint64pow10" .u64 Lib.pow10Tab e
end Go.Pn
namespace Go.Proofs
open Go.Shelf
def Tryz.laysFi_ren:Go.Shelf.Ren:=⟨λ| 246=>141 | 283=>174 | 284=>175 | 285=>176 | 286=>177 | 129=>200 | 317=>199 | 318=>201 | 319=>202 | 320=>203 | 337=>224 | 338=>225 | n=>n,λ| 2=>2 | 3=>3 | 9=>9 | 4=>4 | 171=>229 | 0=>0 | 53=>204 | 37=>113 | 5=>5 | 173=>232 | 212=>259 | 51=>201 | 20=>20 | 213=>260 | 46=>163 | 232=>298 | 233=>299 | n=>n,λ| 17=>0 | 18=>1 | 19=>2 | n=>n⟩
theorem Tryz.laysFi:Go.Proofs.LaysM.n246 Tryz.prog Tryz.laysFi_ren:={
 mixed:=by kernel_rfl
 f129:=Tryz.func200.trans (congrArg some Go.Pn.kr_)
 f246:=Tryz.func141.trans (congrArg some Go.Pn.kr_)
 f283:=Tryz.func174.trans (congrArg some Go.Pn.kr_)
 f284:=Tryz.func175.trans (congrArg some Go.Pn.kr_)
 f285:=Tryz.func176.trans (congrArg some Go.Pn.kr_)
 f286:=Tryz.func177.trans (congrArg some Go.Pn.kr_)
 f317:=Tryz.func199.trans (congrArg some Go.Pn.kr_)
 f318:=Tryz.func201.trans (congrArg some Go.Pn.kr_)
 f319:=Tryz.func202.trans (congrArg some Go.Pn.kr_)
 f320:=Tryz.func203.trans (congrArg some Go.Pn.kr_)
 f337:=Tryz.func224.trans (congrArg some Go.Pn.kr_)
 f338:=Tryz.func225.trans (congrArg some Go.Pn.kr_)
 t0:=Tryz.underlying0
 a0:=Tryz.isAgg0
 z0:=Tryz.sizeOf0
 v0:=Tryz.zeroValue0
 t2:=Tryz.underlying2
 a2:=Tryz.isAgg2
 z2:=Tryz.sizeOf2
 v2:=Tryz.zeroValue2
 t3:=Tryz.underlying3
 a3:=Tryz.isAgg3
 z3:=Tryz.sizeOf3
 v3:=Tryz.zeroValue3
 t4:=Tryz.underlying4
 a4:=Tryz.isAgg4
 z4:=Tryz.sizeOf4
 v4:=Tryz.zeroValue4
 t5:=Tryz.underlying5
 a5:=Tryz.isAgg5
 z5:=Tryz.sizeOf5
 v5:=Tryz.zeroValue5
 t9:=Tryz.underlying9
 a9:=Tryz.isAgg9
 z9:=Tryz.sizeOf9
 v9:=Tryz.zeroValue9
 t20:=Tryz.underlying20
 a20:=Tryz.isAgg20
 z20:=Tryz.sizeOf20
 v20:=Tryz.zeroValue20
 t37:=Tryz.underlying113
 a37:=Tryz.isAgg113
 z37:=Tryz.sizeOf113
 v37:=Tryz.zeroValue113
 t46:=Tryz.underlying163
 a46:=Tryz.isAgg163
 z46:=Tryz.sizeOf163
 v46:=Tryz.zeroValue163
 t51:=Tryz.underlying201
 a51:=Tryz.isAgg201
 z51:=Tryz.sizeOf201
 v51:=Tryz.zeroValue201
 t53:=Tryz.underlying204
 a53:=Tryz.isAgg204
 z53:=Tryz.sizeOf204
 v53:=Tryz.zeroValue204
 t171:=Tryz.underlying229
 a171:=Tryz.isAgg229
 z171:=Tryz.sizeOf229
 v171:=Tryz.zeroValue229
 t173:=Tryz.underlying232
 a173:=Tryz.isAgg232
 z173:=Tryz.sizeOf232
 v173:=Tryz.zeroValue232
 t212:=Tryz.underlying259
 a212:=Tryz.isAgg259
 z212:=Tryz.sizeOf259
 v212:=Tryz.zeroValue259
 t213:=Tryz.underlying260
 a213:=Tryz.isAgg260
 z213:=Tryz.sizeOf260
 t232:=Tryz.underlying298
 a232:=Tryz.isAgg298
 z232:=Tryz.sizeOf298
 v232:=Tryz.zeroValue298
 t233:=Tryz.underlying299
 a233:=Tryz.isAgg299
 z233:=Tryz.sizeOf299
 v233:=Tryz.zeroValue299
 g17:=by kernel_rfl
 g18:=by kernel_rfl
 g19:=by kernel_rfl
 i0:=by kernel_rfl
 i2:=by kernel_rfl
 i3:=by kernel_rfl
 i4:=by kernel_rfl
 i5:=by kernel_rfl
 i9:=by kernel_rfl
 i20:=by kernel_rfl
 i37:=by kernel_rfl
 i46:=by kernel_rfl
 i51:=by kernel_rfl
 i53:=by kernel_rfl
 i171:=by kernel_rfl
 i173:=by kernel_rfl
 i212:=by kernel_rfl
 i232:=by kernel_rfl
 i233:=by kernel_rfl
 m17:=by kernel_rfl
 m18:=by kernel_rfl
 m19:=by kernel_rfl }
end Go.Proofs
namespace Go.Pn
open Go Go.RowKit Go.Proofs
theorem sl_part {α:Type} [Rep α] {M:Nat->Prop} {w:World} {ad:Option Addr} {cap l h:Nat} {xs:List α} (hs:xs=[]\/∃ b o,ad=some ⟨b,o,none⟩/\Row M w b o xs) (h1:l<=h) (h2:h<=xs.length) :
  Sl M w (sliced ad l h (cap + xs.length) (Rep.sz α)) ((xs.drop l).take (h - l)):=by
 have hl:((xs.drop l).take (h - l)).length=h - l:=by simp;omega
 by_cases h0:h - l=0
 ·have hn:(xs.drop l).take (h - l)=[]:=by rw [h0];simp
  refine ⟨if cap + xs.length=l then ad else ad.map (·.add (l * Rep.sz α)),cap + xs.length - l,?_,.inl hn⟩
  rw [hn];unfold sliced;rw [h0];rfl
 ·rcases hs with hs | ⟨b,o,rfl,hr⟩
  ·rw [hs] at h2;simp at h2;omega
  ·refine ⟨some ⟨b,o + l * Rep.sz α,none⟩,cap + (xs.length - h),?_,.inr ⟨b,_,rfl,Row.of_get λi x hx=>?_⟩⟩
   ·unfold sliced;rw [if_neg om_,hl,DG,Bj];congr 1;omega
   ·have hi:i < h - l:=by rw [← hl];exact (CT.1 hx).1
    rw [DT hi,FL] at hx;have:=hr.get hx
    rwa [EJ,← Nat.add_assoc] at this
section
variable {P:Program} {Γ:Cx} {ty:TypeId}
theorem lsl_ok {α:Type} {xs ys:List α} {l h:Int} (hr:lsl xs l h=some ys):0<=l/\l<=h/\h<=xs.length/\ys=(xs.drop l.toNat).take (h.toNat - l.toNat):=by
 unfold lsl at hr;split at hr
 ·rename_i hc;exact ⟨hc.1,hc.2.1,hc.2.2,(Option.some.inj hr).symm⟩
 ·cases hr
theorem es_und {T:TypeId} {α:Type} [Rep α] (he:Es P T α):P.underlying T=some (.slice (P.elem T))/\∀ w,(sizeOf (P.elem T)).run P w=.ok (Rep.sz α) w:=by
 obtain ⟨e,h1,h2⟩:=he.el;have hu:=Pi h1;have hE:P.elem T=e:=by simp [Program.elem,hu]
 rw [hE];refine ⟨hu,λw=>?_⟩;cases hi:P.info? e with
 | none=>rw [hi] at h2;cases h2
 | some i=>rw [hi] at h2;simp at h2;simp [sizeOf,typeInfo,hi,h2]
theorem ll0 {α:Type} [Rep α] {T:TypeId} [he:Es P T α] {x y:Operand} {xs ys:List α} {h:Int} (hx:Od Γ x (Va xs)) (hy:Od Γ y (Va h)) (hr:lsl xs 0 h=some ys):OR P (.slice T x none (some y) none) ty Γ (Va ys):=by
 obtain ⟨h1,h2,h3,rfl⟩:=lsl_ok hr;obtain ⟨hu,hsz⟩:=es_und he;refine OR.val λρ M w rd=>?_;obtain ⟨_,hv⟩:=hx ρ M w rd;obtain ⟨_,hy2⟩:=hy ρ M w rd;obtain ⟨ad,cap,hv,hs⟩:=Va.list hv;have:=run_slice_h w T ad xs.length (cap + xs.length) hu .i64 h h2 om_;refine ⟨sliced ad 0 h.toNat (cap + xs.length) (Rep.sz α),λ_ _ _ _=>?_,Va.mkList (sl_part hs (EP _) om_)⟩;simp only [execOp,hv,E6,DG,Va.int hy2,CM];rw [run_sliceAt_slice _ _ _ _ _ _ hu,this,hsz];try rfl
end
end Go.Pn
namespace Go.Pn
theorem I.{u} {α : Sort u} {a : α} : a = a := rfl
abbrev nz : Go.Value := .slice none 0 0
end Go.Pn

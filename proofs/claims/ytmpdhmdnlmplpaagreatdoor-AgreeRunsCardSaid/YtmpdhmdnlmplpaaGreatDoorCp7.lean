import Derived.Test.YtmpdhmdnlmplpaaGreatDoorCp6
set_option synthInstance.checkSynthOrder false
set_option synthInstance.maxSize 10000
set_option synthInstance.maxHeartbeats 400000
set_option maxRecDepth 100000
set_option maxHeartbeats 4000000
set_option linter.unusedVariables false
set_option linter.unusedSimpArgs false
set_option linter.defProp false
namespace Go.Pn
open Go Go.Sort Go.Proofs
section
variable {c:Aa} {sp:Space} {t:List (List Ab)} {B:Nat}
def lbs (h:Sq c sp) (i:Nat):List (List Ab):=(List.range i).map λj=>lb1 (crs h j)
theorem Py (h:Sq c sp) (i:Nat):(lbs h i).length=i:=by simp [lbs]
theorem E9 (h:Sq c sp) (i:Nat):lbs h (i + 1)=lbs h i ++ [lb1 (crs h i)]:=by simp [lbs,List.range_succ]
theorem Xf (h:Sq c sp) {i k:Nat} (hk:k < i):(lbs h i)[k]?=some (lb1 (crs h k)):=by
 unfold lbs;rw [G5,HY hk];rfl
structure Snm (h:Sq c sp) (i:Nat) (sm:List (ByteArray×Int)):Prop where
 a:∀ b v,mat Qq sm b=some v->∃ j,j < i/\v=((j:Nat):Int)/\b.data.toList=nmb (crs h j).1
 b:∀ b j,j < i->b.data.toList=nmb (crs h j).1->∃ v,mat Qq sm b=some v
theorem Snm.put {h:Sq c sp} {i:Nat} {sm:List (ByteArray×Int)} (hs:Snm h i sm) {b:ByteArray} (hb:b.data.toList=nmb (crs h i).1):Snm h (i + 1) (Dw Qq sm b (i:Int)) where
 a b' v hv:=by
  rw [Sv] at hv;by_cases e:b'=b
  ·rw [if_pos e] at hv;exact ⟨i,by omega,(Option.some.inj hv).symm,by rw [e];exact hb⟩
  ·rw [if_neg e] at hv;obtain ⟨j,h1,h2⟩:=hs.a _ _ hv;exact ⟨j,by omega,h2⟩
 b b' j hj hb':=by
  rw [Sv];by_cases e:b'=b
  ·rw [if_pos e];exact ⟨_,rfl⟩
  ·rw [if_neg e];rcases JX (J1 hj) with h1 | rfl
   ·exact hs.b _ _ h1 hb'
   ·exact absurd (ba_eq (hb'.trans hb.symm)) e
def Ce (h:Sq c sp) (n:Nat) (at':Int) (nx:List (List Ab)):Prop:=(∃ a,a < n/\crs h a=crs h n/\at'=((a:Nat):Int)/\nx=[])\/(at'=-1/\nx=nT (crs h n)/\nx.length≠1)
theorem Nw (h:Sq c sp) (hN:sp.States.length<=50) {n:Nat} (hn:n<=9191730) (he:En h n) (hmin:∀ m,m < n->¬ En h m):∀ (f i:Nat) (m:List (Int×List Int)) (t:List (List Ab)) (sm:List (ByteArray×Int)),i<=n->n - i < f->Fmk (crs h i) t (51 * (i + 1)) m->Snm h i sm ->
  ∃ at' nx m',Lj FF (wd_ sp) f (m,sm,lbs h i)=some (.ret (at',lbs h n,m',nx))/\Ce h n at' nx/\∃ t,Fmk (crs h n) t (51 * (n + 1)) m'
 | 0,_,_,_,_,_,h,_,_=>by omega
 | f + 1,i,m,t,sm,hi,hf,hm,hs=>by
  obtain ⟨b,e1,e2⟩:=EN h hN hm;rw [Lj];dsimp only;rw [e1,ob_];cases hq:mat Qq sm b with
  | some v=>
   obtain ⟨j,h1,h2,h3⟩:=hs.a _ _ hq;have hc:crs h j=crs h i:=nmb_fr hN (h3.symm.trans e2);have hin:i=n:=by
    refine Classical.byContradiction λhne=>hmin i om_ (.inl ⟨j,h1,hc⟩)
   subst hin;rw [show (some v:Option Int).isSome=true from rfl,ct_];exact ⟨v,[],m,rfl,.inl ⟨j,h1,hc,h2,rfl⟩,t,hm⟩
  | none=>
   have hd:∀ j,j < i->crs h j≠crs h i:=λj hj hc=>by
    obtain ⟨v,hv⟩:=hs.b b j hj (by rw [e2,hc]);rw [hq] at hv;cases hv
   rw [show (none:Option Int).isSome=false from rfl,cf_,ob_,BS h hm,ob_];by_cases h1:(nT (crs h i)).length=1
   ·have hnE:i≠n:=λhin=>by
     subst hin;rcases he with ⟨j,hj,hc⟩ | he
     ·exact hd j hj hc
     ·exact he h1
    have hl:=Zg h1;have hll:(lbs h i).length=i:=Py h i;obtain ⟨m',e3,h3⟩:=EM h (B:=51 * (i + 1)) om_ hm (lb1 (crs h i));rw [show (((nT (crs h i)).length:Int) != 1)=false by rw [h1];rfl,cf_,hl,show idx [lb1 (crs h i)] (0:Int)=some (lb1 (crs h i)) from rfl,ob_,Ar so_,ob_,ob_,e3,ob_,← E9,hll];exact Nw h hN hn he hmin f (i + 1) m' _ _ om_ om_ (h3.le om_) (hs.put e2)
   ·have hin:i=n:=by
     refine Classical.byContradiction λhne=>hmin i om_ (.inr h1)
    subst hin;have:(((nT (crs h i)).length:Int) != 1)=true:=by
     rw [bne_iff_ne];omega
    rw [this,ct_];exact ⟨-1,_,m,rfl,.inr ⟨rfl,rfl,h1⟩,t,hm⟩
theorem EY (h:Sq c sp) (hN:sp.States.length<=50):∃ n,n<=9191730/\(∀ m,m < n->¬ En h m)/\∃ at' nx m',m48 FF (wd_ sp)=some (at',lbs h n,m',nx)/\Ce h n at' nx/\∃ t,Fmk (crs h n) t (51 * (n + 1)) m':=by
 obtain ⟨n,hn,he,hmin⟩:=crs_end h hN;obtain ⟨m,e1,h1⟩:=EO h;obtain ⟨at',nx,m',e2,h2⟩:=Nw h hN hn he hmin (FF + 10000000) 0 m [] [] om_ om_ (h1.le om_) ⟨λb v hv=>(by cases hv),λb j hj=>by omega⟩;refine ⟨n,hn,hmin,at',nx,m',?_,h2⟩;have e2:Lj FF (wd_ sp) (FF + 10000000) (m,[],[])=some (.ret (at',lbs h n,m',nx)):=e2;unfold m48;rw [e1,ob_,e2];rfl
inductive Co (h:Sq c sp):Bool->List (List Ab)->List (List Ab)->Prop
 | no {x y}:Co h false x y
 | loop {a n:Nat}:n<=9191730->a < n->crs h a=crs h n->(∀ m,m < n->¬ En h m)->Co h true (lbs h a) ((lbs h n).drop a)
 | stop {n:Nat}:n<=9191730->nT (crs h n)=[]->(∀ m,m < n->¬ En h m)->Co h true (lbs h n) []
theorem E8 (h:Sq c sp) {a n:Nat} (ha:a<=n):(lbs h n).take a=lbs h a:=by
 unfold lbs;rw [← List.map_take,List.take_range,Nat.min_eq_left ha]
theorem m1617 (h:Sq c sp) (hN:sp.States.length<=50) {held:List Bool} (hx:m30 FF c held=some (sp,0)):∃ d x y,m16 FF c held=some (d,0)/\(d=true->m17 FF c held=some (x,y,0)/\Co h d x y)/\(d=false->m17 FF c held=some ([],[],16)):=by
 obtain ⟨n,hn,hmin,at',nx,m',e,hc,_⟩:=EY h hN;have h39:=Yu h hx;have h39:m39 FF c held=some (wd_ sp,0):=h39;unfold m16 m17;rw [h39,ob_,ob_];dsimp only;rw [zf_,cf_,cf_,e,ob_,ob_];dsimp only;unfold m49;rw [ob_,ob_];have hll:(lbs h n).length=n:=Py h n;rcases hc with ⟨a,h1,h2,h3,h4⟩ | ⟨h1,h2,h3⟩
 ·subst h3 h4;refine ⟨true,lbs h a,(lbs h n).drop a,rfl,⟨λ_=>⟨?_,.loop hn h1 h2 hmin⟩,λe=>by cases e⟩⟩;rw [show decide ((([]:List (List Ab)).length:Int) < 2)=true from rfl,JK,cf_,show decide (((a:Nat):Int) < 0)=false by simp,cf_,Te om_,ob_,Tf om_,ob_,E8 h om_]
 ·subst h1;by_cases h4:nx.length < 2
  ·have h5:nx=[]:=JC.1 om_;subst h5;refine ⟨true,lbs h n,[],rfl,⟨λ_=>⟨?_,.stop hn h2.symm hmin⟩,λe=>by cases e⟩⟩;rfl
  ·have h5:decide (((nx.length:Nat):Int) < 2)=false:=by simp;omega
   rw [h5];exact ⟨false,[],[],rfl,⟨λe=>(by cases e),λ_=>rfl⟩⟩
end
end Go.Pn
namespace Go.Pn
open Go Go.Sort Go.Proofs
theorem dneq {α:Type} [DecidableEq α] [BEq α] [LawfulBEq α] (x y:α):(!decide (x=y))=(x != y):=by
 rw [HX];simp
theorem E3 {a b:List Ab} (hl:a.length<=90000):m18 FF a b=some (decide (a=b)):=by
 unfold m18;have:=AW (L:=Vp a b) (xs:=a) (ys:=b) (f:=FF) (λn z=>by
  rw [Vp];cases decide (z < (a.length:Int)) with
  | false=>rfl
  | true=>
   rw [ct_,ct_];cases idx a z with
   | none=>rfl
   | some u=>
    rw [ob_,ob_];cases idx b z with
    | none=>rfl
    | some v=>
     rw [ob_,ob_,DN];rfl) om_ uF
 refine this.trans (congrArg some ?_);rw [HX];simp
theorem EZ {a b:List (List Ab)} (hl:a.length<=1000000000) (hx:∀ x∈a,x.length<=10000):m43 FF a b=some (decide (a=b)):=by
 unfold m43;have:=AW (L:=Uw FF a b) (xs:=a) (ys:=b) (f:=FF + a.length) (λn z=>by
  rw [Uw];cases decide (z < (a.length:Int)) with
  | false=>rfl
  | true=>
   rw [ct_,ct_];cases hq:idx a z with
   | none=>rfl
   | some u=>
    rw [ob_,ob_];cases idx b z with
    | none=>rfl
    | some v=>
     rw [ob_,ob_,Yt (hx u (Bg hq)),ob_,dneq]) om_ uF
 refine this.trans (congrArg some ?_);rw [HX];simp
section
variable {c:Aa} {sp:Space}
theorem Nm {i:Nat} {mv:List Int} (hi:idx sp.Moves (i:Int)=some mv) (hl:mv.length<=22) (hr:∀ k∈mv,0<=k/\k < sp.States.length):∀ (n k:Nat),k<=mv.length->mv.length - k < n->Yk sp (i:Int) n (k:Int)=some (.brk (mv.length:Int))
 | 0,_,_,h=>by omega
 | n + 1,k,hk,hn=>by
  rw [Yk,hi,ob_];by_cases hlt:k < mv.length
  ·obtain ⟨h0,h1⟩:=hr mv[k] (GR _);rw [Aj,dt_ hlt,ct_,ob_,Ai,gE_ hlt,ob_,show decide (mv[k] < 0)=false by simp;omega,cf_,ob_,Ai,gE_ hlt,ob_,ob_,show decide (mv[k]>=(sp.States.length:Int))=false by simp;omega,cf_,Am om_];exact Nm hi hl hr n (k + 1) om_ om_
  ·obtain rfl:k=mv.length:=by omega
   rw [Aj,df_ om_,cf_]
theorem Nn (h:Sq c sp):∀ (n i:Nat),i<=sp.Moves.length->sp.Moves.length - i < n->Yl FF sp n (i:Int)=some (.brk (sp.Moves.length:Int))
 | 0,_,_,h=>by omega
 | n + 1,i,hi,hn=>by
  have hml:=h.ml;have hle:=h.le;rw [Yl];by_cases hlt:i < sp.Moves.length
  ·obtain ⟨h1,h2⟩:=h.rows sp.Moves[i] (GR _);have hx:idx sp.Moves (i:Int)=some sp.Moves[i]:=by rw [Ai,gE_ hlt]
   have e:=Nm hx h1 h2 FF 0 om_ uF;rw [n0] at e;rw [Aj,dt_ hlt,ct_,e,ob_];dsimp only;rw [Am om_];exact Nn h n (i + 1) om_ om_
  ·obtain rfl:i=sp.Moves.length:=by omega
   rw [Aj,df_ om_,cf_]
theorem EP (h:Sq c sp):m76 FF sp=some 0:=by
 have hml:=h.ml;have hle:=h.le;have hp:=h.pos;have e:=Nn h FF 0 om_ uF;rw [n0] at e;unfold m76;rw [show ((sp.States.length:Int) == 0)=false by rw [beq_eq_false_iff_ne];omega,cf_,show decide ((sp.States.length:Int) > 16384)=false by simp;omega,cf_,show ((sp.Moves.length:Int) != (sp.States.length:Int))=false by rw [hml];simp,cf_,e];rfl
theorem pboth (h:Sq c sp) {path:List Int} (hl:path.length<=10000):∀ (n n' k:Nat) (i:Int),k<=path.length->path.length - k < n->path.length - k < n'->0<=i->i < sp.States.length ->
  (Rm sp path n (i,(k:Int))=some (.ret (0,6))/\Uv sp path n' (i,(k:Int))=some (.ret (0,6)))\/(∃ z z',Rm sp path n (i,(k:Int))=some (.brk z)/\Uv sp path n' (i,(k:Int))=some (.brk z')/\Vp_ sp i (path.drop k))
 | 0,_,_,_,_,h,_,_,_=>by omega
 | _ + 1,0,_,_,_,_,h,_,_=>by omega
 | n + 1,n' + 1,k,i,hk,hn,hn',h0,h1=>by
  rw [Rm,Uv];dsimp only;by_cases hlt:k < path.length
  ·obtain ⟨mv,m1,m2,m3,m4,m5⟩:=Wf h h0 h1;have hx:idx path (k:Int)=some path[k]:=by rw [Ai,gE_ hlt]
   rw [Aj,dt_ hlt,ct_,ct_,hx,ob_,ob_,m1,ob_,ob_,ob_,ob_,GU hlt];generalize path[k]=x;by_cases hx:x < 0
   ·rw [dt_ hx];exact .inl ⟨rfl,rfl⟩
   ·rw [df_ hx];simp only [cf_,ob_];by_cases hx2:x>=(mv.length:Int)
    ·rw [dt_ hx2];exact .inl ⟨rfl,rfl⟩
    ·rw [df_ hx2];simp only [cf_];obtain ⟨j,hj,hjm⟩:=Cv (xs:=mv) (i:=x) om_ om_;obtain ⟨j0,j1⟩:=m5 j hjm;rw [hj];simp only [ob_];rw [Am om_];rcases pboth h hl n n' (k + 1) j om_ om_ om_ j0 j1 with e | ⟨z,z',e,e',hv⟩
     ·exact .inl e
     ·exact .inr ⟨z,z',e,e',mv,j,m1,hj,hv⟩
  ·rw [Aj,df_ hlt,cf_,cf_];refine .inr ⟨_,_,rfl,rfl,?_⟩;rw [G4 om_];trivial
theorem Ha (h:Sq c sp) {path:List Int} (hl:path.length<=10000):∀ (n k:Nat) (i:Int) (acc:List (List Ab)),k<=path.length->path.length - k < n->0<=i->i < sp.States.length->Vp_ sp i (path.drop k)->acc.length<=k ->
  ∃ z z' t,Ys FF sp path n (i,(k:Int),acc)=some (z,z',acc ++ t)/\AA sp i (path.drop k) t
 | 0,_,_,_,_,h,_,_,_,_=>by omega
 | n + 1,k,i,acc,hk,hn,h0,h1,hv,ha=>by
  rw [Ys];dsimp only;by_cases hlt:k < path.length
  ·rw [GU hlt] at hv ⊢;obtain ⟨mv,j,v1,v2,v3⟩:=hv;have hi:i=((i.toNat:Nat):Int):=by omega
   have v1':sp.Moves[i.toNat]?=some mv:=by rw [hi,Ai] at v1;exact v1
   have hb:m78 FF sp i=some (mv.map (lab sp i)):=by
    have:=Mi h v1';rw [← hi] at this;exact this
   obtain ⟨b0,b1⟩:=Lb v2;have hlb:idx (mv.map (lab sp i)) path[k]=some (lab sp i j):=by
    have e:path[k]=((path[k].toNat:Nat):Int):=by omega
    rw [e,Ai] at v2 ⊢;rw [G5,v2];rfl
   obtain ⟨j0,j1⟩:=(h.rows mv (GT v1')).2 j (Bg v2);have hx:idx path (k:Int)=some path[k]:=by rw [Ai,gE_ hlt]
   rw [Aj,dt_ hlt,ct_,hb,ob_,hx,ob_,hlb,ob_];by_cases he:lab sp i j=[]
   ·rw [he,show decide ((([]:List Ab).length:Int) > 0)=false from rfl,cf_,ob_,v1,ob_,ob_,v2,ob_,Am om_];obtain ⟨z,z',t,e1,e2⟩:=Ha h hl n (k + 1) j acc om_ om_ j0 j1 v3 om_;exact ⟨z,z',t,e1,mv,j,t,v1,v2,by rw [if_pos he],e2⟩
   ·have hg:decide (((lab sp i j).length:Int) > 0)=true:=by
     cases hq:lab sp i j with
     | nil=>exact (he hq).elim
     | cons y ys=>simp
    rw [hg,ct_,Ar so_,ob_,ob_,v1,ob_,ob_,v2,ob_,Am om_];obtain ⟨z,z',t,e1,e2⟩:=Ha h hl n (k + 1) j (acc ++ [lab sp i j]) om_ om_ j0 j1 v3 so_;refine ⟨z,z',lab sp i j :: t,?_,mv,j,t,v1,v2,by rw [if_neg he],e2⟩;rw [e1,HC];rfl
  ·rw [Aj,df_ hlt,cf_];refine ⟨_,_,[],by rw [HQ],?_⟩;rw [G4 om_];rfl
theorem paths {s0:Ac} {path:List Int} (h:Sq c sp) (hS:Sp_ c s0 sp) (hl:path.length<=10000) :
  (m40 FF (wd_ sp) path=some ([],6)/\m45 FF sp path=some (0,6))\/∃ t j,m40 FF (wd_ sp) path=some (t,0)/\m45 FF sp path=some (j,0)/\m47 FF sp path=some t/\AA sp 0 path t:=by
 have hml:=h.ml;have hle:=h.le;have hpos:=h.pos;have h103:m61 FF sp=some 0:=by
  rw [EV uF om_ (λl hl=>by have:=(h.rows l hl).1;unfold FF;omega),hS.shp h.bd]
 have hb:=pboth h hl (FF + path.length) FF 0 0 om_ uF uF om_ om_;rw [n0,GZ] at hb;unfold m40 m45 m31 wd_;rw [ob_];dsimp only;rw [h103,ob_,EP h,ob_,zf_,cf_,cf_];rcases hb with ⟨e,e'⟩ | ⟨z,z',e,e',hv⟩
 ·rw [e,e'];exact .inl ⟨rfl,rfl⟩
 ·obtain ⟨z1,z2,t,e1,e2⟩:=Hb h (path:=path) om_ (FF + path.length) 0 0 [] om_ uF om_ om_ (by rw [GZ];exact hv) smp_;obtain ⟨y1,y2,t',e3,e4⟩:=Ha h (path:=path) hl FF 0 0 [] om_ uF om_ om_ (by rw [GZ];exact hv) smp_;rw [n0,JU] at e1 e3;rw [GZ] at e2 e4;obtain rfl:=e4.uniq e2;refine .inr ⟨t',z'.1,?_,?_,?_,e2⟩
  ·rw [e,ob_];dsimp only;rw [ob_];dsimp only;rw [zf_,cf_,e1];rfl
  ·rw [e'];rfl
  ·unfold m47;rw [e3];rfl
theorem AA.labs (h:Sq c sp):∀ {p:List Int} {i:Int} {t:List (List Ab)},AA sp i p t->∀ a∈t,a.length<=6
 | [],_,t,ht=>by
  have ht:t=[]:=ht;subst ht;simp
 | k :: p,i,t,⟨mv,j,t',h1,h2,h3,h4⟩=>by
  obtain ⟨i0,i1⟩:=Lb h1;have h5:=(Qb (to:=j) h i0 (by have:=h.ml;omega)).2;have h6:=h4.labs h;intro a ha;rw [h3] at ha;split at ha
  ·exact h6 a ha
  ·rcases GS.1 ha with rfl | ha
   ·exact h5
   ·exact h6 a ha
end
end Go.Pn
namespace Go.Pn
open Go Go.Sort Go.Proofs
theorem awk:m10 FF=some true:=awkF
section
variable {c:Aa} {held:List Bool} {sp:Space}
theorem BV (h:Sq c sp) (hx:m30 FF c held=some (sp,0)):m39 FF c held=some (wd_ sp,0):=Yu h hx
theorem BW {e:Int} (he:e≠0) (hx:m30 FF c held=some (sp,e)):m39 FF c held=some (none,e):=by
 unfold m39;rw [hx,ob_];dsimp only;rw [nbb he,ct_]
def Dif (t1 t2:List (List Ab)):Prop:=∃ u a b,t1=u ++ [a]/\t2=u ++ [b]/\a≠b
theorem DR (t1 t2:List (List Ab)):t1=[]\/(∃ u a,t1=u ++ [a]/\(t2.length≠t1.length\/∃ v b,t2=v ++ [b]/\v.length=u.length)):=by
 by_cases h:t1=[]
 ·exact .inl h
 ·obtain ⟨u,a,e⟩:=Wt h;refine .inr ⟨u,a,e,?_⟩;by_cases hl:t2.length=t1.length
  ·refine .inr ?_;have h2:t2≠[]:=λe2=>by
    rw [e2] at hl;exact h (JC.1 hl.symm)
   obtain ⟨v,b,e2⟩:=Wt h2;refine ⟨v,b,e2,?_⟩;rw [e,e2] at hl;simpa using hl
  ·exact .inl hl
theorem wr_last {u:List (List Ab)} {a:List Ab} (h:u.length<=1000000000):wr (((u ++ [a]).length:Int) - 1)=(u.length:Int):=by
 rw [GM,List.length_singleton,Aq om_ om_];omega
theorem dif_app {u v:List (List Ab)} {a b:List Ab} (h:v.length=u.length):Dif (u ++ [a]) (v ++ [b])↔u=v/\a≠b:=by
 constructor
 ·rintro ⟨w,x,y,h1,h2,h3⟩;obtain ⟨rfl,h4⟩:=List.append_inj' h1 rfl;obtain ⟨h6,h5⟩:=List.append_inj' h2 rfl;obtain rfl:a=x:=by simpa using h4
  obtain rfl:b=y:=by simpa using h5
  exact ⟨h6.symm,h3⟩
 ·rintro ⟨rfl,h1⟩;exact ⟨u,a,b,rfl,rfl,h1⟩
theorem Zd {u:List (List Ab)} {a:List Ab}:lsl (u ++ [a]) 0 (u.length:Int)=some u:=by
 rw [Te smp_,LZ];rfl
theorem Zi {u:List (List Ab)} {a:List Ab}:idx (u ++ [a]) (u.length:Int)=some a:=by
 rw [Ai,HB (G0 _)];simp
theorem E4 {t1 t2:List (List Ab)} (h1:t1.length<=1000000000) (hl:∀ a∈t1,a.length<=6) :
  ∃ d:Bool,(d=true↔Dif t1 t2)/\((bif ((decide ((wr ((t1.length:Int) - 1)) < 0)) || ((t2.length:Int) != (t1.length:Int))) then some true else (lsl t1 0 (wr ((t1.length:Int) - 1))).bind λx4=>(lsl t2 0 (wr ((t1.length:Int) - 1))).bind λx5=>(m43 FF x4 x5).bind λx6=>some (!x6)).bind λr7=>(bif r7 then some true else (idx t1 (wr ((t1.length:Int) - 1))).bind λx8=>(idx t2 (wr ((t1.length:Int) - 1))).bind λx9=>(m41 FF x8 x9).bind λx10=>some x10).bind λr11=>(bif r11 then some (15:Int) else some (0:Int)))=some (bif d then 0 else 15):=by
 rcases DR t1 t2 with rfl | ⟨u,a,rfl,h2⟩
 ·refine ⟨false,?_,rfl⟩;simp [Dif]
 ·have hu:u.length<=1000000000:=by simp at h1;omega
  rw [wr_last hu];rcases h2 with h2 | ⟨v,b,rfl,h2⟩
  ·refine ⟨false,?_,?_⟩
   ·simp only [Bool.false_eq_true,false_iff];rintro ⟨w,x,y,e1,e2,_⟩;rw [e1,e2] at h2;simp at h2
   ·rw [show (((t2.length:Int)) != ((u ++ [a]).length:Int))=true by rw [bne_iff_ne];omega,Bool.or_true];rfl
  ·have hla:a.length<=10000:=by
    have:=hl a smp_;omega
   have hlu:∀ x∈u,x.length<=10000:=λx hx=>by
    have:=hl x (G9 _ hx);omega
   rw [show decide ((u.length:Int) < 0)=false by simp,JE,show (((v ++ [b]).length:Int) != ((u ++ [a]).length:Int))=false by simp [h2],cf_,Zd,ob_,← h2,Zd,ob_,EZ om_ hlu,ob_,ob_,Zi];refine ⟨decide (u=v/\a≠b),?_,?_⟩
   ·rw [decide_eq_true_eq,dif_app h2]
   ·by_cases huv:u=v
    ·subst huv;rw [Zi,ob_,ob_,Yt hla,ob_];by_cases hab:a=b
     ·simp [hab]
     ·simp [hab]
    ·simp [huv]
end
end Go.Pn
namespace Go.Pn
open Go Go.Sort Go.Proofs
section
variable {c:Aa} {held:List Bool} {sp:Space}
theorem ec_zero {a n:Nat} (h:a < n):ec a n 0=0:=by
 unfold ec;split
 ·rfl
 ·have h1:a=0:=by omega
  subst h1;simp
def Lkk (t x y:List (List Ab)):Prop:=∀ z (hz:z < t.length),(z < x.length/\x[z]?=some t[z])\/(x.length<=z/\0 < y.length/\y[(z - x.length) % y.length]?=some t[z])
theorem Co.lk {h:Sq c sp} {x y:List (List Ab)} (hc:Co h true x y) {p:List Int} {t:List (List Ab)} (hp:AA sp 0 p t):Lkk t x y/\x.length<=9191730/\y.length<=9191730:=by
 have h0:(0:Int)∈(zT h).1:=((Mv h).2.2.2 0).2 (.base rfl);have htr:=(hp.tr (s:=zT h) h h0 (Mv h).2.2.clo).1;cases hc with
 | @loop a n hn ha he hm=>
  have hx:(lbs h a).length=a:=Py h a;have hn':(lbs h n).length=n:=Py h n;have htr':Tr nT (bT h) (λ_=>false) (crs h (ec a n 0)) t (t.foldl (bT h) (zT h)):=by
   rw [ec_zero ha];exact htr
  have h1:=(A9 h ha he hm htr').1;refine ⟨λz hz=>?_,by omega,by rw [KW];omega⟩;have h2:=h1 z hz;rw [JB] at h2;rw [h2,hx,KW,hn'];by_cases h3:z < a
  ·refine .inl ⟨h3,?_⟩;rw [show ec a n z=z by unfold ec;rw [if_pos h3]];exact Xf h h3
  ·have h4:=LP (z - a) (show 0 < n - a by omega);refine .inr ⟨by omega,by omega,?_⟩;rw [show ec a n z=a + (z - a) % (n - a) by unfold ec;rw [if_neg h3],J4];exact Xf h om_
 | @stop n hn he hm=>
  have hx:(lbs h n).length=n:=Py h n;have htr':Tr nT (bT h) (λ_=>false) (crs h 0) t (t.foldl (bT h) (zT h)):=htr;obtain ⟨h1,h2,_⟩:=A8 h he hm (H7 n) htr';refine ⟨λz hz=>.inl ?_,by omega,by simp⟩;have h3:=h2 z hz;rw [JB] at h3;rw [h3,hx];exact ⟨by omega,Xf h om_⟩
theorem Kh {t x y:List (List Ab)} (hk:Lkk t x y) (ht:t.length<=10000) (hl:∀ a∈t,a.length<=6) (hx:x.length<=9191730) (hy:y.length<=9191730) {e e':Int}:∀ (n i:Nat),i<=t.length->t.length - i < n->AP FF (t,e) (x,y,e') n (i:Int)=some (.brk (t.length:Int))
 | 0,_,_,h=>by omega
 | n + 1,i,hi,hn=>by
  rw [AP];dsimp only;by_cases hlt:i < t.length
  ·have hll:=hl t[i] (GR _);have h18:m18 FF t[i] t[i]=some true:=by rw [E3 om_,dt_ rfl]
   rw [Aj,dt_ hlt,ct_,Ai,gE_ hlt,ob_];rcases hk i hlt with ⟨h1,h2⟩ | ⟨h1,h2,h3⟩
   ·rw [show decide ((i:Int)>=(x.length:Int))=false by simp;omega,cf_,Ai,h2,ob_,h18,ob_,nt_,cf_,Am om_];exact Kh hk ht hl hx hy n (i + 1) om_ om_
   ·have hr:rem (wr ((i:Int) - (x.length:Int))) (y.length:Int)=some (((i - x.length) % y.length:Nat):Int):=by
     unfold rem;rw [if_neg om_,Aq om_ om_,show (i:Int) - (x.length:Int)=((i - x.length:Nat):Int) by omega];rfl
    rw [show decide ((i:Int)>=(x.length:Int))=true by simp;omega,ct_,show ((y.length:Int) == 0)=false by rw [beq_eq_false_iff_ne];omega,cf_,hr,ob_,Ai,h3,ob_,h18,ob_,nt_,cf_,Am om_];exact Kh hk ht hl hx hy n (i + 1) om_ om_
  ·obtain rfl:i=t.length:=by omega
   rw [Aj,df_ om_,cf_]
theorem not_dif {t:List (List Ab)}:¬ Dif t t:=by
 rintro ⟨u,a,b,h1,h2,h3⟩;rw [h1] at h2;exact h3 (by simpa using (List.append_inj' h2 rfl).2)
theorem E5 (hq:Sq c sp) (hx:m30 FF c held=some (sp,0)) {path:List Int} {t:List (List Ab)} (h:m40 FF (wd_ sp) path=some (t,0)) (ht:t.length<=10000) (hl:∀ a∈t,a.length<=6):m11 FF c held (⟨path,path⟩:Pair)=some 15:=by
 unfold m11;rw [BV hq hx,ob_];dsimp only;rw [zf_,cf_,h,ob_];dsimp only;rw [zf_,cf_,ob_];dsimp only;rw [zf_,cf_];obtain ⟨d,h1,h2⟩:=E4 (t1:=t) (t2:=t) om_ hl;cases d with
 | true=>exact absurd (h1.1 rfl) not_dif
 | false=>exact h2
theorem m5_law (c:Aa) (held:List Bool) (path:List Int):m5 FF c held path=some true:=by
 obtain ⟨b,hb,hb'⟩:=m9_spec c held;unfold m5;rw [hb,ob_];cases b with
 | false=>rw [show (!false || decide ((path.length:Int) > 40))=true from rfl,ct_,awk,ob_]
 | true=>
  rw [nt_,JE];by_cases hl:(path.length:Int) > 40
  ·rw [dt_ hl,ct_,awk,ob_]
  ·rw [df_ hl,cf_];rcases FE (hb' rfl) with ⟨e,he,h1,h2⟩ | ⟨sp,hq,⟨s0,hS⟩,h1,h2⟩
   ·have h16:m16 FF c held=some (false,e):=by
     unfold m16;rw [BW he h1,ob_];dsimp only;rw [nbb he,ct_]
    have h17:m17 FF c held=some ([],[],e):=by
     unfold m17;rw [BW he h1,ob_];dsimp only;rw [nbb he,ct_]
    rw [h16,ob_,m13_err he h1,ob_,h17,ob_];dsimp only;rw [nbb he,LM,ct_,beq_self_eq_true,Bool.or_true,ct_,awk];rfl
   ·obtain ⟨d,x,y,h16,h17,h17'⟩:=m1617 hq (m9_le hb h2) h1;have h5:∃ r,m17 FF c held=some r:=by
     cases d with
     | true=>exact ⟨_,(h17 rfl).1⟩
     | false=>exact ⟨_,h17' rfl⟩
    rw [h16,ob_];rcases paths hq hS (path:=path) om_ with ⟨k1,_⟩ | ⟨t,j,k1,_,_,k4⟩
    ·have h13:m13 FF c held path=some ([],6):=by
      unfold m13;rw [BV hq h1,ob_];dsimp only;rw [zf_,cf_,k1];rfl
     obtain ⟨r,h5⟩:=h5;rw [h13,ob_,h5,ob_];dsimp only;rw [show (((0:Int) != 0) || ((6:Int) != 0))=true from rfl,ct_,show (((0:Int) == 0) || ((6:Int) == 0))=true from rfl,ct_,awk];rfl
    ·have h13:m13 FF c held path=some (t,0):=by
      unfold m13;rw [BV hq h1,ob_];dsimp only;rw [zf_,cf_,k1];rfl
     have htl:t.length<=10000:=by have:=k4.len;omega
     rw [h13,ob_];cases d with
     | false=>
      rw [h17' rfl,ob_];dsimp only;rw [show (((0:Int) != 0) || ((0:Int) != 0))=false from rfl,cf_,nf_,ct_,show ((16:Int) == 16)=true from rfl,ct_,awk];rfl
     | true=>
      obtain ⟨h6,h7⟩:=h17 rfl;obtain ⟨h8,h9,h10⟩:=h7.lk k4;have h11:=Kh (e:=0) (e':=0) h8 htl (k4.labs hq) h9 h10 FF 0 om_ uF;rw [n0] at h11;rw [h6,ob_];dsimp only;rw [show (((0:Int) != 0) || ((0:Int) != 0))=false from rfl,cf_,nt_,cf_,zf_,cf_,E5 hq h1 k1 htl (k4.labs hq),ob_,ob_,show ((15:Int) != 15)=false from rfl,cf_,h11,ob_];dsimp only;rw [awk];rfl
end
end Go.Pn

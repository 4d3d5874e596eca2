import Derived.Test.YtkknipanlegofaaGreatDoorIp6
set_option synthInstance.checkSynthOrder false
set_option synthInstance.maxSize 10000
set_option synthInstance.maxHeartbeats 400000
set_option maxRecDepth 100000
set_option maxHeartbeats 4000000
set_option linter.unusedVariables false
set_option linter.unusedSimpArgs false
namespace Go.Pn
open Go
def vl (s:State) (j:Nat):Bool:=(vals s).getD j false
def f0 (P:List State) (j:Nat):Bool:=P.any fun s=>!vl s j
def f1 (P:List State) (j:Nat):Bool:=P.any fun s=>vl s j
def snn (f:List State->Nat->Bool) (N:Nat) (P:List State):List Bool:=if P=[] then [] else (List.range N).map (f P)
theorem sn_len {f:List State->Nat->Bool} {N:Nat} {P:List State}:(snn f N P).length=if P=[] then 0 else N:=by
 unfold snn; split <;> simp
theorem vals_at {c:Control} {s:State} (h:Fit c s) {k:Nat} (hk:k < cL c):idx (vals s) (k:Int)=some (vl s k):=by
 have:=h.vl;rw [idx_nat,gE_ om_];unfold vl;rw [List.getD_eq_getElem?_getD,gE_ om_];rfl
theorem m20_l2_spec {c:Control} {s:State} {P:List State} (hb:Bd_ c) (hf:Fit c s):∃ z,m20_l2 (vals s) FF ((0:Int),snn f0 (cL c) P,snn f1 (cL c) P)=some (z,snn f0 (cL c) (P ++ [s]),snn f1 (cL c) (P ++ [s])):=by
 have h1:=hb.a';have h2:=hb.i;have h3:=hb.s;have hN:cL c<=1000:=by unfold cL cS;omega
 have hv:=hf.vl;have e0:∀ j,f0 (P ++ [s]) j=(f0 P j || !vl s j):=fun j=>by unfold f0;simp
 have e1:∀ j,f1 (P ++ [s]) j=(f1 P j || vl s j):=fun j=>by unfold f1;simp
 obtain ⟨acc,hI,he⟩:=forI (L:=m20_l2 (vals s)) (mk:=fun i (v:List Bool×List Bool)=>((i:Int),v)) (N:=cL c) (I:=fun i v=>v=(upd (f0 (P ++ [s])) (snn f0 (cL c) P) i,upd (f1 (P ++ [s])) (snn f1 (cL c) P) i)) (fun n i v hi hI=>by
  subst hI;refine ⟨_,rfl,?_⟩;rw [m20_l2];dsimp only;rw [hv,lt_dec,dt_ hi,ct_,vals_at hf hi,ob_];by_cases hP:P=[]
  ·subst hP;have a0:∀ f:Nat->Bool,upd f ([]:List Bool) i=(List.range i).map f:=fun f=>by unfold upd;simp
   have a1:∀ f:Nat->Bool,upd f ([]:List Bool) (i + 1)=(List.range i).map f ++ [f i]:=fun f=>by unfold upd;rw [List.range_succ];simp
   rw [show snn f0 (cL c) []=[] from rfl,show snn f1 (cL c) []=[] from rfl,a0,a0,a1,a1];rw [List.length_map,List.length_range,show ((i:Int) == (i:Int))=true by simp,ct_,app_ok (by simp;omega),ob_,app_ok (by simp;omega),ob_,ob_];dsimp only;have g:∀ (f:Nat->Bool),idx ((List.range i).map f ++ [false]) (i:Int)=some false:=fun f=>by rw [idx_nat,List.getElem?_append_right sm_];simp
   have g2:∀ (f:Nat->Bool) (b:Bool),((List.range i).map f ++ [false]).set i b=(List.range i).map f ++ [b]:=fun f b=>by rw [List.set_append_right _ _ sm_];simp
   rw [g,g];simp only [ob_];rw [wr_nat om_,Int.toNat_natCast,g2,g2,e0,e1];simp [f0,f1]
  ·have s0:(snn f0 (cL c) P).length=cL c:=by rw [sn_len,if_neg hP]
   have s1:(snn f1 (cL c) P).length=cL c:=by rw [sn_len,if_neg hP]
   have l0:(upd (f0 (P ++ [s])) (snn f0 (cL c) P) i).length=cL c:=by rw [upd_len om_,s0]
   rw [l0,show ((i:Int) == ((cL c:Nat):Int))=false by simp;omega,cf_,ob_];dsimp only;have g0:idx (upd (f0 (P ++ [s])) (snn f0 (cL c) P) i) (i:Int)=some (f0 P i):=by
    rw [idx_nat,upd_get (Nat.le_refl i)];unfold snn;rw [if_neg hP,List.getElem?_map,List.getElem?_range hi];rfl
   have g1:idx (upd (f1 (P ++ [s])) (snn f1 (cL c) P) i) (i:Int)=some (f1 P i):=by
    rw [idx_nat,upd_get (Nat.le_refl i)];unfold snn;rw [if_neg hP,List.getElem?_map,List.getElem?_range hi];rfl
   rw [g0,g1];simp only [ob_];rw [wr_nat om_,Int.toNat_natCast,upd_set om_ (e0 i).symm,upd_set om_ (e1 i).symm]) (fun n v hI=>by
  rw [m20_l2];dsimp only;rw [hv,lt_dec,df_ om_,cf_]) FF 0 _ om_ (by unfold FF;omega) rfl
 rw [upd_zero,upd_zero,n0] at he;refine ⟨((cL c:Nat):Int),?_⟩;rw [he,hI];have fin:∀ f:List State->Nat->Bool,upd (f (P ++ [s])) (snn f (cL c) P) (cL c)=snn f (cL c) (P ++ [s]):=fun f=>by
  unfold upd;rw [List.drop_eq_nil_of_le (by rw [sn_len]; split <;> omega),List.append_nil]
  unfold snn;rw [if_neg sm_]
 rw [fin,fin]
theorem m20_l1_spec {c:Control} {s0:State} {sp:Space} (hc:Rc c) (hS:Sp_ c s0 sp) (e:Int):∃ z,m20_l1 FF (some ⟨c,sp⟩,e) ⟨c,sp⟩ FF ((0:Int),[],[])=some (z,snn f0 (cL c) sp.States,snn f1 (cL c) sp.States):=by
 have hle:=hS.le;obtain ⟨acc,hI,he⟩:=forI (L:=m20_l1 FF (some ⟨c,sp⟩,e) ⟨c,sp⟩) (mk:=fun i (v:List Bool×List Bool)=>((i:Int),v)) (N:=sp.States.length) (I:=fun i v=>v=(snn f0 (cL c) (sp.States.take i),snn f1 (cL c) (sp.States.take i))) (fun n i v hi hI=>by
  subst hI;refine ⟨_,rfl,?_⟩;obtain ⟨s,mv,g1,g2,g3,g4,g5⟩:=hS.get hi;obtain ⟨z,hz⟩:=m20_l2_spec (P:=sp.States.take i) hc.rt.bd g4;rw [m20_l1];dsimp only;rw [lt_dec,dt_ hi,ct_,idx_nat,g1,ob_,m67_spec hc g4,ob_,hz,ob_,wr_nat om_];rw [List.take_add_one,g1];rfl) (fun n v hI=>by
  rw [m20_l1];dsimp only;rw [lt_dec,df_ om_,cf_]) FF 0 _ om_ (by unfold FF;omega) rfl
 refine ⟨((sp.States.length:Nat):Int),?_⟩;show m20_l1 FF (some ⟨c,sp⟩,e) ⟨c,sp⟩ FF (((0:Nat):Int),snn f0 (cL c) (sp.States.take 0),snn f1 (cL c) (sp.States.take 0))=_;rw [he,hI,List.take_length]
def lnF (f:Nat->Bool) (n:Nat):List Int:=((List.range n).filter fun j=>!f j).map fun (j:Nat)=>(j:Int)
theorem lnF_succ {f:Nat->Bool} {n:Nat}:lnF f (n + 1)=lnF f n ++ (if f n=true then [] else [(n:Int)]):=by
 unfold lnF;rw [List.range_succ,List.filter_append,List.map_append];congr 1;cases h:f n <;> simp [h]
theorem lnF_len {f:Nat->Bool} {n:Nat}:(lnF f n).length<=n:=by
 unfold lnF;rw [List.length_map];exact Nat.le_trans (List.length_filter_le ..) sm_
theorem m20_l3_spec {c:Control} {A B:Nat->Bool} (hb:Bd_ c) (z:Int):∃ z',m20_l3 (z,(List.range (cL c)).map A,(List.range (cL c)).map B) FF ((0:Int),[],[])=some (z',lnF A (cL c),lnF B (cL c)):=by
 have h1:=hb.a';have h2:=hb.i;have h3:=hb.s;have hN:cL c<=1000:=by unfold cL cS;omega
 obtain ⟨acc,hI,he⟩:=forI (L:=m20_l3 (z,(List.range (cL c)).map A,(List.range (cL c)).map B)) (mk:=fun i (v:List Int×List Int)=>((i:Int),v)) (N:=cL c) (I:=fun i v=>v=(lnF A i,lnF B i)) (fun n i v hi hI=>by
  subst hI;refine ⟨_,rfl,?_⟩;have g:∀ f:Nat->Bool,idx ((List.range (cL c)).map f) (i:Int)=some (f i):=fun f=>by rw [idx_nat,List.getElem?_map,List.getElem?_range hi];rfl
  have la:=lnF_len (f:=A) (n:=i);have lb:=lnF_len (f:=B) (n:=i);rw [m20_l3];dsimp only;rw [List.length_map,List.length_range,lt_dec,dt_ hi,ct_,g,ob_,app_ok (by simp;omega),app_ok (by simp;omega),ob_,ob_,wr_nat om_,lnF_succ,lnF_succ];cases hA:A i with
  | true=>
   rw [show (!true)=false from rfl,cf_,ob_,g,ob_,if_pos rfl,List.append_nil];cases hB:B i with
   | true=>rw [show (!true)=false from rfl,cf_,ob_,if_pos rfl,List.append_nil]
   | false=>rw [show (!false)=true from rfl,ct_,ob_,if_neg sm_]
  | false=>
   rw [show (!false)=true from rfl,ct_,ob_,g,ob_,if_neg sm_];cases hB:B i with
   | true=>rw [show (!true)=false from rfl,cf_,ob_,if_pos rfl,List.append_nil]
   | false=>rw [show (!false)=true from rfl,ct_,ob_,if_neg sm_]) (fun n v hI=>by
  rw [m20_l3];dsimp only;rw [List.length_map,List.length_range,lt_dec,df_ om_,cf_]) FF 0 ([],[]) om_ (by unfold FF;omega) rfl
 rw [n0] at he;exact ⟨_,by rw [he,hI]⟩
theorem m21_l2_spec {c:Control} {s0:State} {sp:Space} (hc:Rc c) (hS:Sp_ c s0 sp) (e:Int) {j:Nat} (hj:j < cL c) (L:List Int×List Int):∃ z,m21_l2 FF c (sp,e) ((j:Int),L) FF ((0:Int),(0:Int))=some ((((sp.States.countP fun s=>vl s j):Nat):Int),z):=by
 have hle:=hS.le;have hb:=hc.rt.bd;have h1:=hb.a';have h2:=hb.i;have h3:=hb.s;obtain ⟨acc,hI,he⟩:=forI (L:=m21_l2 FF c (sp,e) ((j:Int),L)) (mk:=fun i (v:Int)=>(v,(i:Int))) (N:=sp.States.length) (I:=fun i v=>v=(((sp.States.take i).countP fun s=>vl s j:Nat):Int)) (fun n i v hi hI=>by
  subst hI;refine ⟨_,rfl,?_⟩;obtain ⟨s,mv,g1,g2,g3,g4,g5⟩:=hS.get hi;have hq:=List.countP_le_length (p:=fun s=>vl s j) (l:=sp.States.take i);rw [List.length_take] at hq;have he:=g4.e;have hi2:=g4.i;have hx:=g4.x;rw [m21_l2];dsimp only;rw [lt_dec,dt_ hi,ct_,idx_nat,g1,ob_,m36_spec hb g4.e om_ om_,ob_,vals_at g4 hj,ob_,wr_nat om_,wr_nat om_,List.take_add_one,g1];simp only [Option.toList,List.countP_append,List.countP_cons,List.countP_nil];cases vl s j <;> simp) (fun n v hI=>by
  rw [m21_l2];dsimp only;rw [lt_dec,df_ om_,cf_]) FF 0 0 om_ (by unfold FF;omega) sm_
 rw [n0] at he;exact ⟨_,by rw [he,hI,List.take_length]⟩
theorem m21_l1_spec {c:Control} {s0:State} {sp:Space} (hc:Rc c) (hS:Sp_ c s0 sp) (e:Int):∃ z,m21_l1 FF c (sp,e) FF ((0:Int),[],[])=some (z,lnF (f0 sp.States) (cL c),lnF (f1 sp.States) (cL c)):=by
 have hle:=hS.le;have hb:=hc.rt.bd;have h1:=hb.a';have h2:=hb.i;have h3:=hb.s;have hN:cL c<=1000:=by unfold cL cS;omega
 obtain ⟨acc,hI,he⟩:=forI (L:=m21_l1 FF c (sp,e)) (mk:=fun i (v:List Int×List Int)=>((i:Int),v)) (N:=cL c) (I:=fun i v=>v=(lnF (f0 sp.States) i,lnF (f1 sp.States) i)) (fun n i v hi hI=>by
  subst hI;refine ⟨_,rfl,?_⟩;obtain ⟨z,hz⟩:=m21_l2_spec hc hS e hi (lnF (f0 sp.States) i,lnF (f1 sp.States) i);have la:=lnF_len (f:=f0 sp.States) (n:=i);have lb:=lnF_len (f:=f1 sp.States) (n:=i);have t0:(((sp.States.countP fun s=>vl s i:Nat):Int) == (sp.States.length:Int))=!f0 sp.States i:=by
   rw [Bool.eq_iff_iff];simp only [beq_iff_eq,Int.ofNat_inj,List.countP_eq_length,f0,Bool.not_eq_true',List.any_eq_false,Bool.not_eq_true,Bool.not_eq_false',Bool.not_eq_false]
  have t1:(((sp.States.countP fun s=>vl s i:Nat):Int) == (0:Int))=!f1 sp.States i:=by
   rw [Bool.eq_iff_iff,← n0];simp only [beq_iff_eq,Int.ofNat_inj,List.countP_eq_zero,f1,Bool.not_eq_true',List.any_eq_false,Bool.not_eq_true]
  rw [m21_l1];dsimp only;rw [m31_spec hb,ob_,lt_dec,dt_ hi,ct_,hz,ob_];dsimp only;rw [t0,t1,app_ok (by simp;omega),app_ok (by simp;omega),ob_,ob_,wr_nat om_,lnF_succ,lnF_succ];cases hA:f0 sp.States i with
  | true=>
   rw [show (!true)=false from rfl,cf_,ob_,if_pos rfl,List.append_nil];cases hB:f1 sp.States i with
   | true=>rw [show (!true)=false from rfl,cf_,ob_,if_pos rfl,List.append_nil]
   | false=>rw [show (!false)=true from rfl,ct_,ob_,if_neg sm_]
  | false=>
   rw [show (!false)=true from rfl,ct_,ob_,if_neg sm_];cases hB:f1 sp.States i with
   | true=>rw [show (!true)=false from rfl,cf_,ob_,if_pos rfl,List.append_nil]
   | false=>rw [show (!false)=true from rfl,ct_,ob_,if_neg sm_]) (fun n v hI=>by
  rw [m21_l1];dsimp only;rw [m31_spec hb,ob_,lt_dec,df_ om_,cf_]) FF 0 ([],[]) om_ (by unfold FF;omega) rfl
 rw [n0] at he;exact ⟨_,by rw [he,hI]⟩
theorem always_ok {c:Control} {held:List Bool} {s0:State} {sp:Space} (hc:Rc c) (hS:Sp_ c s0 sp) (h25:m29 FF c held=some (sp,0)) (h26:m51 FF c held=some (sp,0)):m20 FF c held=some (lnF (f0 sp.States) (cL c),lnF (f1 sp.States) (cL c),0)/\m21 FF c held=some (lnF (f0 sp.States) (cL c),lnF (f1 sp.States) (cL c),0):=by
 obtain ⟨z1,e1⟩:=m20_l1_spec hc hS 0;obtain ⟨z2,e2⟩:=m20_l3_spec (A:=f0 sp.States) (B:=f1 sp.States) hc.rt.bd z1;obtain ⟨z3,e3⟩:=m21_l1_spec hc hS 0;have hp:=hS.pos;have hne:sp.States≠[]:=fun h=>by rw [h] at hp;cases hp
 have g:∀ f,snn f (cL c) sp.States=(List.range (cL c)).map (f sp.States):=fun f=>by unfold snn;rw [if_neg hne]
 constructor
 ·unfold m20;rw [m48_spec h25,ob_];dsimp only;rw [zf,cf_,if_pos rfl,ob_,e1,ob_,g,g,e2];rfl
 ·unfold m21;rw [h26,ob_];dsimp only;rw [zf,cf_,e3];rfl
end Go.Pn
namespace Go.Pn
open Go
theorem srchZ {α β:Type} {L:Nat->Int->Option (Lo Int β)} {xs:List α} {q:α->Bool} {r:Nat->β}
  (h:∀ (n i:Nat) x,xs[i]?=some x->L (n + 1) (i:Int)=bif q x then some (.ret (r i)) else L n ((i + 1:Nat):Int)) (h':∀ n:Nat,L (n + 1) (xs.length:Int)=some (.brk (xs.length:Int))) :
  ∀ (n i:Nat),i<=xs.length->xs.length - i < n->L n (i:Int)=match (xs.drop i).findIdx? q with
   | some j=>some (.ret (r (i + j)))
   | none=>some (.brk (xs.length:Int))
 | 0,i,_,h1=>by omega
 | n + 1,i,h1,h2=>by
  by_cases hi:i < xs.length
  ·rw [h n i _ (gE_ hi),List.drop_eq_getElem_cons hi,findIdx_cons];cases hq:q xs[i] with
   | true=>rfl
   | false=>
    rw [cf_,if_neg sm_,srchZ h h' n (i + 1) om_ om_];cases (xs.drop (i + 1)).findIdx? q with
    | none=>rfl
    | some j=>
     show some (Lo.ret (r (i + 1 + j)))=some (Lo.ret (r (i + (j + 1))));rw [show i + 1 + j=i + (j + 1) by omega]
  ·obtain rfl:i=xs.length:=by omega
   rw [List.drop_eq_nil_of_le (Nat.le_refl _)];exact h' n
def skF (sp:Space) (q:State->Bool):Bool×List Int×Int:=match sp.States.findIdx? q with
 | some j=>(false,fp sp.Moves (j:Int),0)
 | none=>(true,[],0)
theorem seek_of {c:Control} {s0:State} {sp:Space} (hS:Sp_ c s0 sp) {q:State->Bool} {L:Nat->Int->Option (Lo Int (Bool×List Int×Int))}
  (h:∀ (n i:Nat) s,sp.States[i]?=some s->i < sp.States.length->Fit c s->L (n + 1) (i:Int)=bif q s then some (.ret (false,fp sp.Moves (i:Int),0)) else L n (wr ((i:Int) + 1))) (h':∀ n:Nat,L (n + 1) (sp.States.length:Int)=some (.brk (sp.States.length:Int))) :
  ((L FF (0:Int)).bind fun o3=>match o3 with | .brk o3s=>some (true,([]:List Int),(0:Int)) | .ret r=>some r)=some (skF sp q):=by
 have hle:=hS.le;have:=srchZ (L:=L) (xs:=sp.States) (q:=q) (r:=fun i=>(false,fp sp.Moves (i:Int),0)) (fun n i s hs=>by
  have hi:=(List.getElem?_eq_some_iff.1 hs).1;obtain ⟨s',mv,g1,g2,g3,g4,g5⟩:=hS.get hi;obtain rfl:=Option.some.inj (hs.symm.trans g1);rw [h n i s hs hi g4,wr_nat om_]) h' FF 0 om_ (by unfold FF;omega)
 rw [n0,List.drop_zero] at this;rw [this];unfold skF;cases sp.States.findIdx? q with
 | none=>rfl
 | some j=>simp
def mtL (each:List Int) (s:State):List Int:=each.filter fun x=>vl s x.toNat
theorem vals_int {c:Control} {s:State} (h:Fit c s) {x:Int} (hx:bad (cL c) x=false):idx (vals s) x=some (vl s x.toNat):=by
 unfold bad at hx;simp at hx;have:=vals_at h (k:=x.toNat) om_
 rwa [Int.toNat_of_nonneg hx.1] at this
theorem m62_spec {c:Control} {s:State} (hf:Fit c s) {each:List Int} (hl:each.length<=1000) (hb:∀ x∈each,bad (cL c) x=false):m62 FF (vals s) each=some (decide ((mtL each s).length < 2)):=by
 unfold m62;obtain ⟨acc,hI,he⟩:=forI (L:=m62_l1 (vals s) each) (mk:=fun i (v:Int)=>(v,(i:Int))) (N:=each.length) (I:=fun i v=>v=((mtL (each.take i) s).length:Int)) (fun n i v hi hI=>by
  subst hI;refine ⟨_,rfl,?_⟩;have hq:(mtL (each.take i) s).length<=i:=Nat.le_trans (List.length_filter_le ..) (by simp;omega);rw [m62_l1];dsimp only;rw [lt_dec,dt_ hi,ct_,idx_nat,gE_ hi,ob_,vals_int hf (hb _ (List.getElem_mem hi)),ob_,wr_nat om_,wr_nat om_];unfold mtL;rw [List.take_add_one,gE_ hi,List.filter_append];cases h:vl s each[i].toNat <;> simp [h]) (fun n v hI=>by
  rw [m62_l1];dsimp only;rw [lt_dec,df_ om_,cf_]) FF 0 0 om_ (by unfold FF;omega) (by simp [mtL])
 rw [n0] at he;rw [he,ob_,hI,List.take_length];congr 1;rw [decide_eq_decide];omega
def bothP (lines:List Int) (s:State):Prop:=∃ x∈lines,∃ y∈lines,x≠y/\vl s x.toNat=true/\vl s y.toNat=true
theorem mtL_both {lines each:List Int} {s:State} (h:Cs each (·∈lines)):2<=(mtL each s).length↔bothP lines s:=by
 have hp:(mtL each s).Pairwise (· < ·):=h.1.filter _;have hm:∀ x,x∈mtL each s↔x∈lines/\vl s x.toNat=true:=fun x=>by unfold mtL;rw [List.mem_filter,h.2 x]
 constructor
 ·intro h2
  match hl:mtL each s,h2 with
  | a :: b :: l,_=>
   rw [hl] at hp hm;have ha:=(hm a).1 sm_;have hb:=(hm b).1 sm_;have:=(List.pairwise_cons.1 hp).1 b sm_;exact ⟨a,ha.1,b,hb.1,by omega,ha.2,hb.2⟩
 ·rintro ⟨x,hx,y,hy,hne,h1,h2⟩;have a:=(hm x).2 ⟨hx,h1⟩;have b:=(hm y).2 ⟨hy,h2⟩
  match hl:mtL each s with
  | []=>rw [hl] at a;cases a
  | [z]=>
   rw [hl] at a b;simp at a b;omega
  | _ :: _ :: _=>simp
theorem m64_spec {c:Control} {s:State} (hf:Fit c s) {lines each:List Int} (h:Cs each (·∈lines)) (hl:lines.length<=1000) (hb:∀ x∈lines,bad (cL c) x=false):m64 FF (vals s) lines=some (decide (2<=(mtL each s).length)):=by
 have inner:∀ (i:Nat) (hi:i < lines.length),(∃ k,m64_l2 (vals s) lines (i:Int) FF (0:Int)=some (.brk k)/\∀ k (hk:k < i),¬ (lines[i]≠lines[k]/\vl s lines[i].toNat=true/\vl s lines[k].toNat=true))\/(m64_l2 (vals s) lines (i:Int) FF (0:Int)=some (.ret true)/\bothP lines s):=fun i hi=>by
  have:=srchI (L:=m64_l2 (vals s) lines (i:Int)) (N:=i) (Q:=fun k=>match lines[k]? with | some y=>(lines[i] != y) && (vl s lines[i].toNat && vl s y.toNat) | none=>false) (r:=fun _=>true) (fun n k hk=>by
   have hk2:k < lines.length:=by omega
   rw [m64_l2];rw [lt_dec,dt_ hk,ct_,idx_nat,idx_nat,gE_ hi,gE_ hk2,ob_,ob_,ob_,ob_,vals_int hf (hb _ (List.getElem_mem hi)),vals_int hf (hb _ (List.getElem_mem hk2)),ob_,ob_,wr_nat om_];dsimp only;cases lines[i] != lines[k] <;> cases vl s lines[i].toNat <;> cases vl s lines[k].toNat <;> rfl) (fun n=>by
   rw [m64_l2,lt_dec,df_ om_,cf_]) FF 0 om_ (by unfold FF;omega)
  rw [n0] at this;rcases this with ⟨k,_,hk,hQ,h1⟩ | ⟨h1,h2⟩
  ·right;have hk2:k < lines.length:=by omega
   rw [gE_ hk2] at hQ;simp at hQ;exact ⟨h1,_,List.getElem_mem hi,_,List.getElem_mem hk2,hQ.1,hQ.2.1,hQ.2.2⟩
  ·left;refine ⟨_,h1,fun k hk hh=>?_⟩;have hk2:k < lines.length:=by omega
   have:=h2 k om_ hk;rw [gE_ hk2] at this;simp [hh.1,hh.2.1,hh.2.2] at this
 unfold m64;by_cases hB:bothP lines s
 ·rw [dt_ ((mtL_both h).2 hB)];obtain ⟨x,hx,y,hy,hne,v1,v2⟩:=hB;obtain ⟨a,ha,rfl⟩:=List.getElem_of_mem hx;obtain ⟨b,hbb,rfl⟩:=List.getElem_of_mem hy;have hab:a≠b:=fun e=>by subst e;exact hne rfl
  have ex:∃ i,∃ hi:i < lines.length,∃ k,∃ hk:k < i,lines[i]≠lines[k]/\vl s lines[i].toNat=true/\vl s lines[k].toNat=true:=by
   rcases Nat.lt_or_gt_of_ne hab with h1 | h1
   ·exact ⟨b,hbb,a,h1,fun e=>hne e.symm,v2,v1⟩
   ·exact ⟨a,ha,b,h1,hne,v1,v2⟩
  obtain ⟨i,hi,k,hk,hh⟩:=ex;have out:∀ (n j:Nat),j<=i->i - j < n->m64_l1 FF (vals s) lines n (j:Int)=some (.ret true):=fun n=>by
   induction n with
   | zero=>intro j _ h;omega
   | succ n ih=>
    intro j h1 h2;rw [m64_l1,lt_dec,dt_ om_,ct_];rcases inner j om_ with ⟨q,e1,e2⟩ | ⟨e1,_⟩
    ·rw [e1,ob_];dsimp only;by_cases hji:j=i
     ·subst hji;exact absurd hh (e2 k hk)
     ·rw [wr_nat om_];exact ih (j + 1) om_ om_
    ·rw [e1,ob_]
  have:=out FF 0 om_ (by unfold FF;omega);rw [n0] at this;rw [this];rfl
 ·rw [df_ (fun e=>hB ((mtL_both h).1 e))];have out:∀ (n j:Nat),j<=lines.length->lines.length - j < n->∃ z,m64_l1 FF (vals s) lines n (j:Int)=some (.brk z):=fun n=>by
   induction n with
   | zero=>intro j _ h;omega
   | succ n ih=>
    intro j h1 h2;rw [m64_l1];by_cases hj:j < lines.length
    ·rw [lt_dec,dt_ hj,ct_];rcases inner j hj with ⟨q,e1,e2⟩ | ⟨_,e⟩
     ·rw [e1,ob_];dsimp only;rw [wr_nat om_];exact ih (j + 1) om_ om_
     ·exact absurd e hB
    ·rw [lt_dec,df_ hj,cf_];exact ⟨_,rfl⟩
  obtain ⟨z,hz⟩:=out FF 0 om_ (by unfold FF;omega);rw [n0] at hz;rw [hz];rfl
theorem m45_fp {c:Control} {s0:State} {sp:Space} (hb:Bd_ c) (hS:Sp_ c s0 sp) {i:Nat} (hi:i < sp.States.length):m45 FF sp (i:Int)=some (0,fp sp.Moves (i:Int))/\m54 FF sp (i:Int)=some (fp sp.Moves (i:Int)):=by
 have p1:=(hS.pthf hb hi).1;refine ⟨by rw [m45_spec (hS.shp hb) hS.le (hS.rw40 hb),p1],?_⟩;unfold m54;rw [m110_spec (hS.shp hb) hS.le (hS.rw40 hb),p1];rfl
theorem m56_3_spec {xs:List Int} {k:Int} (hl:xs.length<=1000):m56_3 FF xs k=some (xs.any fun x=>decide (x < 0) || decide (x>=k)):=by
 unfold m56_3 m103_4;have h5:=srch (L:=m103_4_l1 FF xs k) (xs:=xs) (p:=fun _ y=>m57 FF y k) (q:=fun x=>decide (x < 0) || decide (x>=k)) (r:=fun z=>z) (fun _ _=>rfl) om_ (fun i y hy=>rfl) FF 0 om_ (by unfold FF;omega);rw [n0,List.drop_zero] at h5;rw [h5];cases h6:xs.findIdx? (fun x=>decide (x < 0) || decide (x>=k)) with
 | none=>
  rw [List.findIdx?_eq_none_iff] at h6;have:(xs.any fun x=>decide (x < 0) || decide (x>=k))=false:=List.any_eq_false.2 fun y hy=>by simpa using h6 y hy
  rw [this];rfl
 | some j=>
  obtain ⟨hj,hj2,_⟩:=List.findIdx?_eq_some_iff_getElem.1 h6;have:(xs.any fun x=>decide (x < 0) || decide (x>=k))=true:=List.any_eq_true.2 ⟨_,List.getElem_mem hj,by simpa using hj2⟩;rw [this];simp
theorem m17_l1_spec {c:Control} (hb:Bd_ c) {xs:List Int} (hl:xs.length<=1000):m17_l1 FF c xs FF (0:Int)=if xs.any (bad (cL c))=true then some (.ret (false,[],6)) else some (.brk (xs.length:Int)):=by
 have h5:=srch (L:=m17_l1 FF c xs) (xs:=xs) (p:=fun z x5=>(bif (decide (x5 < (0:Int))) then some true else (idx xs z).bind fun x6=>(m31 FF c).bind fun x7=>some (decide (x6>=x7)))) (q:=bad (cL c)) (r:=fun _=>(false,([]:List Int),(6:Int))) (fun _ _=>rfl) om_ (fun i y hy=>by
  rw [idx_nat,hy,ob_,m31_spec hb,ob_];unfold bad;cases decide (y < 0) <;> rfl) FF 0 om_ (by unfold FF; omega)
 rw [n0,List.drop_zero] at h5;rw [h5];cases h6:xs.findIdx? (bad (cL c)) with
 | none=>
  rw [List.findIdx?_eq_none_iff] at h6;rw [if_neg (by simpa using h6)]
 | some j=>
  obtain ⟨hj,hj2,_⟩:=List.findIdx?_eq_some_iff_getElem.1 h6;rw [if_pos (List.any_eq_true.2 ⟨_,List.getElem_mem hj,hj2⟩)]
def exq (each:List Int) (s:State):Bool:=decide (2<=(mtL each s).length)
theorem excl_ok {c:Control} {held:List Bool} {s0:State} {sp:Space} {lines:List Int} (hc:Rc c) (hS:Sp_ c s0 sp) (h40:m40 FF c held=some (begF c held)) (h63:m63 FF c held=some (begF c held)) (h0:(begF c held).2=0) (h25:m29 FF c held=some (sp,0)) (h26:m51 FF c held=some (sp,0)) (hl:lines.length<=256) (hb:∀ x∈lines,bad (cL c) x=false) :
  ∃ each,Cs each (·∈lines)/\m16 FF c held lines=some (skF sp (exq each))/\m17 FF c held lines=some (skF sp (exq each)):=by
 have hbd:=hc.rt.bd;have hle:=hS.le;have hany:lines.any (bad (cL c))=false:=List.any_eq_false.2 fun x hx=>by simp [hb x hx]
 obtain ⟨r1,r2,e1,e2,e3,l3,hC⟩:=srtl (l:=lines) om_;refine ⟨r2,hC,?_,?_⟩
 ·unfold m16;have hs:m61 FF (some ⟨c,sp⟩) r2=some (skF sp (exq r2)):=by
   unfold m61;rw [ob_];refine seek_of hS (fun n i s hs hi hf=>?_) (fun n=>by
    rw [m61_l1];dsimp only;rw [lt_dec,df_ om_,cf_])
   rw [m61_l1];dsimp only;rw [lt_dec,dt_ hi,ct_,idx_nat,hs,ob_,m67_spec hc hf,ob_,m62_spec hf om_ (fun x hx=>hb x ((hC.2 x).1 hx)),ob_,ob_];dsimp only;rw [(m45_fp hbd hS hi).1,ob_];have e:(!decide ((mtL r2 s).length < 2))=exq r2 s:=by
    unfold exq;by_cases h:(mtL r2 s).length < 2
    ·rw [dt_ h,df_ om_];rfl
    ·rw [df_ h,dt_ om_];rfl
   rw [e]
  have hany':(lines.any fun x=>decide (x < 0) || decide (x>=((cL c:Nat):Int)))=false:=hany;rw [h40,ob_,h0,zf,cf_,df_ om_,cf_,wLn hbd,m56_3_spec om_,hany',ob_,cf_,m48_spec h25,ob_];dsimp only;rw [zf,cf_,e1,ob_,e2,ob_,e3,ob_,if_pos rfl,hs];rfl
 ·unfold m17;rw [h63,ob_,h0,zf,cf_,df_ om_,cf_,m17_l1_spec hbd om_,hany,if_neg sm_,ob_];dsimp only;rw [h26,ob_];dsimp only;rw [zf,cf_];refine seek_of hS (fun n i s hs hi hf=>?_) (fun n=>by
   rw [m17_l2];dsimp only;rw [lt_dec,df_ om_,cf_])
  have he:=hf.e;have hi2:=hf.i;have hx:=hf.x;have k1:=hbd.a';have k2:=hbd.i;have k3:=hbd.s;rw [m17_l2];dsimp only;rw [lt_dec,dt_ hi,ct_,idx_nat,hs,ob_,m36_spec hbd hf.e om_ om_,ob_,m64_spec hf hC om_ hb,ob_,(m45_fp hbd hS hi).2,ob_];rfl
def ivq (x:Expr) (s:State):Bool:=!ev 16 (vals s) x
theorem m23_ok {c:Control} {held:List Bool} {s0:State} {sp:Space} {x:Expr} (hx:Lt_ x) (hc:Rc c) (hS:Sp_ c s0 sp) (h40:m40 FF c held=some (begF c held)) (h0:(begF c held).2=0) (h25:m29 FF c held=some (sp,0)) (hch:chE 16 (cL c) x=0) :
  m23 FF c held x=some (skF sp (ivq x)):=by
 have hbd:=hc.rt.bd;have hle:=hS.le;have k1:=hbd.a';have k2:=hbd.i;have k3:=hbd.s;have hN:((cL c:Nat):Int)<=256:=by unfold cL cS;omega
 have ho:=okE.of hx.dp hch;unfold m23;have hs:m61_1 FF (some ⟨c,sp⟩) x=some (skF sp (ivq x)):=by
  unfold m61_1;rw [ob_];refine seek_of hS (fun n i s hs hi hf=>?_) (fun n=>by
   rw [m61_1_l1];dsimp only;rw [lt_dec,df_ om_,cf_])
  rw [m61_1_l1];dsimp only;rw [lt_dec,dt_ hi,ct_,idx_nat,hs,ob_,m67_spec hc hf,ob_];unfold m71;rw [m72_spec hx (n:=cL c) (by exact_mod_cast ho) hf.vl om_,ob_,ob_,ob_];dsimp only;rw [(m45_fp hbd hS hi).1,ob_];rfl
 rw [h40,ob_,h0,zf,cf_,wLn hbd,m70_spec hx om_ hN (by unfold FF;omega),hch,ob_,zf,cf_,m48_spec h25,ob_];dsimp only;rw [zf,cf_,if_pos rfl,hs];rfl
end Go.Pn
namespace Go.Pn
open Go
theorem follow_fp {c:Control} {s0:State} {sp:Space} (hb:Bd_ c) (hS:Sp_ c s0 sp) {i:Nat} (hi:i < sp.States.length):m33 FF sp (fp sp.Moves (i:Int))=some ((i:Int),0):=by
 obtain ⟨v1,v2,v3,v4⟩:=hS.lv hb;have hsh:=hS.shp hb;have hle:=hS.le;have hpl:=(hS.pthf hb hi).2;obtain ⟨y1,y2⟩:=fp_y v1 v2 (i:=i) om_;have hd:=(v1.rch i).2 (v4 i om_);have hbn:=v1.bnd i;have hrw:=hS.rw40 hb;unfold m33;rw [m83_spec (by unfold FF;omega) om_ (fun l hl=>by have:=hrw l hl;unfold FF;omega),hsh,ob_,zf,cf_];obtain ⟨e,he⟩:=follow_gp v2 y1 (fp sp.Moves (i:Int)) om_ (at_ (lev (opp sp.Moves) (i:Int)) 0).toNat FF 0 0 om_ (by rfl) (by unfold FF;omega);rw [n0] at he;rw [he];rfl
def xv (n:Int):Expr:=⟨1,n,[]⟩
def xn (n:Int):Expr:=⟨2,0,[xv n]⟩
theorem szd_xv {n:Int}:∀ d,szd d (xv n)<=1
 | 0=>by simp [szd]
 | d + 1=>by simp [szd,xv]
theorem lt_xv {n:Int}:Lt_ (xv n):=⟨fun d=>Nat.le_trans (szd_xv d) om_,by simp [dp,xv]⟩
theorem lt_xn {n:Int}:Lt_ (xn n):=⟨fun d=>by
 cases d with
 | zero=>simp [szd]
 | succ d=>have:=szd_xv (n:=n) d;simp [szd,xn];omega,by simp [dp,xn,xv]⟩
theorem nod_xv {N:Nat} {n:Nat} (h:n < N):nod N (xv n)=0:=by
 unfold nod xv;dsimp only;have h1:decide ((n:Int) < 0)=false:=df_ om_;have h2:decide ((n:Int)>=(N:Int))=false:=df_ om_;simp [h1,h2];rw [df_ om_];rfl
theorem ch_xv {N:Nat} {n:Nat} (h:n < N):∀ d,chE d N (xv n)=0
 | 0=>rfl
 | d + 1=>by unfold chE;rw [if_pos (nod_xv h)];rfl
theorem ch_xn {N:Nat} {n:Nat} (h:n < N):chE 16 N (xn n)=0:=by
 have hn:nod N (xn n)=0:=by unfold nod xn;simp
 show (if nod N (xn n)=0 then fnz ((xn n).Args.map (chE 15 N)) else nod N (xn n))=0
 rw [if_pos hn];show fnz [chE 15 N (xv n)]=0;rw [ch_xv h];rfl
theorem ev_xv {c:Control} {s:State} (hf:Fit c s) {n:Nat} (h:n < cL c):∀ d,ev (d + 1) (vals s) (xv n)=vl s n:=fun d=>by
 unfold ev xv;dsimp only;rw [if_neg om_,if_pos rfl,vals_at hf h];rfl
theorem ev_xn {c:Control} {s:State} (hf:Fit c s) {n:Nat} (h:n < cL c):ev 16 (vals s) (xn n)=!vl s n:=by
 have:=ev_xv hf h 14;show (if (2:Int)=0 then _ else if (2:Int)=1 then _ else if (2:Int)=2 then !([xv n].any (ev 15 (vals s))) else _)=_
 rw [if_neg om_,if_neg om_,if_pos rfl];simp [this]
theorem skF_fst {sp:Space} {q:State->Bool}:(skF sp q).1=!sp.States.any q:=by
 unfold skF;cases h:sp.States.findIdx? q with
 | none=>
  rw [List.findIdx?_eq_none_iff] at h;have:sp.States.any q=false:=List.any_eq_false.2 fun x hx=>by simp [h x hx]
  rw [this];rfl
 | some j=>
  obtain ⟨hj,hj2,_⟩:=List.findIdx?_eq_some_iff_getElem.1 h;have:sp.States.any q=true:=List.any_eq_true.2 ⟨_,List.getElem_mem hj,hj2⟩;rw [this];rfl
theorem any_congr {α:Type} {l:List α} {p q:α->Bool} (h:∀ x∈l,p x=q x):l.any p=l.any q:=by
 induction l with
 | nil=>rfl
 | cons a l ih=>rw [List.any_cons,List.any_cons,h a sm_,ih fun x hx=>h x (by simp [hx])]
theorem mem_lnF {f:Nat->Bool} {N n:Nat} (h:n < N):((n:Int)∈lnF f N)↔f n=false:=by
 unfold lnF;simp only [List.mem_map,List.mem_filter,List.mem_range];constructor
 ·rintro ⟨a,⟨_,h1⟩,h2⟩;obtain rfl:a=n:=by omega
  simpa using h1
 ·intro h1;exact ⟨n,⟨h,by simp [h1]⟩,rfl⟩
theorem ends_ex {c:Control} {s:State} (hb:Bd_ c) (hf:Fit c s) {i:Nat} (hi:i < cA c):¬ (vl s (2 * i)=true/\vl s (2 * i + 1)=true):=by
 have he:=hf.e;have g:∀ k,k < 2 * cA c->vl s k=((s.Ends[k / 2]?).map fun e=>if k % 2=0 then e == 0 else e == 2).getD false:=fun k hk=>by
  unfold vl vals pre;rw [List.getD_eq_getElem?_getD,List.getElem?_append_left (by rw [List.length_append];unfold endv;rw [fm_len];omega),List.getElem?_append_left (by unfold endv;rw [fm_len];omega)];unfold endv;rw [fm_get]
 rw [g _ om_,g _ om_,show (2 * i) / 2=i by omega,show (2 * i + 1) / 2=i by omega,gE_ om_];simp;intro h;omega
theorem m16_pair {c:Control} {held:List Bool} {s0:State} {sp:Space} (hc:Rc c) (hS:Sp_ c s0 sp) (h40:m40 FF c held=some (begF c held)) (h63:m63 FF c held=some (begF c held)) (h0:(begF c held).2=0) (h25:m29 FF c held=some (sp,0)) (h26:m51 FF c held=some (sp,0)) {i:Nat} (hi:i < cA c) :
  m16 FF c held [((2 * i:Nat):Int),((2 * i + 1:Nat):Int)]=some (true,[],0):=by
 have hbd:=hc.rt.bd;have hcl:2 * cA c<=cL c:=by unfold cL cS;omega
 obtain ⟨each,hC,h1,_⟩:=excl_ok (lines:=[((2 * i:Nat):Int),((2 * i + 1:Nat):Int)]) hc hS h40 h63 h0 h25 h26 sm_ (fun x hx=>by
  simp at hx;unfold bad;simp;omega)
 rw [h1];have:sp.States.findIdx? (exq each)=none:=by
  rw [List.findIdx?_eq_none_iff];intro s hs;unfold exq;rw [decide_eq_false_iff_not,mtL_both hC];rintro ⟨x,hx,y,hy,hne,v1,v2⟩;have hf:=(hS.al s hs).1;have hno:=ends_ex hbd hf hi;simp at hx hy;rcases hx with rfl | rfl <;> rcases hy with rfl | rfl
  ·exact hne rfl
  ·exact hno ⟨by rw [show (2 * (i:Int)).toNat=2 * i by omega] at v1;exact v1,by rw [show (2 * (i:Int) + 1).toNat=2 * i + 1 by omega] at v2;exact v2⟩
  ·exact hno ⟨by rw [show (2 * (i:Int)).toNat=2 * i by omega] at v2;exact v2,by rw [show (2 * (i:Int) + 1).toNat=2 * i + 1 by omega] at v1;exact v1⟩
  ·exact hne rfl
 unfold skF;rw [this]
theorem implies_true (c:Control) (held:List Bool) (x:Expr):m8 FF c held x=some true:=by
 unfold m8;obtain ⟨b,hb,hfw⟩:=m11_spec c held;rw [hb,ob_];obtain ⟨b2,hx,hx2⟩:=m22_spec (f:=FF) (by unfold FF;omega) x;cases b with
 | false=>rw [show (!false)=true from rfl,ct_,ob_,ct_,ob_,ct_,m12_spec];rfl
 | true=>
  rw [show (!true)=false from rfl,cf_,hx,ob_,ob_];cases b2 with
  | false=>rw [show (!false)=true from rfl,ct_,ob_,ct_,m12_spec];rfl
  | true=>
   rw [show (!true)=false from rfl,cf_];obtain ⟨hw,hs,_,_⟩:=hfw rfl;obtain ⟨e0,_,hck,hck2⟩:=chk_spec hw hs;unfold m28;rw [hck,ob_];have err:∀ e:Int,e≠0->m29 FF c held=some (zsp,e)->∀ k:Option Bool,((m29 FF c held).bind fun x7=>(bif (x7.2 != (0:Int)) then (m12 FF).bind fun x9=>some x9 else k))=some true:=fun e he g k=>by
    rw [g,ob_];dsimp only;rw [nbb he,ct_,m12_spec];rfl
   by_cases he0:e0=0
   ·subst he0;rw [zf,cf_];by_cases hhl:held.length=c.Inputs.length
    ·rw [show ((held.length:Int) != (c.Inputs.length:Int))=false by rw [hhl];exact bne_self_eq_false _,cf_,ob_,zf,ob_,cf_];rcases exp_spec hb with ⟨e,he,h1,h2⟩ | ⟨sp,hc,_,h1,h2,h3,h4,h5,h6⟩ | ⟨hc,_,h0,e,h3,h1,h2⟩
     ·rw [h1,ob_];dsimp only;rw [nbb he,ct_,m12_spec];rfl
     ·have hbd:=hc.rt.bd;have hS:=expF_sp hbd h5 h6 h3;have hle:=hS.le;have k1:=hbd.a';have k2:=hbd.i;have k3:=hbd.s;have hN:cL c<=256:=by unfold cL cS;omega
      obtain ⟨h40,h63⟩:m40 FF c held=some (begF c held)/\m63 FF c held=some (begF c held):=by
       rcases beg_spec hw hs held with ⟨_,_,_,_,h⟩ | ⟨_,_,h,h',_⟩
       ·exact absurd hhl (h hc)
       ·exact ⟨h,h'⟩
      rw [h1,ob_];dsimp only;rw [zf,cf_]
      -- the limit switches
      have l1:∀ (n i:Nat),i<=cA c->cA c - i < n->m8_l1 FF c held n (i:Int)=some (.brk (cA c:Int)):=fun n=>by
       induction n with
       | zero=>intro i _ h;omega
       | succ n ih=>
        intro i hi hn;rw [m8_l1,hbd.a,lt_dec];by_cases hi2:i < cA c
        ·rw [dt_ hi2,ct_];have e1:wr ((2:Int) * (i:Int))=((2 * i:Nat):Int):=by rw [wr_id om_ om_];omega
         rw [e1,wr_nat om_,m16_pair hc hS h40 h63 h4 h1 h2 hi2,ob_];dsimp only;rw [zf,show (false || !true)=false from rfl,cf_,wr_nat om_];exact ih (i + 1) om_ om_
        ·obtain rfl:i=cA c:=by omega
         rw [df_ om_,cf_]
      have hl1:=l1 FF 0 om_ (by unfold FF;omega);rw [n0] at hl1;obtain ⟨ha,_⟩:=always_ok (held:=held) hc hS h1 h2;rw [hl1,ob_];dsimp only;rw [ha,ob_];dsimp only;rw [zf,cf_,m31_spec hbd,ob_]
      -- the lines
      have l2:∀ (n i:Nat),i<=cL c->cL c - i < n->m8_l2 FF c held (lnF (f0 sp.States) (cL c),lnF (f1 sp.States) (cL c),0) (cL c:Int) n (i:Int)=some (.brk (cL c:Int)):=fun n=>by
       induction n with
       | zero=>intro i _ h;omega
       | succ n ih=>
        intro i hi hn;rw [m8_l2,lt_dec];by_cases hi2:i < cL c
        ·have q1:=m23_ok (x:=xv i) lt_xv hc hS h40 h4 h1 (ch_xv hi2 16);have q2:=m23_ok (x:=xn i) lt_xn hc hS h40 h4 h1 (ch_xn hi2);have t1:(skF sp (ivq (xv i))).1=decide ((i:Int)∈lnF (f0 sp.States) (cL c)):=by
          rw [skF_fst,any_congr (q:=fun s=>!vl s i) fun s hs=>by unfold ivq;rw [ev_xv (hS.al s hs).1 hi2]];rw [Bool.eq_iff_iff,decide_eq_true_eq,mem_lnF hi2];unfold f0;simp
         have t2:(skF sp (ivq (xn i))).1=decide ((i:Int)∈lnF (f1 sp.States) (cL c)):=by
          rw [skF_fst,any_congr (q:=fun s=>vl s i) fun s hs=>by unfold ivq;rw [ev_xn (hS.al s hs).1 hi2,Bool.not_not]];rw [Bool.eq_iff_iff,decide_eq_true_eq,mem_lnF hi2];unfold f1;simp
         have z1:(skF sp (ivq (xv i))).2.2=0:=by unfold skF; split <;> rfl
         have z2:(skF sp (ivq (xn i))).2.2=0:=by unfold skF; split <;> rfl
         have la:=lnF_len (f:=f0 sp.States) (n:=cL c);have lb:=lnF_len (f:=f1 sp.States) (n:=cL c);rw [dt_ hi2,ct_];unfold m30;rw [ob_,show (⟨(1:Int),(i:Int),([]:List Expr)⟩:Expr)=xv i from rfl,q1,ob_,ob_,show (⟨(2:Int),(0:Int),[xv (i:Int)]⟩:Expr)=xn i from rfl,q2,ob_,z1,z2,show (wr ((0:Int) + 0) != 0)=false from rfl,cf_];dsimp only;rw [m32_spec om_ (by unfold FF;omega),ob_,ob_,t1,bne_self_eq_false,cf_,m32_spec om_ (by unfold FF;omega),ob_,ob_,t2,bne_self_eq_false,cf_,wr_nat om_];exact ih (i + 1) om_ om_
        ·obtain rfl:i=cL c:=by omega
         rw [df_ om_,cf_]
      have hl2:=l2 FF 0 om_ (by unfold FF;omega);rw [n0] at hl2;rw [hl2,ob_];dsimp only
      -- the expression
      by_cases hch:chE 16 (cL c) x=0
      ·have q:=m23_ok (hx2 rfl) hc hS h40 h4 h1 hch;rw [q,ob_];unfold skF;cases hfi:sp.States.findIdx? (ivq x) with
       | none=>
        dsimp only;rw [Bool.or_true,ct_,m12_spec];rfl
       | some j=>
        obtain ⟨hj,hj2,_⟩:=List.findIdx?_eq_some_iff_getElem.1 hfi;have hf:=(hS.al _ (List.getElem_mem hj)).1;have hqt:=(hS.al _ (List.getElem_mem hj)).2;have he:=hf.e;have hi2:=hf.i;have hxx:=hf.x;dsimp only;rw [zf,Bool.or_self,cf_,follow_fp hbd hS hj,ob_];dsimp only;rw [beq_self_eq_true,Bool.true_and,dt_ (show (j:Int)>=0 by omega),Bool.true_and,lt_dec,dt_ hj,ct_,idx_nat,gE_ hj,ob_,ob_,ob_,m34_spec hc,(fitE_zero hbd).2 hf,ob_,beq_self_eq_true,ob_,ct_,m36_1_spec hbd hf.e om_ om_,ob_,m35_spec 16 FF _ x (by rw [hf.vl];exact okE.of (hx2 rfl).dp hch) (by unfold FF;omega),ob_,ob_];have hj2:(!ev 16 (vals sp.States[j]) x)=true:=hj2;obtain ⟨t,g1,g2⟩:=hqt;rw [hj2,ct_,m37_spec hc hf,g1,ob_];dsimp only;rw [g2,ob_,ct_,m12_spec];rfl
      ·unfold m23;rw [h40,ob_,h4,zf,cf_,wLn hbd,m70_spec (hx2 rfl) om_ om_ (by unfold FF;omega),ob_,nbb hch,ct_,ob_];dsimp only;rw [nbb hch,Bool.true_or,ct_,m12_spec];rfl
     ·rw [h1,ob_];dsimp only;rw [nbb (expF_ne h3),ct_,m12_spec];rfl
    ·rw [show ((held.length:Int) != (c.Inputs.length:Int))=true by simp;omega,ct_,ob_,show ((8:Int) != 0)=true from rfl,ob_,ct_,m12_spec];rfl
   ·rw [nbb he0,ct_,ob_,nbb he0,ob_,ct_,m12_spec];rfl
end Go.Pn

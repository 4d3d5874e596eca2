import Derived.Test.YtpahlccmojdgdaaGreatDoorAp5
set_option linter.unusedVariables false
set_option linter.unusedSimpArgs false
namespace Go.Pn
open Go
theorem mfind_succ {κ β:Type} {eqb:κ→κ→Bool} {k:κ}:∀ {m:List (κ×β)} {i:Nat},mfind eqb k m (i + 1)=(mfind eqb k m i).map fun q=>(q.1 + 1,q.2)
 | [],_=>rfl
 | (k',y) :: m,i=>by
  unfold mfind
  split
  ·rfl
  ·exact mfind_succ
theorem mat_cons {κ ν:Type} {eqb:κ→κ→Bool} {m:List (κ×ν)} {k k':κ} {y:ν}:mat eqb ((k',y) :: m) k=if eqb k k' then some y else mat eqb m k:=by
 unfold mat
 rw [mfind]
 split
 ·rfl
 ·rw [mfind_succ,Option.map_map];rfl
theorem mput_cons {κ ν:Type} {eqb:κ→κ→Bool} {m:List (κ×ν)} {k k':κ} {y z:ν}:mput eqb ((k',z) :: m) k y=if eqb k k' then (k',y) :: m else (k',z) :: mput eqb m k y:=by
 unfold mput
 rw [mfind]
 by_cases h:eqb k k'=true
 ·rw [if_pos h,if_pos h];rfl
 ·rw [if_neg h,if_neg h,mfind_succ]
  cases mfind eqb k m 0 with
  | none=>rfl
  | some q=>rfl
theorem mat_put {ν:Type} {m:List (Int×ν)} {k j:Int} {y:ν}:mat eqqI (mput eqqI m k y) j=if j=k then some y else mat eqqI m j:=by
 induction m with
 | nil=>
  show mat eqqI [(k,y)] j=_
  rw [mat_cons]
  by_cases h:j=k <;> simp [eqqI,h]
 | cons p m ih=>
  obtain ⟨k',z⟩:=p
  rw [mput_cons,mat_cons]
  by_cases h:k=k'
  ·subst h
   rw [if_pos (by simp [eqqI]),mat_cons]
   by_cases h2:j=k <;> simp [eqqI,h2]
  ·rw [if_neg (by simp [eqqI,h]),mat_cons,ih]
   by_cases h2:j=k'
   ·subst h2
    have h3:¬ (j=k):=fun e=>h e.symm
    simp [eqqI,h3]
   ·simp [eqqI,h2]
def mg (m:List (Int×Bool)) (k:Int):Bool:=(mat eqqI m k).getD false
theorem mg_put {m:List (Int×Bool)} {k j:Int} {y:Bool}:mg (mput eqqI m k y) j=if j=k then y else mg m j:=by
 unfold mg
 rw [mat_put]
 split <;> rfl
theorem m51_l2_spec (z6:Int×List Int×List (Int×Bool)) (x9:Int) (x10 x12:List Int) (hl:x10.length=x12.length) (hs:x10.length < 1000000) :
  ∀ (n i:Nat) (m:List (Int×Bool)),i≤x10.length→x10.length - i < n →
   ∃ z m',m51_l2 z6 x9 x10 x12 n (i,m)=some (z,m')∧(∀ j,j≠z6.1→mg m' j=mg m j) ∧
    (mg m' z6.1=true↔mg m z6.1=true∧∀ t:Int,(i:Int)≤t→0≤at_ x10 t→0≤at_ x12 t)
 | 0,i,_,_,h=>by omega
 | n + 1,i,m,h1,h2=>by
  unfold m51_l2
  by_cases hi:i < x10.length
  ·dsimp only
   have hA:idx x10 (i:Int)=some (at_ x10 i):=idx_at (by omega) (by omega)
   have hB:idx x12 (i:Int)=some (at_ x12 i):=idx_at (by omega) (by omega)
   rw [lt_dec,decide_eq_true hi,cond_true,hA,Option.bind_some,hB,Option.bind_some,wr_nat (by omega)]
   have split:∀ t:Int,(i:Int)≤t→t=i∨((i + 1:Nat):Int)≤t:=fun t _=>by omega
   by_cases ha:at_ x10 i≥0
   ·rw [decide_eq_true ha,cond_true,Option.bind_some]
    by_cases hb:at_ x12 i < 0
    ·rw [decide_eq_true hb,cond_true,Option.bind_some]
     obtain ⟨z,m',h3,h4,h5⟩:=m51_l2_spec z6 x9 x10 x12 hl hs n (i + 1) (mput eqqI m z6.1 false) (by omega) (by omega)
     refine ⟨z,m',h3,fun j hj=>by rw [h4 j hj,mg_put,if_neg hj],?_⟩
     rw [h5,mg_put,if_pos rfl]
     constructor
     ·rintro ⟨h,_⟩;cases h
     ·rintro ⟨_,h⟩
      have:=h i (Int.le_refl _) ha
      omega
    ·rw [decide_eq_false hb,cond_false,Option.bind_some]
     obtain ⟨z,m',h3,h4,h5⟩:=m51_l2_spec z6 x9 x10 x12 hl hs n (i + 1) m (by omega) (by omega)
     refine ⟨z,m',h3,h4,?_⟩
     rw [h5]
     refine and_congr_right fun _=>⟨fun h t ht h0=>?_,fun h t ht h0=>h t (by omega) h0⟩
     rcases split t ht with rfl | h6
     ·omega
     ·exact h t h6 h0
   ·rw [decide_eq_false ha,cond_false,Option.bind_some,cond_false,Option.bind_some]
    obtain ⟨z,m',h3,h4,h5⟩:=m51_l2_spec z6 x9 x10 x12 hl hs n (i + 1) m (by omega) (by omega)
    refine ⟨z,m',h3,h4,?_⟩
    rw [h5]
    refine and_congr_right fun _=>⟨fun h t ht h0=>?_,fun h t ht h0=>h t (by omega) h0⟩
    rcases split t ht with rfl | h6
    ·exact absurd h0 ha
    ·exact h t h6 h0
  ·dsimp only
   rw [lt_dec,decide_eq_false hi,cond_false]
   refine ⟨_,m,rfl,fun _ _=>rfl,?_⟩
   refine ⟨fun h=>⟨h,fun t ht h0=>?_⟩,fun h=>h.1⟩
   have:=at_nn h0;omega
theorem m51_l3_spec (z6:Int×List Int×List (Int×Bool)) (x9:Int) (x10:List Int) (hs:x10.length < 1000000) :
  ∀ (n i:Nat) (m:List (Int×Bool)),i≤x10.length→x10.length - i < n →
   ∃ z m',m51_l3 z6 x9 x10 n (i,m)=some (z,m')∧∀ j,mg m' j=true↔mg m j=true∨(mg m z6.1=true∧(i:Int)≤j∧0≤at_ x10 j)
 | 0,i,_,_,h=>by omega
 | n + 1,i,m,h1,h2=>by
  unfold m51_l3
  by_cases hi:i < x10.length
  ·dsimp only
   have hA:idx x10 (i:Int)=some (at_ x10 i):=idx_at (by omega) (by omega)
   rw [lt_dec,decide_eq_true hi,cond_true,hA,Option.bind_some,wr_nat (by omega)]
   have split:∀ t:Int,(i:Int)≤t→t=i∨((i + 1:Nat):Int)≤t:=fun t _=>by omega
   rw [show (mat eqqI m z6.1).getD false=mg m z6.1 from rfl]
   cases hc:mg m z6.1 with
   | false=>
    rw [cond_false,Option.bind_some,cond_false,Option.bind_some]
    obtain ⟨z,m',h3,h4⟩:=m51_l3_spec z6 x9 x10 hs n (i + 1) m (by omega) (by omega)
    refine ⟨z,m',h3,fun j=>?_⟩
    rw [h4,hc];simp
   | true=>
    rw [cond_true,Option.bind_some]
    by_cases ha:at_ x10 i≥0
    ·rw [decide_eq_true ha,cond_true,Option.bind_some]
     obtain ⟨z,m',h3,h4⟩:=m51_l3_spec z6 x9 x10 hs n (i + 1) (mput eqqI m i true) (by omega) (by omega)
     refine ⟨z,m',h3,fun j=>?_⟩
     rw [h4,mg_put,mg_put]
     have hz:(if z6.1=(i:Int) then true else mg m z6.1)=true:=by rw [hc]; split <;> rfl
     rw [hz]
     by_cases e:j=i
     ·subst e;simp;right;exact ha
     ·rw [if_neg e]
      refine or_congr_right ⟨fun ⟨_,h5,h6⟩=>⟨rfl,by omega,h6⟩,fun ⟨_,h5,h6⟩=>⟨rfl,by omega,h6⟩⟩
    ·rw [decide_eq_false ha,cond_false,Option.bind_some]
     obtain ⟨z,m',h3,h4⟩:=m51_l3_spec z6 x9 x10 hs n (i + 1) m (by omega) (by omega)
     refine ⟨z,m',h3,fun j=>?_⟩
     rw [h4,hc]
     refine or_congr_right ⟨fun ⟨_,h5,h6⟩=>⟨rfl,by omega,h6⟩,fun ⟨_,h5,h6⟩=>⟨rfl,?_,h6⟩⟩
     rcases split j h5 with rfl | h7
     ·exact absurd h6 ha
     ·exact h7
  ·dsimp only
   rw [lt_dec,decide_eq_false hi,cond_false]
   refine ⟨_,m,rfl,fun j=>⟨.inl,fun h=>h.elim id fun ⟨_,h5,h6⟩=>?_⟩⟩
   have:=at_nn h6;omega
theorem m51_l1_spec {v:Space} (hsh:shp v=0) (hs:v.States.length≤40) (hrow:∀ l∈v.Moves,l.length≤40) :
  ∀ (n i:Nat) (acc:List Int) (m:List (Int×Bool)),acc.length≤i→i≤v.States.length→v.States.length - i < n→(∀ k,mg m k=true→Cm v.Moves k∧Rch v.Moves 0 k) →
   ∃ z r m',m51_l1 FF v (lev v.Moves 0) (opp v.Moves) n (i,acc,m)=some (z,acc ++ r,m')∧r.length + i≤v.States.length∧r.Pairwise (· < ·)∧∀ k,k∈r↔(i:Int)≤k∧Rch v.Moves 0 k∧Cm v.Moves k
 | 0,i,_,_,_,_,h,_=>by omega
 | n + 1,i,acc,m,ha,h1,h2,hm=>by
  obtain ⟨hp,hml,hg⟩:=shp_zero hsh
  have hL:=lev_lv hg (Int.le_refl 0) (by omega:(0:Int) < v.Moves.length)
  unfold m51_l1
  by_cases hi:i < v.States.length
  ·dsimp only
   have hA:idx (lev v.Moves 0) (i:Int)=some (at_ (lev v.Moves 0) i):=idx_at (by omega) (by rw [hL.len];omega)
   rw [lt_dec,decide_eq_true hi,cond_true,hA,Option.bind_some]
   have hi0:(0:Int)≤(i:Int):=by omega
   have hi1:(i:Int) < v.Moves.length:=by omega
   -- what the rest does,the place i being in the core or not
   have fin:∀ (m2:List (Int×Bool)),(∀ k,mg m2 k=true→Cm v.Moves k∧Rch v.Moves 0 k)→(mg m2 i=true↔Rch v.Moves 0 i∧Cm v.Moves i) →
     ∃ z r m',((bif mg m2 i then (app acc ([(i:Int)]:List Int)).bind fun x26=>some x26 else some acc).bind fun z25=>m51_l1 FF v (lev v.Moves 0) (opp v.Moves) n ((wr ((i:Int) + (1:Int))),z25,m2))=some (z,acc ++ r,m')∧r.length + i≤v.States.length∧r.Pairwise (· < ·)∧∀ k,k∈r↔(i:Int)≤k∧Rch v.Moves 0 k∧Cm v.Moves k:=by
    intro m2 hm2 hk
    rw [wr_nat (by omega)]
    cases hc:mg m2 i with
    | true=>
     unfold app
     rw [cond_true,if_pos (by simp;omega),Option.bind_some,Option.bind_some]
     obtain ⟨z,r,m',h3,h3l,hpw,h4⟩:=m51_l1_spec hsh hs hrow n (i + 1) (acc ++ [(i:Int)]) m2 (by simp;omega) (by omega) (by omega) hm2
     refine ⟨z,(i:Int) :: r,m',by rw [h3];simp,by simp;omega,List.pairwise_cons.2 ⟨fun k hk=>by have:=((h4 k).1 hk).1;omega,hpw⟩,fun k=>?_⟩
     rw [List.mem_cons,h4]
     constructor
     ·rintro (rfl | ⟨h5,h6⟩)
      ·exact ⟨by omega,hk.1 hc⟩
      ·exact ⟨by omega,h6⟩
     ·rintro ⟨h5,h6⟩
      by_cases e:k=i
      ·exact .inl e
      ·exact .inr ⟨by omega,h6⟩
    | false=>
     rw [cond_false,Option.bind_some]
     obtain ⟨z,r,m',h3,h3l,hpw,h4⟩:=m51_l1_spec hsh hs hrow n (i + 1) acc m2 (by omega) (by omega) (by omega) hm2
     refine ⟨z,r,m',h3,by omega,hpw,fun k=>?_⟩
     rw [h4]
     constructor
     ·rintro ⟨h5,h6⟩;exact ⟨by omega,h6⟩
     ·rintro ⟨h5,h6⟩
      refine ⟨?_,h6⟩
      by_cases e:k=i
      ·subst e;rw [hk.2 h6] at hc;cases hc
      ·omega
   by_cases hr:at_ (lev v.Moves 0) i < 0
   ·rw [decide_eq_true hr,cond_true,wr_nat (by omega)]
    obtain ⟨z,r,m',h3,h3l,hpw,h4⟩:=m51_l1_spec hsh hs hrow n (i + 1) acc m (by omega) (by omega) (by omega) hm
    refine ⟨z,r,m',h3,by omega,hpw,fun k=>?_⟩
    rw [h4]
    constructor
    ·rintro ⟨h5,h6⟩;exact ⟨by omega,h6⟩
    ·rintro ⟨h5,h6⟩
     refine ⟨?_,h6⟩
     by_cases e:k=i
     ·subst e;have:=(hL.rch i).2 h6.1;omega
     ·omega
   ·rw [decide_eq_false hr,cond_false]
    have hri:Rch v.Moves 0 i:=(hL.rch i).1 (by omega)
    rw [show (mat eqqI m (i:Int)).getD false=mg m i from rfl]
    cases hc:mg m i with
    | true=>
     rw [show (!true)=false by rfl,cond_false]
     have:=fin m hm ⟨fun _=>⟨hri,(hm i hc).1⟩,fun _=>hc⟩
     rw [hc] at this
     exact this
    | false=>
     rw [show (!false)=true by rfl,cond_true]
     rw [m115_spec hg (by omega) (fun l hl=>by have:=hrow l hl;omega) hi0 hi1,Option.bind_some]
     rw [m115_spec (opp_gd hg) (by rw [opp_len];omega) (opp_row (by omega) hrow) hi0 (by rw [opp_len];exact hi1),Option.bind_some]
     have hF:=lev_lv hg hi0 hi1
     have hB:=lev_lv (opp_gd hg) hi0 (by rw [opp_len];exact hi1)
     have hop:=opp_op hg
     have h0:((0:Nat):Int)=0:=rfl
     obtain ⟨z2,m2,e2,k2,c2⟩:=m51_l2_spec ((i:Int),acc,m) (at_ (lev v.Moves 0) i) (lev v.Moves i) (lev (opp v.Moves) i) (by rw [hF.len,hB.len,opp_len]) (by rw [hF.len];omega) FF 0 (mput eqqI m i true) (by omega) (by rw [hF.len];unfold FF;omega)
     rw [h0] at e2
     rw [e2,Option.bind_some]
     dsimp only at k2 c2 ⊢
     rw [mg_put,if_pos rfl] at c2
     have hcm:mg m2 i=true↔Cm v.Moves i:=by
      rw [c2]
      constructor
      ·rintro ⟨_,h⟩ k hk
       have h3:=at_nn ((hF.rch k).2 hk)
       exact hop.rch.1 ((hB.rch k).1 (h k (by omega) ((hF.rch k).2 hk)))
      ·intro h
       refine ⟨rfl,fun t _ ht=>(hB.rch t).2 (hop.rch.2 (h t ((hF.rch t).1 ht)))⟩
     obtain ⟨z3,m3,e3,k3⟩:=m51_l3_spec ((i:Int),acc,m) (at_ (lev v.Moves 0) i) (lev v.Moves i) (by rw [hF.len];omega) FF 0 m2 (by omega) (by rw [hF.len];unfold FF;omega)
     rw [h0] at e3
     rw [e3,Option.bind_some]
     dsimp only at k3 ⊢
     have hm2:∀ k,mg m2 k=true→Cm v.Moves k∧Rch v.Moves 0 k:=by
      intro k hk
      by_cases e:k=i
      ·subst e;exact ⟨hcm.1 hk,hri⟩
      ·rw [k2 k e,mg_put,if_neg e] at hk
       exact hm k hk
     have hm3:∀ k,mg m3 k=true→Cm v.Moves k∧Rch v.Moves 0 k:=by
      intro k hk
      rcases (k3 k).1 hk with h | ⟨h3,_,h4⟩
      ·exact hm2 k h
      ·have h5:=hcm.1 h3
       have h6:=(hF.rch k).1 h4
       exact ⟨h5.next h6,hri.trans h6⟩
     refine fin m3 hm3 ⟨fun h=>⟨hri,(hm3 i h).1⟩,fun h=>?_⟩
     exact (k3 i).2 (.inl (hcm.2 h.2))
  ·dsimp only
   rw [lt_dec,decide_eq_false hi,cond_false]
   refine ⟨_,[],m,by simp;rfl,by simp;omega,.nil,fun k=>⟨fun h=>by simp at h,fun ⟨h5,h6,_⟩=>?_⟩⟩
   have:=Rch.lt hg h6 (by omega);omega
theorem m51_srt {v:Space} (hsh:shp v=0) (hs:v.States.length≤40) (hrow:∀ l∈v.Moves,l.length≤40):∃ r,m51 FF v=some (r,0)∧r.length≤40∧r.Pairwise (· < ·)∧∀ k,k∈r↔Rch v.Moves 0 k∧Cm v.Moves k:=by
 obtain ⟨hp,hml,hg⟩:=shp_zero hsh
 unfold m51
 rw [m114_spec (by unfold FF;omega) (by omega) (fun l hl=>by have:=hrow l hl;unfold FF;omega),hsh,Option.bind_some]
 rw [show ((0:Int) != 0)=false by rfl,cond_false,m115_spec hg (by omega) (fun l hl=>by have:=hrow l hl;omega) (Int.le_refl 0) (by omega),Option.bind_some,m116_spec hg (by omega) hrow,Option.bind_some]
 obtain ⟨z,r,m',h1,h1l,hpw,h2⟩:=m51_l1_spec hsh hs hrow FF 0 [] [] (by simp) (by omega) (by unfold FF;omega) (fun k hk=>by cases hk)
 have h0:((0:Nat):Int)=0:=rfl
 rw [h0] at h1
 refine ⟨r,by rw [h1];rfl,by omega,hpw,fun k=>?_⟩
 rw [h2]
 refine ⟨fun h=>h.2,fun h=>⟨?_,h⟩⟩
 have:=Rch.lt hg h.1 (by omega);omega
theorem m51_spec {v:Space} (hsh:shp v=0) (hs:v.States.length≤40) (hrow:∀ l∈v.Moves,l.length≤40):∃ r,m51 FF v=some (r,0)∧r.length≤40∧∀ k,k∈r↔Rch v.Moves 0 k∧Cm v.Moves k:=by
 obtain ⟨r,h1,h2,_,h3⟩:=m51_srt hsh hs hrow
 exact ⟨r,h1,h2,h3⟩
end Go.Pn
namespace Go.Pn
open Go
def gp (g:List (List Int)) (y:List Int):Nat→Int→List Int
 | 0,_=>[]
 | n + 1,z=>match ((idx g z).getD []).findIdx? (fun x=>at_ y x == at_ y z - 1) with
  | some k=>(k:Int) :: gp g y n (at_ ((idx g z).getD []) k)
  | none=>[]
theorem findIdx_cons {α:Type} {p:α→Bool} {x:α} {l:List α}:(x :: l).findIdx? p=if p x then some 0 else (l.findIdx? p).map (· + 1):=by
 rw [List.findIdx?_cons]
theorem m122_3_l1_spec (f:Nat) (xs y:List Int) (z:Int) (hl:xs.length < 4611686018427387904) (hz:0≤z∧z < y.length) (hx:∀ x∈xs,0≤x∧x < y.length) (hy:-1≤at_ y z∧at_ y z < 1000000000):∀ (n i:Nat),i≤xs.length→xs.length - i < n →
  m122_3_l1 f xs y z n i=match (xs.drop i).findIdx? (fun x=>at_ y x == at_ y z - 1) with
   | some j=>some (.ret ((i + j:Nat):Int))
   | none=>some (.brk (xs.length:Int))
 | 0,i,_,h=>by omega
 | n + 1,i,h1,h2=>by
  unfold m122_3_l1
  by_cases hi:i < xs.length
  ·rw [lt_dec,decide_eq_true hi,cond_true,idx_nat,List.getElem?_eq_getElem hi,Option.bind_some]
   have hd:xs.drop i=xs[i] :: xs.drop (i + 1):=List.drop_eq_getElem_cons hi
   have hxi:=hx _ (List.getElem_mem hi)
   unfold m123
   rw [idx_at hxi.1 hxi.2,Option.bind_some,idx_at hz.1 hz.2,Option.bind_some,Option.bind_some,wr_id (by omega) (by omega),hd,findIdx_cons]
   cases hc:(at_ y xs[i] == at_ y z - 1) with
   | true=>rfl
   | false=>
    rw [cond_false,wr_nat (by omega),m122_3_l1_spec f xs y z hl hz hx hy n (i + 1) (by omega) (by omega),if_neg (by simp)]
    cases (xs.drop (i + 1)).findIdx? (fun x=>at_ y x == at_ y z - 1) with
    | none=>rfl
    | some j=>
     show some (Lo.ret (((i + 1 + j:Nat)):Int))=some (Lo.ret ((i + (j + 1):Nat):Int))
     rw [show i + 1 + j=i + (j + 1) by omega]
  ·rw [lt_dec,decide_eq_false hi,cond_false,List.drop_eq_nil_of_le (by omega)]
   have:i=xs.length:=by omega
   subst this;rfl
theorem m122_3_spec {f:Nat} {xs y:List Int} {z:Int} (hl:xs.length < 4611686018427387904) (hf:xs.length < f) (hz:0≤z∧z < y.length) (hx:∀ x∈xs,0≤x∧x < y.length) (hy:-1≤at_ y z∧at_ y z < 1000000000) :
  m122_3 f xs y z=some (match xs.findIdx? (fun x=>at_ y x == at_ y z - 1) with | some j=>(j:Int) | none=>-1):=by
 have h0:((0:Nat):Int)=0:=rfl
 have h:=m122_3_l1_spec f xs y z hl hz hx hy f 0 (by omega) (by omega)
 rw [h0,List.drop_zero] at h
 unfold m122_3
 rw [h]
 cases xs.findIdx? (fun x=>at_ y x == at_ y z - 1) with
 | none=>rfl
 | some j=>show some (((0 + j:Nat)):Int)=_;rw [Nat.zero_add]
theorem Lv.move {g og:List (List Int)} (ho:Op g og) {s z:Int} {y:List Int} (h:Lv og s y) {d:Nat} (hd:at_ y z=(d + 1:Nat)) :
  ∃ l k,idx g z=some l∧l.findIdx? (fun x=>at_ y x == at_ y z - 1)=some k∧k < l.length∧at_ y (at_ l k)=d:=by
 have hr:Rch og s z:=(h.rch z).1 (by omega)
 have hne:z≠s:=fun e=>by subst e;have:=h.za;omega
 obtain ⟨p,hp,he,e2⟩:=h.par z hr hne
 obtain ⟨l,hl,hm⟩:=(ho.edge z p).1 he
 have hex:∃ x∈l,(at_ y x == at_ y z - 1)=true:=⟨p,hm,by simp;omega⟩
 cases hf:l.findIdx? (fun x=>at_ y x == at_ y z - 1) with
 | none=>
  rw [List.findIdx?_eq_none_iff] at hf
  obtain ⟨x,hx,hx2⟩:=hex
  rw [hf x hx] at hx2;cases hx2
 | some k=>
  obtain ⟨hk,hk2,_⟩:=List.findIdx?_eq_some_iff_getElem.1 hf
  refine ⟨l,k,hl,hf,hk,?_⟩
  have:at_ l (k:Int)=l[k]:=at_idx (by rw [idx_nat];exact List.getElem?_eq_getElem hk)
  rw [this]
  have hk2:at_ y l[k]=at_ y z - 1:=by simpa using hk2
  omega
theorem Lv.zero {g:List (List Int)} {a b:Int} {out:List Int} (h:Lv g a out) (h0:at_ out b=0):b=a:=by
 by_cases e:b=a
 ·exact e
 ·obtain ⟨p,hp,_,e2⟩:=h.par b ((h.rch b).1 (by omega)) e
  have:=(h.rch p).2 hp;omega
theorem m57_l1_spec {v:Space} (hsh:shp v=0) (hs:v.States.length≤40) (hrow:∀ l∈v.Moves,l.length≤40) {s:Int} {y:List Int} (hy:Lv (opp v.Moves) s y) :
  ∀ (d:Nat) (z:Int) (acc:List Int) (n:Nat),at_ y z=d→d < n→acc.length + d≤1000→m57_l1 FF v s y n (acc,z)=some (.brk (acc ++ gp v.Moves y d z,s))
 | d,z,acc,0,_,h,_=>by omega
 | 0,z,acc,n + 1,hd,h1,h2=>by
  have hz:z=s:=hy.zero hd
  subst hz
  unfold m57_l1
  dsimp only
  rw [show (z != z)=false by simp,cond_false]
  unfold gp;simp
 | d + 1,z,acc,n + 1,hd,h1,h2=>by
  obtain ⟨hp,hml,hg⟩:=shp_zero hsh
  have hop:=opp_op hg
  have hne:z≠s:=fun e=>by subst e;have:=hy.za;omega
  obtain ⟨l,k,hl,hk,hkl,hk2⟩:=hy.move hop hd
  have hlm:=idx_mem hl
  have hlr:=hrow l hlm
  have hzb:=at_nn (xs:=y) (i:=z) (by omega)
  have hyl:y.length=v.Moves.length:=by rw [hy.len,opp_len]
  have hb:=hy.bnd z
  rw [opp_len] at hb
  unfold m57_l1
  dsimp only
  rw [show (z != s)=true by simpa using hne,cond_true,hl,Option.bind_some,m122_3_spec (by omega) (by unfold FF;omega) hzb (fun x hx=>by rw [hyl];exact hg l hlm x hx) (by omega),hk]
  dsimp only
  rw [Option.bind_some,show decide ((k:Int) < 0)=false by simp,cond_false]
  unfold app
  rw [if_pos (by simp;omega),Option.bind_some,Option.bind_some,idx_at (by omega) (by omega),Option.bind_some,m57_l1_spec hsh hs hrow hy d (at_ l k) (acc ++ [(k:Int)]) n hk2 (by omega) (by simp;omega)]
  rw [gp,hl]
  dsimp only [Option.getD_some]
  rw [hk]
  simp
def pth (v:Space) (s:Int):List Int×Int:=
 if s < 0∨(v.States.length:Int)≤s then ([],2) else
 if at_ (lev (opp v.Moves) s) 0 < 0 then ([],6) else (gp v.Moves (lev (opp v.Moves) s) (at_ (lev (opp v.Moves) s) 0).toNat 0,0)
theorem m57_spec {v:Space} (hsh:shp v=0) (hs:v.States.length≤40) (hrow:∀ l∈v.Moves,l.length≤40) {s:Int}:m57 FF v s=some (pth v s):=by
 obtain ⟨hp,hml,hg⟩:=shp_zero hsh
 unfold m57 pth
 rw [m114_spec (by unfold FF;omega) (by omega) (fun l hl=>by have:=hrow l hl;unfold FF;omega),hsh,Option.bind_some,show ((0:Int) != 0)=false by rfl,cond_false]
 by_cases hr:s < 0∨(v.States.length:Int)≤s
 ·rw [if_pos hr]
  have:(decide (s < (0:Int)) || decide (s≥(v.States.length:Int)))=true:=by simpa using hr
  rw [this];rfl
 ·rw [if_neg hr]
  have:(decide (s < (0:Int)) || decide (s≥(v.States.length:Int)))=false:=by simp;omega
  rw [this,cond_false,m116_spec hg (by omega) hrow,Option.bind_some,m115_spec (opp_gd hg) (by rw [opp_len];omega) (opp_row (by omega) hrow) (by omega) (by rw [opp_len];omega),Option.bind_some]
  have hB:=lev_lv (opp_gd hg) (a:=s) (by omega) (by rw [opp_len];omega)
  have hlen:=hB.len
  rw [opp_len] at hlen
  rw [idx_at (Int.le_refl 0) (by omega),Option.bind_some]
  by_cases hd:at_ (lev (opp v.Moves) s) 0 < 0
  ·rw [if_pos hd,decide_eq_true hd];rfl
  ·rw [if_neg hd,decide_eq_false hd,cond_false]
   have hb:=hB.bnd 0
   rw [opp_len] at hb
   rw [m57_l1_spec hsh hs hrow hB (at_ (lev (opp v.Moves) s) 0).toNat 0 [] FF (by omega) (by unfold FF;omega) (by simp;omega)]
   rfl
theorem pth_rch {v:Space} (hsh:shp v=0) {s:Int} (h0:0≤s) (h1:s < v.States.length):((pth v s).2=0)↔Rch v.Moves 0 s:=by
 obtain ⟨hp,hml,hg⟩:=shp_zero hsh
 have hB:=lev_lv (opp_gd hg) (a:=s) h0 (by rw [opp_len];omega)
 unfold pth
 rw [if_neg (by omega)]
 rw [← (opp_op hg).rch,← hB.rch]
 split
 ·constructor
  ·intro h;simp at h
  ·intro h;omega
 ·constructor
  ·intro _;omega
  ·intro _;rfl
end Go.Pn
namespace Go.Pn
open Go
set_option maxRecDepth 1000000 in
theorem awakeFF:m20 100000=some true:=by kernel_rfl
theorem m20_spec:m20 FF=some true:=awakeFF
theorem m10_l1_spec {v:Space} (hsh:shp v=0) (hs:v.States.length≤40) (hrow:∀ l∈v.Moves,l.length≤40) (core stops:List Int×Int) (hc:∀ k,k∈core.1↔Rch v.Moves 0 k∧Cm v.Moves k) (hcl:core.1.length < 100000) (hst:∀ k,k∈stops.1↔idx v.Moves k=some []) (hsl:stops.1.length < 100000) :
  ∀ (n i:Nat),i≤stops.1.length→stops.1.length - i < n→∃ z,m10_l1 FF v core stops n i=some (.brk z)
 | 0,i,_,h=>by omega
 | n + 1,i,h1,h2=>by
  obtain ⟨hp,hml,hg⟩:=shp_zero hsh
  unfold m10_l1
  by_cases hi:i < stops.1.length
  ·rw [lt_dec,decide_eq_true hi,cond_true,idx_nat,List.getElem?_eq_getElem hi,Option.bind_some]
   have hk:=(hst _).1 (List.getElem_mem hi)
   generalize hs':stops.1[i]=s at hk
   have hsb:=idx_some hk
   rw [m57_spec hsh hs hrow,Option.bind_some,m58_spec (by omega) (by unfold FF;omega),Option.bind_some,wr_nat (by omega)]
   have h3:=pth_rch hsh (s:=s) hsb.1 (by omega)
   have h4:(decide (s∈core.1))=((pth v s).2 == 0):=by
    rw [Bool.eq_iff_iff,decide_eq_true_iff,beq_iff_eq,h3,hc]
    refine ⟨fun h=>h.1,fun h=>⟨h,fun k hk2=>?_⟩⟩
    have:k=s:=by
     cases hk2 with
     | refl=>rfl
     | step a b=>
      exfalso
      have:∀ {a b:Int},Rch v.Moves a b→idx v.Moves a=some []→b=a:=by
       intro a b h
       induction h with
       | refl=>exact fun _=>rfl
       | step _ e ih=>
        intro ha
        have:=ih ha
        subst this
        obtain ⟨l,hl,hm⟩:=e
        rw [ha] at hl
        obtain rfl:=Option.some.inj hl
        simp at hm
      have h5:=this a hk
      subst h5
      obtain ⟨l,hl,hm⟩:=b
      rw [hk] at hl
      obtain rfl:=Option.some.inj hl
      simp at hm
    subst this;exact .refl
   rw [h4,bne_self_eq_false,cond_false]
   exact m10_l1_spec hsh hs hrow core stops hc hcl hst hsl n (i + 1) (by omega) (by omega)
  ·rw [lt_dec,decide_eq_false hi,cond_false];exact ⟨_,rfl⟩
theorem m10_l3_spec {v:Space} (core:List Int×Int) (hcl:core.1.length < 100000) (l:List Int) (hl:l.length < 1000000) (hin:∀ x∈l,x∈core.1) :
  ∀ (n i:Nat),i≤l.length→l.length - i < n→∃ z,m10_l3 FF core l n i=some (.brk z)
 | 0,i,_,h=>by omega
 | n + 1,i,h1,h2=>by
  unfold m10_l3
  by_cases hi:i < l.length
  ·rw [lt_dec,decide_eq_true hi,cond_true,idx_nat,List.getElem?_eq_getElem hi,Option.bind_some,m58_spec (by omega) (by unfold FF;omega),Option.bind_some,wr_nat (by omega),decide_eq_true (hin _ (List.getElem_mem hi)),show (!true)=false by rfl,cond_false]
   exact m10_l3_spec (v:=v) core hcl l hl hin n (i + 1) (by omega) (by omega)
  ·rw [lt_dec,decide_eq_false hi,cond_false];exact ⟨_,rfl⟩
theorem m10_l2_spec {v:Space} (hsh:shp v=0) (hs:v.States.length≤40) (hrow:∀ l∈v.Moves,l.length≤40) (core:List Int×Int) (hc:∀ k,k∈core.1↔Rch v.Moves 0 k∧Cm v.Moves k) (hcl:core.1.length < 100000) :
  ∀ (n i:Nat),i≤core.1.length→core.1.length - i < n→∃ z,m10_l2 FF v core n i=some (.brk z)
 | 0,i,_,h=>by omega
 | n + 1,i,h1,h2=>by
  obtain ⟨hp,hml,hg⟩:=shp_zero hsh
  unfold m10_l2
  by_cases hi:i < core.1.length
  ·rw [lt_dec,decide_eq_true hi,cond_true,idx_nat,List.getElem?_eq_getElem hi,Option.bind_some,wr_nat (by omega)]
   have hk:=(hc _).1 (List.getElem_mem hi)
   generalize core.1[i]=s at hk
   have hsb:=Rch.lt hg hk.1 (by omega)
   have:(decide (s < (0:Int)) || decide (s≥(v.Moves.length:Int)))=false:=by simp;omega
   rw [this,cond_false]
   obtain ⟨l,hl,hlm⟩:=idx_of hsb.1 hsb.2
   rw [hl,Option.bind_some]
   obtain ⟨z,hz⟩:=m10_l3_spec (v:=v) core hcl l (by have:=hrow l hlm;omega) (fun x hx=>by
    rw [hc]
    have e:Rch v.Moves s x:=.step .refl ⟨l,hl,hx⟩
    exact ⟨hk.1.trans e,hk.2.next e⟩) FF 0 (by omega) (by have:=hrow l hlm;unfold FF;omega)
   have h0:((0:Nat):Int)=0:=rfl
   rw [h0] at hz
   rw [hz,Option.bind_some]
   exact m10_l2_spec hsh hs hrow core hc hcl n (i + 1) (by omega) (by omega)
  ·rw [lt_dec,decide_eq_false hi,cond_false];exact ⟨_,rfl⟩
theorem returns_true (v:Space):m10 FF v=some true:=by
 unfold m10 m28
 rw [Option.bind_some]
 obtain ⟨b,hb,hfew⟩:=m47_spec (f:=FF) (by unfold FF;omega) v
 rw [hb,Option.bind_some]
 cases b with
 | false=>rw [show (!false)=true by rfl,cond_true,Option.bind_some,cond_true,m20_spec];rfl
 | true=>
  obtain ⟨hs,hm,hrow⟩:=hfew rfl
  rw [show (!true)=false by rfl,cond_false,Option.bind_some,m56_spec (by unfold FF;omega) (by omega) (fun l hl=>by have:=hrow l hl;unfold FF;omega),Option.bind_some,Option.bind_some]
  by_cases hsh:shp v=0
  ·rw [hsh,show ((0:Int) != 0)=false by rfl,cond_false]
   obtain ⟨hp,hml,hg⟩:=shp_zero hsh
   obtain ⟨core,hc,hcl,hcm⟩:=m51_spec hsh hs hrow
   obtain ⟨stops,hst,hsl,hstm⟩:=m49_spec hsh hs hrow
   rw [hc,Option.bind_some,hst,Option.bind_some]
   have hne:core≠[]:=by
    obtain ⟨i,hr,hcmi⟩:=core_some hg (a:=0) (by omega)
    have:=(hcm i).2 ⟨hr,hcmi⟩
    intro e;rw [e] at this;simp at this
   have hl0:((core.length:Int) == 0)=false:=by
    have:core.length≠0:=fun h=>hne (List.eq_nil_of_length_eq_zero h)
    simp;omega
   rw [show ((wr ((0:Int) + 0)) != 0)=false by rfl,Bool.false_or]
   dsimp only
   rw [hl0,cond_false]
   have h0:((0:Nat):Int)=0:=rfl
   obtain ⟨z,hz⟩:=m10_l1_spec hsh hs hrow (core,0) (stops,0) hcm (by dsimp only;omega) hstm (by dsimp only;omega) FF 0 (by omega) (by dsimp only;unfold FF;omega)
   rw [h0] at hz
   rw [hz,Option.bind_some]
   obtain ⟨z2,hz2⟩:=m10_l2_spec hsh hs hrow (core,0) hcm (by dsimp only;omega) FF 0 (by omega) (by dsimp only;unfold FF;omega)
   rw [h0] at hz2
   dsimp only
   rw [hz2,Option.bind_some,m20_spec];rfl
  ·rw [show (shp v != 0)=true by simpa using hsh,cond_true,m20_spec];rfl
end Go.Pn
namespace Go.Pn
open Go
theorem srch {α β:Type} {L:Nat→Int→Option (Lo Int β)} {xs:List α} {p:Int→α→Option Bool} {q:α→Bool} {r:Int→β}
  (h:∀ n z,L (n + 1) z=(bif decide (z < (xs.length:Int)) then (idx xs z).bind fun x=>(p z x).bind fun b=>bif b then some (.ret (r z)) else L n (wr (z + (1:Int))) else some (.brk z)))
  (hl:xs.length < 4611686018427387904) (hq:∀ (i:Nat) x,xs[i]?=some x→p i x=some (q x)) :
  ∀ (n i:Nat),i≤xs.length→xs.length - i < n→L n i=match (xs.drop i).findIdx? q with
   | some j=>some (.ret (r ((i + j:Nat):Int)))
   | none=>some (.brk (xs.length:Int))
 | 0,i,_,h=>by omega
 | n + 1,i,h1,h2=>by
  rw [h]
  by_cases hi:i < xs.length
  ·have hx:xs[i]?=some xs[i]:=List.getElem?_eq_getElem hi
   rw [lt_dec,decide_eq_true hi,cond_true,idx_nat,hx,Option.bind_some,hq i _ hx,Option.bind_some,List.drop_eq_getElem_cons hi,findIdx_cons]
   cases q xs[i] with
   | true=>rfl
   | false=>
    rw [cond_false,wr_nat (by omega),srch h hl hq n (i + 1) (by omega) (by omega),if_neg (by simp)]
    cases (xs.drop (i + 1)).findIdx? q with
    | none=>rfl
    | some j=>
     show some (Lo.ret (r ((i + 1 + j:Nat):Int)))=some (Lo.ret (r ((i + (j + 1):Nat):Int)))
     rw [show i + 1 + j=i + (j + 1) by omega]
  ·rw [lt_dec,decide_eq_false hi,cond_false,List.drop_eq_nil_of_le (by omega)]
   have:i=xs.length:=by omega
   subst this;rfl
theorem eqls {α:Type} [BEq α] [LawfulBEq α] {L:Nat→Int→Option (Lo Int Bool)} {xs ys:List α}
  (h:∀ n z,L (n + 1) z=(bif decide (z < (xs.length:Int)) then (idx xs z).bind fun x=>(idx ys z).bind fun y=>bif x != y then some (.ret false) else L n (wr (z + (1:Int))) else some (.brk z)))
  (hl:xs.length < 4611686018427387904) (he:xs.length=ys.length) :
  ∀ (n i:Nat),i≤xs.length→xs.length - i < n→L n i=if xs.drop i == ys.drop i then some (.brk (xs.length:Int)) else some (.ret false)
 | 0,i,_,h=>by omega
 | n + 1,i,h1,h2=>by
  rw [h]
  by_cases hi:i < xs.length
  ·have hi2:i < ys.length:=by omega
   rw [lt_dec,decide_eq_true hi,cond_true,idx_nat,List.getElem?_eq_getElem hi,Option.bind_some,idx_nat,List.getElem?_eq_getElem hi2,Option.bind_some,List.drop_eq_getElem_cons hi,List.drop_eq_getElem_cons hi2]
   by_cases hx:xs[i]=ys[i]
   ·rw [show (xs[i] != ys[i])=false by simp [hx],cond_false,wr_nat (by omega),eqls h hl he n (i + 1) (by omega) (by omega)]
    rw [List.cons_beq_cons,show (xs[i] == ys[i])=true by simpa using hx,Bool.true_and]
   ·rw [show (xs[i] != ys[i])=true by simp [hx],cond_true]
    simp [hx]
  ·rw [lt_dec,decide_eq_false hi,cond_false,List.drop_eq_nil_of_le (by omega),List.drop_eq_nil_of_le (by omega)]
   have:i=xs.length:=by omega
   subst this;simp
theorem eqls0 {α:Type} [BEq α] [LawfulBEq α] {L:Nat→Int→Option (Lo Int Bool)} {xs ys:List α} {f:Nat}
  (h:∀ n z,L (n + 1) z=(bif decide (z < (xs.length:Int)) then (idx xs z).bind fun x=>(idx ys z).bind fun y=>bif x != y then some (.ret false) else L n (wr (z + (1:Int))) else some (.brk z)))
  (hl:xs.length < 4611686018427387904) (hf:xs.length < f) :
  (bif ((xs.length:Int) != (ys.length:Int)) then some false else ((L f (0:Int)).bind fun o2=>match o2 with | .brk o2s=>some true | .ret r=>some r))=some (xs == ys):=by
 by_cases he:xs.length=ys.length
 ·rw [show ((xs.length:Int) != (ys.length:Int))=false by simp [he],cond_false]
  have:=eqls h hl he f 0 (by omega) (by omega)
  have h0:((0:Nat):Int)=0:=rfl
  rw [h0,List.drop_zero,List.drop_zero] at this
  rw [this]
  cases xs == ys <;> rfl
 ·rw [show ((xs.length:Int) != (ys.length:Int))=true by simp;omega,cond_true]
  have:xs≠ys:=fun e=>he (by rw [e])
  rw [show (xs == ys)=false by simpa using this]
theorem m53_spec {f:Nat} {xs ys:List Int} (hl:xs.length < 4611686018427387904) (hf:xs.length < f):m53 f xs ys=some (xs == ys):=by
 unfold m53;exact eqls0 (L:=m53_l1 xs ys) (fun _ _=>rfl) hl hf
theorem m194_spec {f:Nat} {xs ys:List Bool} (hl:xs.length < 4611686018427387904) (hf:xs.length < f):m194 f xs ys=some (xs == ys):=by
 unfold m194;exact eqls0 (L:=m194_l1 xs ys) (fun _ _=>rfl) hl hf
theorem m85_spec {f:Nat} {xs ys:List Int} (hl:xs.length < 4611686018427387904) (hf:xs.length < f):m85 f xs ys=some (xs == ys):=by
 unfold m85;exact eqls0 (L:=m85_l1 xs ys) (fun _ _=>rfl) hl hf
theorem m86_spec {f:Nat} {xs ys:List Bool} (hl:xs.length < 4611686018427387904) (hf:xs.length < f):m86 f xs ys=some (xs == ys):=by
 unfold m86;exact eqls0 (L:=m86_l1 xs ys) (fun _ _=>rfl) hl hf
def sst (a b:State):Bool:=(a.Ends == b.Ends) && (a.Valves == b.Valves) && (a.Inputs == b.Inputs) && (a.Values == b.Values) && (a.Timers == b.Timers)
theorem sst_iff {a b:State}:sst a b=true↔a=b:=by
 cases a;cases b
 simp [sst,and_assoc]
theorem sst_comm {a b:State}:sst a b=sst b a:=by
 rw [Bool.eq_iff_iff,sst_iff,sst_iff];exact eq_comm
structure Smst (s:State) (n:Nat):Prop where
 e:s.Ends.length≤n
 v:s.Valves.length≤n
 i:s.Inputs.length≤n
 x:s.Values.length≤n
 t:s.Timers.length≤n
theorem m120_spec {f n:Nat} {a b:State} (h:Smst a n) (hn:n < f) (hn2:n < 4611686018427387904):m120 f a b=some (sst a b):=by
 obtain ⟨h1,h2,h3,h4,h5⟩:=h
 unfold m120 sst
 rw [m53_spec (by omega) (by omega),m194_spec (by omega) (by omega),m194_spec (by omega) (by omega),m194_spec (by omega) (by omega),m53_spec (by omega) (by omega)]
 cases a.Ends == b.Ends <;> cases a.Valves == b.Valves <;> cases a.Inputs == b.Inputs <;> cases a.Values == b.Values <;> cases a.Timers == b.Timers <;> rfl
theorem m23_spec {f n:Nat} {a b:State} (h:Smst a n) (hn:n < f) (hn2:n < 4611686018427387904):m23 f a b=some (sst a b):=by
 obtain ⟨h1,h2,h3,h4,h5⟩:=h
 unfold m23 sst
 rw [m85_spec (by omega) (by omega),m86_spec (by omega) (by omega),m86_spec (by omega) (by omega),m86_spec (by omega) (by omega),m85_spec (by omega) (by omega)]
 cases a.Ends == b.Ends <;> cases a.Valves == b.Valves <;> cases a.Inputs == b.Inputs <;> cases a.Values == b.Values <;> cases a.Timers == b.Timers <;> rfl
def fewst (s:State):Bool:=(((((decide (((s.Ends).length:Int)≤(40:Int))) && (decide (((s.Valves).length:Int)≤(40:Int)))) && (decide (((s.Inputs).length:Int)≤(200:Int)))) && (decide (((s.Values).length:Int)≤(200:Int)))) && (decide (((s.Timers).length:Int)≤(200:Int))))
theorem m48_spec {f:Nat} (s:State):m48 f s=some (fewst s):=rfl
theorem fewst_sm {s:State} (h:fewst s=true):Smst s 200:=by
 unfold fewst at h
 simp at h
 obtain ⟨⟨⟨⟨h1,h2⟩,h3⟩,h4⟩,h5⟩:=h
 constructor <;> omega
theorem m47_sm {f:Nat} {v:Space} (h:m47 f v=some true) (hf:300 < f):∀ s∈v.States,Smst s 200:=by
 have hs:v.States.length≤40∧v.Moves.length≤200:=by
  obtain ⟨b,hb,h1⟩:=m47_spec hf v
  rw [h] at hb
  have:=h1 (Option.some.inj hb).symm
  exact ⟨this.1,this.2.1⟩
 have h1:=srch (L:=m47_l1 f v) (xs:=v.States) (p:=fun _ x=>some (!fewst x)) (q:=fun x=>!fewst x) (r:=fun _=>false) (fun _ _=>rfl) (by omega) (fun _ _ _=>rfl) f 0 (by omega) (by omega)
 have h0:((0:Nat):Int)=0:=rfl
 rw [h0,List.drop_zero] at h1
 cases hc:v.States.findIdx? (fun x=>!fewst x) with
 | some j=>
  exfalso
  rw [hc] at h1
  unfold m47 at h
  rw [decide_eq_false (by omega),decide_eq_false (by omega),Bool.or_false,cond_false,h1] at h
  cases h
 | none=>
  intro s hm
  rw [List.findIdx?_eq_none_iff] at hc
  exact fewst_sm (by simpa using hc s hm)
def plc (l:List State) (s:State):Int:=match l.findIdx? (fun x=>sst s x) with | some j=>(j:Int) | none=>-1
theorem m118_spec {f n:Nat} {l:List State} {s:State} (h:Smst s n) (hn:n < f) (hn2:n < 4611686018427387904) (hl:l.length < f) (hl2:l.length < 4611686018427387904):m118 f l s=some (plc l s):=by
 unfold m118 plc
 have h1:=srch (L:=m118_l1 f l s) (xs:=l) (p:=fun _ x=>m119 f x s) (q:=fun x=>sst s x) (r:=fun z=>z) (fun _ _=>rfl) (by omega) (fun _ x _=>by
  unfold m119;rw [m120_spec h hn hn2];rfl) f 0 (by omega) (by omega)
 have h0:((0:Nat):Int)=0:=rfl
 rw [h0,List.drop_zero] at h1
 rw [h1]
 cases l.findIdx? (fun x=>sst s x) with
 | none=>rfl
 | some j=>show some (((0 + j:Nat)):Int)=_;rw [Nat.zero_add]
theorem m121_spec {f n:Nat} {l:List State} {s:State} (h:∀ x∈l,Smst x n) (hn:n < f) (hn2:n < 4611686018427387904) (hl:l.length < f) (hl2:l.length < 4611686018427387904):m121 f l s=some (plc l s):=by
 unfold m121 plc
 have h1:=srch (L:=m121_l1 f l s) (xs:=l) (p:=fun _ x=>m23 f x s) (q:=fun x=>sst s x) (r:=fun z=>z) (fun _ _=>rfl) (by omega) (fun i x hx=>by
  rw [m23_spec (h x (List.mem_of_getElem? hx)) hn hn2,sst_comm]) f 0 (by omega) (by omega)
 have h0:((0:Nat):Int)=0:=rfl
 rw [h0,List.drop_zero] at h1
 rw [h1]
 cases l.findIdx? (fun x=>sst s x) with
 | none=>rfl
 | some j=>show some (((0 + j:Nat)):Int)=_;rw [Nat.zero_add]
theorem m117_l1_spec (v:Space) (hl:v.States.length≤1000000):∀ (n i:Nat),i≤v.States.length→v.States.length - i < n→∃ z,m117_l1 v n (i,List.replicate i (-1))=some (z,List.replicate v.States.length (-1))
 | 0,i,_,h=>by omega
 | n + 1,i,h1,h2=>by
  unfold m117_l1
  dsimp only
  by_cases hi:i < v.States.length
  ·unfold app
   rw [lt_dec,decide_eq_true hi,cond_true,if_pos (by simp;omega),Option.bind_some,wr_nat (by omega),← List.replicate_succ']
   exact m117_l1_spec v hl n (i + 1) (by omega) (by omega)
  ·rw [lt_dec,decide_eq_false hi,cond_false]
   have:i=v.States.length:=by omega
   subst this;exact ⟨_,rfl⟩
theorem m117_l3_spec (v:Space) (a:Int) (u:Int) (i0:Nat) (hg:Gd_ v.Moves) (hgl:v.Moves.length < 1000000000) (l:List Int) (hlu:idx v.Moves u=some l) (hll:l.length < 4611686018427387904) (z8:Int×List Int×List Int) (hz:z8.1=i0) :
  ∀ (n i:Nat) (st:List Int×List Int),Iv v.Moves a i0 st→st.2[i0]?=some u→i≤l.length→l.length - i < n →
   m117_l3 v z8 n (i,st.1,st.2)=some ((l.length:Int),(brow u (l.drop i) st).1,(brow u (l.drop i) st).2)
 | 0,i,_,_,_,_,h=>by omega
 | n + 1,i,st,h,hu,h1,h2=>by
  unfold m117_l3
  dsimp only
  have hq0:idx st.2 z8.1=some u:=by rw [hz,idx_nat,hu]
  rw [hq0,Option.bind_some,hlu,Option.bind_some]
  by_cases hi:i < l.length
  ·have hx:=List.getElem_mem hi
   have he:Edge v.Moves u l[i]:=⟨l,hlu,hx⟩
   have hxl:=hg.edge he
   have hux:u∈st.2:=List.mem_of_getElem? hu
   have hul:=at_nn (h.q u hux).1
   obtain ⟨h',hgr,_,_⟩:=h.step hg hu he
   rw [lt_dec,decide_eq_true hi,cond_true,Option.bind_some,hlu,Option.bind_some,idx_nat,List.getElem?_eq_getElem hi,Option.bind_some,idx_at hxl.1 (by rw [h.len];exact hxl.2),Option.bind_some]
   have hd:l.drop i=l[i] :: l.drop (i + 1):=List.drop_eq_getElem_cons hi
   rw [hd]
   have hb:brow u (l[i] :: l.drop (i + 1)) st=brow u (l.drop (i + 1)) (bstep u st l[i]):=rfl
   rw [hb,wr_nat (by omega)]
   have ih:=m117_l3_spec v a u i0 hg hgl l hlu hll z8 hz n (i + 1) (bstep u st l[i]) h' (hgr.pre _ _ hu) (by omega) (by omega)
   rw [← ih]
   by_cases hc:at_ st.1 l[i] < 0
   ·have hql:=h.qlen
    have hbd:=h.bnd u
    have hneg:=h.neg u
    rw [decide_eq_true hc,cond_true,Option.bind_some,idx_at hul.1 hul.2,Option.bind_some,Option.bind_some]
    unfold app
    rw [if_pos (by simp;omega),Option.bind_some,Option.bind_some,wr_id (by omega) (by omega)]
    unfold bstep
    rw [if_pos hc]
   ·rw [decide_eq_false hc,cond_false,Option.bind_some]
    unfold bstep
    rw [if_neg hc]
  ·rw [lt_dec,decide_eq_false hi,cond_false]
   rw [List.drop_eq_nil_of_le (by omega)]
   have:i=l.length:=by omega
   subst this;rfl
theorem m117_l2_spec (f:Nat) (v:Space) (a:Int) (hg:Gd_ v.Moves) (hgl:v.Moves.length < 1000000000) (hrow:∀ l∈v.Moves,l.length < f∧l.length < 4611686018427387904) :
  ∀ (n i:Nat) (st:List Int×List Int),Iv v.Moves a i st→v.Moves.length < n + i →
   ∃ z,m117_l2 f v n (i,st.1,st.2)=some (z,(bfs v.Moves n i st).1,(bfs v.Moves n i st).2)
 | 0,i,st,h,h1=>by
  have:=h.qlen;have:=h.il;omega
 | n + 1,i,st,h,h1=>by
  unfold m117_l2 bfs
  have hql:=h.qlen
  dsimp only
  by_cases hi:i < st.2.length
  ·rw [lt_dec,decide_eq_true hi,cond_true]
   have hu:st.2[i]?=some st.2[i]:=List.getElem?_eq_getElem hi
   have hnn:=at_nn (h.q _ (List.getElem_mem hi)).1
   rw [h.len] at hnn
   obtain ⟨l,hl,hlm⟩:=idx_of (xs:=v.Moves) hnn.1 hnn.2
   have hz:((0:Nat):Int)=0:=rfl
   have:=m117_l3_spec v a st.2[i] i hg hgl l hl (hrow l hlm).2 ((i:Int),st.1,st.2) rfl f 0 st h hu (by omega) (by have:=(hrow l hlm).1;omega)
   rw [hz] at this
   rw [this,Option.bind_some,wr_nat (by omega)]
   have h2:=(h.next hg hu)
   rw [hl] at h2
   simp only [Option.getD_some,List.drop_zero] at h2 ⊢
   have ih:=m117_l2_spec f v a hg hgl hrow n (i + 1) _ h2.1 (by omega)
   rw [hu]
   dsimp only
   rw [hl]
   exact ih
  ·rw [lt_dec,decide_eq_false hi,cond_false,List.getElem?_eq_none (by omega)]
   exact ⟨_,rfl⟩
theorem m117_spec {v:Space} {a:Int} (hsh:shp v=0) (hs:v.States.length≤40) (hrow:∀ l∈v.Moves,l.length≤40) (h0:0≤a) (h1:a < v.States.length):m117 FF v a=some (lev v.Moves a):=by
 obtain ⟨hp,hml,hg⟩:=shp_zero hsh
 unfold m117
 obtain ⟨z,hz⟩:=m117_l1_spec v (by omega) FF 0 (by omega) (by unfold FF;omega)
 have e0:((0:Nat):Int)=0:=rfl
 rw [e0,List.replicate_zero] at hz
 rw [hz,Option.bind_some,idx_at h0 (by simpa using h1),Option.bind_some]
 dsimp only
 have hI:=Iv.init (g:=v.Moves) h0 (by omega)
 obtain ⟨z,hz⟩:=m117_l2_spec FF v a hg (by omega) (fun l hl=>⟨by have:=hrow l hl;unfold FF;omega,by have:=hrow l hl;omega⟩) FF 0 _ hI (by unfold FF;omega)
 rw [e0] at hz
 rw [← hml,hz,Option.bind_some]
 have hb:∀ (n i:Nat) (st:List Int×List Int),Iv v.Moves a i st→v.Moves.length < n + i→(bfs v.Moves n i st).1=lev v.Moves a:=fun n i st h hn=>
  Lv.unique (bfs_lv hg n i h hn) (lev_lv hg h0 (by omega))
 rw [hb _ _ _ hI (by unfold FF;omega)]
theorem m50_l1_eq (v:Space):∀ n z,m50_l1 v n z=m49_l1 v n z
 | 0,_=>rfl
 | n + 1,z=>by
  unfold m50_l1 m49_l1
  simp only [m50_l1_eq v n]
theorem m50_eq {f:Nat} {v:Space} (hl:v.Moves.length < f) (hl2:v.Moves.length < 4611686018427387904) (hrow:∀ l∈v.Moves,l.length < f∧l.length < 4611686018427387904):m50 f v=m49 f v:=by
 unfold m50 m49
 rw [m114_spec hl hl2 hrow,m56_spec hl hl2 hrow,m50_l1_eq]
theorem sorted_ext:∀ {a b:List Int},a.Pairwise (· < ·)→b.Pairwise (· < ·)→(∀ k,k∈a↔k∈b)→a=b
 | [],[],_,_,_=>rfl
 | [],y :: b,_,_,h=>absurd ((h y).2 (by simp)) (by simp)
 | x :: a,[],_,_,h=>absurd ((h x).1 (by simp)) (by simp)
 | x :: a,y :: b,ha,hb,h=>by
  obtain ⟨ha1,ha2⟩:=List.pairwise_cons.1 ha
  obtain ⟨hb1,hb2⟩:=List.pairwise_cons.1 hb
  have hxy:x=y:=by
   rcases List.mem_cons.1 ((h x).1 (by simp)) with e | e
   ·exact e
   ·rcases List.mem_cons.1 ((h y).2 (by simp)) with e2 | e2
    ·exact e2.symm
    ·have:=hb1 x e;have:=ha1 y e2;omega
  subst hxy
  rw [sorted_ext ha2 hb2 fun k=>⟨fun hk=>?_,fun hk=>?_⟩]
  ·rcases List.mem_cons.1 ((h k).1 (by simp [hk])) with e | e
   ·subst e;have:=ha1 k hk;omega
   ·exact e
  ·rcases List.mem_cons.1 ((h k).2 (by simp [hk])) with e | e
   ·subst e;have:=hb1 k hk;omega
   ·exact e
theorem m52_l2_spec {v:Space} (hsh:shp v=0) (hs:v.States.length≤40) (hrow:∀ l∈v.Moves,l.length≤40) (z3:Int×List Int) (x6:Int) (i:Nat) (hz:z3.1=i) (hi:i < v.States.length) (l:List Int) (hl:l.length=v.States.length) :
  ∀ (n k:Nat) (b:Bool),k≤l.length→l.length - k < n →
   ∃ z b',m52_l2 FF v z3 x6 l n (b,k)=some (b',z)∧(b'=true↔b=true∧∀ t:Int,(k:Int)≤t→0≤at_ l t→0≤at_ (lev v.Moves t) i)
 | 0,k,_,_,h=>by omega
 | n + 1,k,b,h1,h2=>by
  obtain ⟨hp,hml,hg⟩:=shp_zero hsh
  unfold m52_l2
  dsimp only
  cases b with
  | false=>
   rw [Bool.and_false,cond_false]
   exact ⟨_,_,rfl,by simp⟩
  | true=>
   rw [Bool.and_true]
   by_cases hk:k < l.length
   ·have hA:idx l (k:Int)=some (at_ l k):=idx_at (by omega) (by omega)
    rw [lt_dec,decide_eq_true hk,cond_true,hA,Option.bind_some,wr_nat (by omega)]
    have split:∀ t:Int,(k:Int)≤t→t=k∨((k + 1:Nat):Int)≤t:=fun t _=>by omega
    by_cases ha:at_ l k < 0
    ·rw [decide_eq_true ha,cond_true,Option.bind_some]
     obtain ⟨z,b',h3,h4⟩:=m52_l2_spec hsh hs hrow z3 x6 i hz hi l hl n (k + 1) true (by omega) (by omega)
     refine ⟨z,b',h3,?_⟩
     rw [h4]
     refine and_congr_right fun _=>⟨fun h t ht h0=>?_,fun h t ht h0=>h t (by omega) h0⟩
     rcases split t ht with rfl | h6
     ·omega
     ·exact h t h6 h0
    ·have hL:=lev_lv hg (a:=(k:Int)) (by omega) (by omega)
     rw [decide_eq_false ha,cond_false,m117_spec hsh hs hrow (by omega) (by omega),Option.bind_some,hz,idx_at (by omega) (by rw [hL.len];omega),Option.bind_some,Option.bind_some]
     obtain ⟨z,b',h3,h4⟩:=m52_l2_spec hsh hs hrow z3 x6 i hz hi l hl n (k + 1) (decide (at_ (lev v.Moves k) i≥0)) (by omega) (by omega)
     refine ⟨z,b',h3,?_⟩
     rw [h4,decide_eq_true_iff]
     constructor
     ·rintro ⟨h5,h6⟩
      refine ⟨rfl,fun t ht h0=>?_⟩
      rcases split t ht with rfl | h7
      ·exact h5
      ·exact h6 t h7 h0
     ·rintro ⟨_,h6⟩
      exact ⟨h6 k (Int.le_refl _) (by omega),fun t ht h0=>h6 t (by omega) h0⟩
   ·rw [lt_dec,decide_eq_false hk,cond_false]
    refine ⟨_,_,rfl,?_⟩
    refine ⟨fun h=>⟨h,fun t ht h0=>?_⟩,fun h=>h.1⟩
    have:=at_nn h0;omega
theorem m52_l1_spec {v:Space} (hsh:shp v=0) (hs:v.States.length≤40) (hrow:∀ l∈v.Moves,l.length≤40) :
  ∀ (n i:Nat) (acc:List Int),acc.length≤i→i≤v.States.length→v.States.length - i < n →
   ∃ z r,m52_l1 FF v (lev v.Moves 0) n (i,acc)=some (z,acc ++ r)∧r.Pairwise (· < ·)∧∀ k,k∈r↔(i:Int)≤k∧Rch v.Moves 0 k∧Cm v.Moves k
 | 0,i,_,_,_,h=>by omega
 | n + 1,i,acc,ha,h1,h2=>by
  obtain ⟨hp,hml,hg⟩:=shp_zero hsh
  have hL:=lev_lv hg (Int.le_refl 0) (by omega:(0:Int) < v.Moves.length)
  unfold m52_l1
  by_cases hi:i < v.States.length
  ·dsimp only
   have hA:idx (lev v.Moves 0) (i:Int)=some (at_ (lev v.Moves 0) i):=idx_at (by omega) (by rw [hL.len];omega)
   have hF:=lev_lv hg (a:=(i:Int)) (by omega) (by omega)
   rw [lt_dec,decide_eq_true hi,cond_true,hA,Option.bind_some,m117_spec hsh hs hrow (by omega) (by omega),Option.bind_some]
   obtain ⟨z,b,h3,h4⟩:=m52_l2_spec hsh hs hrow ((i:Int),acc) (at_ (lev v.Moves 0) i) i rfl hi (lev v.Moves i) (by rw [hF.len];omega) FF 0 (decide (at_ (lev v.Moves 0) i≥0)) (by omega) (by rw [hF.len];unfold FF;omega)
   have h0:((0:Nat):Int)=0:=rfl
   rw [h0] at h3
   rw [h3,Option.bind_some]
   dsimp only
   have hb:b=true↔Rch v.Moves 0 i∧Cm v.Moves i:=by
    rw [h4,decide_eq_true_iff,ge_iff_le,hL.rch]
    refine and_congr_right fun _=>⟨fun h k hk=>?_,fun h t _ ht=>?_⟩
    ·have h5:=(hF.rch k).2 hk
     have h6:=at_nn h5
     rw [hF.len] at h6
     exact ((lev_lv hg h6.1 h6.2).rch i).1 (h k (by omega) h5)
    ·have h6:=at_nn ht
     rw [hF.len] at h6
     exact ((lev_lv hg h6.1 h6.2).rch i).2 (h t ((hF.rch t).1 ht))
   rw [wr_nat (by omega)]
   cases hc:b with
   | true=>
    unfold app
    rw [cond_true,if_pos (by simp;omega),Option.bind_some,Option.bind_some]
    obtain ⟨z,r,h5,h6,h7⟩:=m52_l1_spec hsh hs hrow n (i + 1) (acc ++ [(i:Int)]) (by simp;omega) (by omega) (by omega)
    refine ⟨z,(i:Int) :: r,by rw [h5];simp,List.pairwise_cons.2 ⟨fun k hk=>by have:=((h7 k).1 hk).1;omega,h6⟩,fun k=>?_⟩
    rw [List.mem_cons,h7]
    constructor
    ·rintro (rfl | ⟨h8,h9⟩)
     ·exact ⟨by omega,hb.1 hc⟩
     ·exact ⟨by omega,h9⟩
    ·rintro ⟨h8,h9⟩
     by_cases e:k=i
     ·exact .inl e
     ·exact .inr ⟨by omega,h9⟩
   | false=>
    rw [cond_false,Option.bind_some]
    obtain ⟨z,r,h5,h6,h7⟩:=m52_l1_spec hsh hs hrow n (i + 1) acc (by omega) (by omega) (by omega)
    refine ⟨z,r,h5,h6,fun k=>?_⟩
    rw [h7]
    constructor
    ·rintro ⟨h8,h9⟩;exact ⟨by omega,h9⟩
    ·rintro ⟨h8,h9⟩
     refine ⟨?_,h9⟩
     by_cases e:k=i
     ·subst e;rw [hb.2 h9] at hc;cases hc
     ·omega
  ·dsimp only
   rw [lt_dec,decide_eq_false hi,cond_false]
   refine ⟨_,[],by simp;rfl,.nil,fun k=>⟨fun h=>by simp at h,fun ⟨h5,h6,_⟩=>?_⟩⟩
   have:=Rch.lt hg h6 (by omega);omega
theorem m52_spec {v:Space} (hsh:shp v=0) (hs:v.States.length≤40) (hrow:∀ l∈v.Moves,l.length≤40):m52 FF v=m51 FF v:=by
 obtain ⟨hp,hml,hg⟩:=shp_zero hsh
 obtain ⟨r,h1,_,h2,h3⟩:=m51_srt hsh hs hrow
 rw [h1]
 unfold m52
 rw [m56_spec (by unfold FF;omega) (by omega) (fun l hl=>by have:=hrow l hl;unfold FF;omega),hsh,Option.bind_some]
 rw [show ((0:Int) != 0)=false by rfl,cond_false,m117_spec hsh hs hrow (Int.le_refl 0) (by omega),Option.bind_some]
 obtain ⟨z,r2,h4,h5,h6⟩:=m52_l1_spec hsh hs hrow FF 0 [] (by simp) (by omega) (by unfold FF;omega)
 have h0:((0:Nat):Int)=0:=rfl
 rw [h0] at h4
 rw [h4,Option.bind_some]
 have:r2=r:=sorted_ext h5 h2 fun k=>by
  rw [h6,h3]
  refine ⟨fun h=>h.2,fun h=>⟨?_,h⟩⟩
  have:=Rch.lt hg h.1 (by omega);omega
 rw [this];rfl
theorem m59_l2_spec {v:Space} (hsh:shp v=0) (hs:v.States.length≤40) (hrow:∀ l∈v.Moves,l.length≤40) {s:Int} (hsr:0≤s∧s < v.States.length) (x7:List Int) {y:List Int} (hy:Lv (opp v.Moves) s y) (z:Int) (l:List Int) (hl:idx v.Moves z=some l) (hyz:-1≤at_ y z∧at_ y z < 1000000000) (acc:List Int) (hac:acc.length≤1000) :
  ∀ (n k j:Nat),l.length - k < n→(l.drop k).findIdx? (fun x=>at_ y x == at_ y z - 1)=some j →
   m59_l2 FF v s x7 (at_ y z) n (z,(k:Int),acc)=some (at_ l ((k + j:Nat):Int),((k + j:Nat):Int),acc ++ [((k + j:Nat):Int)])
 | 0,k,_,h,_=>by omega
 | n + 1,k,j,h1,h2=>by
  obtain ⟨hp,hml,hg⟩:=shp_zero hsh
  have hlm:=idx_mem hl
  have hlr:=hrow l hlm
  unfold m59_l2
  dsimp only
  rw [hl,Option.bind_some]
  have hk:k < l.length:=by
   rcases Nat.lt_or_ge k l.length with h | h
   ·exact h
   ·rw [List.drop_eq_nil_of_le h] at h2;simp at h2
  have hx:=hg l hlm l[k] (List.getElem_mem hk)
  have hX:=lev_lv hg (a:=l[k]) hx.1 hx.2
  rw [lt_dec,decide_eq_true hk,cond_true,Option.bind_some,idx_nat,List.getElem?_eq_getElem hk,Option.bind_some,m117_spec hsh hs hrow hx.1 (by omega),Option.bind_some,idx_at hsr.1 (by rw [hX.len];omega),Option.bind_some,hX.turn (opp_op hg) hy,wr_id (by omega) (by omega)]
  rw [List.drop_eq_getElem_cons hk,findIdx_cons] at h2
  cases hc:(at_ y l[k] == at_ y z - 1) with
  | true=>
   rw [hc,if_pos rfl] at h2
   obtain rfl:=Option.some.inj h2
   unfold app
   rw [cond_true,if_pos (by simp;omega),Option.bind_some,Nat.add_zero]
   rw [at_idx (x:=l[k]) (by rw [idx_nat];exact List.getElem?_eq_getElem hk)]
  | false=>
   rw [hc,if_neg (by simp)] at h2
   cases h3:(l.drop (k + 1)).findIdx? (fun x=>at_ y x == at_ y z - 1) with
   | none=>rw [h3] at h2;cases h2
   | some j'=>
    rw [h3] at h2
    obtain rfl:j' + 1=j:=Option.some.inj h2
    rw [cond_false,wr_nat (by omega),m59_l2_spec hsh hs hrow hsr x7 hy z l hl hyz acc hac n (k + 1) j' (by omega) h3]
    rw [show k + 1 + j'=k + (j' + 1) by omega]
theorem m59_l1_spec {v:Space} (hsh:shp v=0) (hs:v.States.length≤40) (hrow:∀ l∈v.Moves,l.length≤40) {s:Int} (hsr:0≤s∧s < v.States.length) {y:List Int} (hy:Lv (opp v.Moves) s y) :
  ∀ (d:Nat) (z:Int) (acc:List Int) (n:Nat),at_ y z=d→d < n→acc.length + d≤1000→m59_l1 FF v s n (z,acc)=some (s,acc ++ gp v.Moves y d z)
 | d,z,acc,0,_,h,_=>by omega
 | 0,z,acc,n + 1,hd,h1,h2=>by
  have hz:z=s:=hy.zero hd
  subst hz
  unfold m59_l1
  dsimp only
  rw [show (z != z)=false by simp,cond_false]
  unfold gp;simp
 | d + 1,z,acc,n + 1,hd,h1,h2=>by
  obtain ⟨hp,hml,hg⟩:=shp_zero hsh
  have hop:=opp_op hg
  have hne:z≠s:=fun e=>by subst e;have:=hy.za;omega
  obtain ⟨l,k,hl,hk,hkl,hk2⟩:=hy.move hop hd
  have hzb:=idx_some hl
  have hb:=hy.bnd z
  rw [opp_len] at hb
  have hX:=lev_lv hg (a:=z) (by omega) (by omega)
  unfold m59_l1
  dsimp only
  rw [show (z != s)=true by simpa using hne,cond_true,m117_spec hsh hs hrow (by omega) (by omega),Option.bind_some,idx_at hsr.1 (by rw [hX.len];omega),Option.bind_some,hX.turn hop hy]
  have h3:=m59_l2_spec hsh hs hrow hsr (lev v.Moves z) hy z l hl (by omega) acc (by omega) FF 0 k (by have:=hrow l (idx_mem hl);unfold FF;omega) (by rw [List.drop_zero];exact hk)
  have h0:((0:Nat):Int)=0:=rfl
  rw [h0] at h3
  rw [h3,Option.bind_some,Nat.zero_add]
  dsimp only
  rw [m59_l1_spec hsh hs hrow hsr hy d (at_ l k) (acc ++ [(k:Int)]) n hk2 (by omega) (by simp;omega)]
  rw [gp,hl]
  dsimp only [Option.getD_some]
  rw [hk]
  simp
theorem m59_spec {v:Space} (hsh:shp v=0) (hs:v.States.length≤40) (hrow:∀ l∈v.Moves,l.length≤40) {s:Int}:m59 FF v s=some (pth v s):=by
 obtain ⟨hp,hml,hg⟩:=shp_zero hsh
 unfold m59 pth
 rw [m56_spec (by unfold FF;omega) (by omega) (fun l hl=>by have:=hrow l hl;unfold FF;omega),hsh,Option.bind_some,show ((0:Int) != 0)=false by rfl,cond_false]
 by_cases hr:s < 0∨(v.States.length:Int)≤s
 ·rw [if_pos hr]
  have:(decide (s < (0:Int)) || decide (s≥(v.States.length:Int)))=true:=by simpa using hr
  rw [this];rfl
 ·rw [if_neg hr]
  have:(decide (s < (0:Int)) || decide (s≥(v.States.length:Int)))=false:=by simp;omega
  have hX:=lev_lv hg (a:=0) (Int.le_refl 0) (by omega)
  have hB:=lev_lv (opp_gd hg) (a:=s) (by omega) (by rw [opp_len];omega)
  rw [this,cond_false,m117_spec hsh hs hrow (Int.le_refl 0) (by omega),Option.bind_some,idx_at (by omega) (by rw [hX.len];omega),Option.bind_some,hX.turn (opp_op hg) hB]
  by_cases hd:at_ (lev (opp v.Moves) s) 0 < 0
  ·rw [if_pos hd,decide_eq_true hd];rfl
  ·rw [if_neg hd,decide_eq_false hd,cond_false]
   have hb:=hB.bnd 0
   rw [opp_len] at hb
   rw [m59_l1_spec hsh hs hrow (by omega) hB (at_ (lev (opp v.Moves) s) 0).toNat 0 [] FF (by omega) (by unfold FF;omega) (by simp;omega)]
   rfl
theorem gp_len {g:List (List Int)} {y:List Int}:∀ (n:Nat) (z:Int),(gp g y n z).length≤n
 | 0,z=>by simp [gp]
 | n + 1,z=>by
  unfold gp
  split
  ·have:=gp_len (g:=g) (y:=y) n (at_ ((idx g z).getD []) ‹Nat›);simp;exact gp_len n _
  ·simp
theorem pth_len {v:Space} (hsh:shp v=0) (hs:v.States.length≤40) {s:Int}:(pth v s).1.length≤40:=by
 obtain ⟨hp,hml,hg⟩:=shp_zero hsh
 unfold pth
 split
 ·simp
 ·split
  ·simp
  ·have hB:=lev_lv (opp_gd hg) (a:=s) (by omega) (by rw [opp_len];omega)
   have hb:=hB.bnd 0
   rw [opp_len] at hb
   have:=gp_len (g:=v.Moves) (y:=lev (opp v.Moves) s) (at_ (lev (opp v.Moves) s) 0).toNat 0
   dsimp only;omega
theorem m60_l1_spec {v:Space} (hg:Gd_ v.Moves) (p:List Int) (hpl:p.length < 1000000):∀ (n i:Nat) (z:Int),0≤z→z < v.Moves.length→i≤p.length→p.length - i < n→∃ r,m60_l1 v p n (z,(i:Int))=some r∧m61_l1 v p n (z,(i:Int))=some r
 | 0,i,_,_,_,_,h=>by omega
 | n + 1,i,z,h0,h1,h2,h3=>by
  unfold m60_l1 m61_l1
  dsimp only
  by_cases hi:i < p.length
  ·obtain ⟨l,hl,hlm⟩:=idx_of (xs:=v.Moves) h0 h1
   rw [lt_dec,decide_eq_true hi,cond_true,cond_true,idx_nat,List.getElem?_eq_getElem hi,Option.bind_some,Option.bind_some,hl,Option.bind_some,Option.bind_some,Option.bind_some]
   by_cases ha:p[i] < 0
   ·rw [decide_eq_true ha,cond_true,cond_true,Option.bind_some,Option.bind_some]
    exact ⟨_,rfl,rfl⟩
   ·rw [decide_eq_false ha,cond_false,cond_false,Option.bind_some,Option.bind_some]
    by_cases hb:p[i]≥(l.length:Int)
    ·rw [decide_eq_true hb];exact ⟨_,rfl,rfl⟩
    ·rw [decide_eq_false hb,cond_false,Option.bind_some,cond_false]
     obtain ⟨x,hx,hxm⟩:=idx_of (xs:=l) (i:=p[i]) (by omega) (by omega)
     have hxl:=hg l hlm x hxm
     simp only [Option.bind_some,hx]
     rw [wr_nat (by omega)]
     exact m60_l1_spec hg p hpl n (i + 1) x hxl.1 hxl.2 (by omega) (by omega)
  ·rw [lt_dec,decide_eq_false hi,cond_false,cond_false]
   exact ⟨_,rfl,rfl⟩
theorem m60_spec {v:Space} (hs:v.Moves.length≤200) (hrow:∀ l∈v.Moves,l.length≤40) {p:List Int} (hp:p.length≤200):∃ r,m60 FF v p=some r∧m61 FF v p=some r:=by
 unfold m60 m61
 rw [m114_spec (by unfold FF;omega) (by omega) (fun l hl=>by have:=hrow l hl;unfold FF;omega),m56_spec (by unfold FF;omega) (by omega) (fun l hl=>by have:=hrow l hl;unfold FF;omega),Option.bind_some,Option.bind_some]
 by_cases hsh:shp v=0
 ·obtain ⟨hp0,hml,hg⟩:=shp_zero hsh
  rw [hsh,show ((0:Int) != 0)=false by rfl,cond_false,cond_false]
  obtain ⟨r,h1,h2⟩:=m60_l1_spec hg p (by omega) FF 0 0 (Int.le_refl 0) (by omega) (by omega) (by unfold FF;omega)
  have h0:((0:Nat):Int)=0:=rfl
  rw [h0] at h1 h2
  rw [h1,h2]
  cases r <;> exact ⟨_,rfl,rfl⟩
 ·rw [show (shp v != 0)=true by simpa using hsh,cond_true,cond_true]
  exact ⟨_,rfl,rfl⟩
theorem paths_true (v:Space) (to:Int) (p:List Int):m11 FF v to p=some true:=by
 unfold m11 m28
 rw [Option.bind_some]
 obtain ⟨b,hb,hfew⟩:=m47_spec (f:=FF) (by unfold FF;omega) v
 rw [hb,Option.bind_some]
 cases b with
 | false=>rw [show (!false)=true by rfl,Bool.true_or,cond_true,m20_spec];rfl
 | true=>
  obtain ⟨hs,hm,hrow⟩:=hfew rfl
  rw [show (!true)=false by rfl,Bool.false_or]
  by_cases hp:((p.length:Int) > 200)
  ·rw [decide_eq_true hp,cond_true,m20_spec];rfl
  ·rw [decide_eq_false hp,cond_false]
   obtain ⟨r,h1,h2⟩:=m60_spec (v:=v) hm hrow (p:=p) (by omega)
   have hP:∃ q:List Int×Int,m57 FF v to=some q∧m59 FF v to=some q∧q.1.length≤40:=by
    by_cases hsh:shp v=0
    ·exact ⟨pth v to,m57_spec hsh hs hrow,m59_spec hsh hs hrow,pth_len hsh hs⟩
    ·refine ⟨([],shp v),?_,?_,by simp⟩
     ·unfold m57
      rw [m114_spec (by unfold FF;omega) (by omega) (fun l hl=>by have:=hrow l hl;unfold FF;omega),Option.bind_some,show (shp v != 0)=true by simpa using hsh,cond_true]
     ·unfold m59
      rw [m56_spec (by unfold FF;omega) (by omega) (fun l hl=>by have:=hrow l hl;unfold FF;omega),Option.bind_some,show (shp v != 0)=true by simpa using hsh,cond_true]
   obtain ⟨q,h3,h4,h5⟩:=hP
   rw [h3,Option.bind_some,Option.bind_some,h4,Option.bind_some,h1,Option.bind_some,Option.bind_some,h2,Option.bind_some,m53_spec (by omega) (by unfold FF;omega),Option.bind_some]
   simp only [beq_self_eq_true,Bool.and_true,cond_true,m20_spec,Option.bind_some]
theorem stops_true (v:Space) (s:State):m9 FF v s=some true:=by
 unfold m9 m28
 rw [Option.bind_some]
 obtain ⟨b,hb,hfew⟩:=m47_spec (f:=FF) (by unfold FF;omega) v
 rw [hb,Option.bind_some]
 cases b with
 | false=>rw [show (!false)=true by rfl,cond_true,Option.bind_some,cond_true,m20_spec];rfl
 | true=>
  obtain ⟨hs,hm,hrow⟩:=hfew rfl
  have hsm:=m47_sm hb (by unfold FF;omega)
  rw [show (!true)=false by rfl,cond_false,m48_spec,Option.bind_some,Option.bind_some]
  cases hw:fewst s with
  | false=>rw [show (!false)=true by rfl,cond_true,m20_spec];rfl
  | true=>
   have hss:=fewst_sm hw
   rw [show (!true)=false by rfl,cond_false]
   have hrow':∀ l∈v.Moves,l.length < FF∧l.length < 4611686018427387904:=fun l hl=>by have:=hrow l hl;unfold FF;omega
   have hmF:v.Moves.length < FF:=by unfold FF;omega
   have hA:∃ q:List Int×Int,m49 FF v=some q∧m50 FF v=some q∧q.1.length≤40:=by
    rw [m50_eq hmF (by omega) hrow']
    by_cases hsh:shp v=0
    ·obtain ⟨r,h1,h2,_⟩:=m49_spec hsh hs hrow
     exact ⟨_,h1,h1,h2⟩
    ·have:m49 FF v=some ([],shp v):=by
      unfold m49
      rw [m114_spec hmF (by omega) hrow',Option.bind_some,show (shp v != 0)=true by simpa using hsh,cond_true]
     exact ⟨_,this,this,by simp⟩
   have hC:∃ q:List Int×Int,m51 FF v=some q∧m52 FF v=some q∧q.1.length≤40:=by
    by_cases hsh:shp v=0
    ·obtain ⟨r,h1,h2,_⟩:=m51_spec hsh hs hrow
     rw [m52_spec hsh hs hrow]
     exact ⟨_,h1,h1,h2⟩
    ·refine ⟨([],shp v),?_,?_,by simp⟩
     ·unfold m51
      rw [m114_spec hmF (by omega) hrow',Option.bind_some,show (shp v != 0)=true by simpa using hsh,cond_true]
     ·unfold m52
      rw [m56_spec hmF (by omega) hrow',Option.bind_some,show (shp v != 0)=true by simpa using hsh,cond_true]
   have hF:∃ q:Int×Int,m54 FF v s=some q∧m55 FF v s=some q:=by
    unfold m54 m55
    rw [m114_spec hmF (by omega) hrow',m56_spec hmF (by omega) hrow',Option.bind_some,Option.bind_some]
    by_cases hsh:shp v=0
    ·rw [hsh,show ((0:Int) != 0)=false by rfl,cond_false,cond_false,m118_spec hss (by unfold FF;omega) (by omega) (by unfold FF;omega) (by omega),m121_spec hsm (by unfold FF;omega) (by omega) (by unfold FF;omega) (by omega)]
     simp only [Option.bind_some]
     cases decide (plc v.States s < 0) <;> exact ⟨_,rfl,rfl⟩
    ·rw [show (shp v != 0)=true by simpa using hsh,cond_true,cond_true]
     exact ⟨_,rfl,rfl⟩
   obtain ⟨q1,a1,a2,a3⟩:=hA
   obtain ⟨q2,c1,c2,c3⟩:=hC
   obtain ⟨q3,f1,f2⟩:=hF
   rw [a1,Option.bind_some,Option.bind_some,a2,Option.bind_some,c1,Option.bind_some,Option.bind_some,c2,Option.bind_some,m53_spec (by omega) (by unfold FF;omega),Option.bind_some,m53_spec (by omega) (by unfold FF;omega)]
   simp only [beq_self_eq_true,bne_self_eq_false,Bool.not_true,Bool.or_false,cond_false,Option.bind_some,f1,f2,Bool.and_true,cond_true,m20_spec]
end Go.Pn

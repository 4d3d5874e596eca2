/- The statement TopFaultsSeen, as its tied card: the Go function returns true, and its arguments read as they did, for every input. No condition is added. -/
import Derived.Test.YtokjdeanofohoaaGreatDoorAp6
import Derived.Test.YtokjdeanofohoaaGreatDoorAp0
set_option synthInstance.checkSynthOrder false
set_option synthInstance.maxSize 10000
set_option synthInstance.maxHeartbeats 400000
set_option maxRecDepth 100000
set_option maxHeartbeats 4000000
set_option linter.unusedVariables false
set_option linter.unusedSimpArgs false
set_option linter.defProp false
namespace Go.Proofs.YtokjdeanofohoaaGreatDoor
open Go Go.ChangeShapes Go.WideShapes Go.ChangeAt Go.RowKit Go.Pn
theorem rd107:Rdt Tryz.prog 107 Ab:=rdst (g:=fun b=>⟨b.1,b.2⟩) (fun _=>rfl) Tryz.underlying107 (by kernel_rfl) (Qb rfl (by kernel_rfl) (rdi Tryz.underlying3) (Wa rfl (by kernel_rfl) (rdb Tryz.underlying4)))
theorem rd76:Rdt Tryz.prog 76 (List Ab):=rdl Tryz.underlying76 (by kernel_rfl) (by decide) rd107
theorem rd78:Rdt Tryz.prog 78 Step:=rdst (g:=fun b=>⟨b.1,b.2⟩) (fun _=>rfl) Tryz.underlying78 (by kernel_rfl) (Qb rfl (by kernel_rfl) rd76 (Wa rfl (by kernel_rfl) (rdi Tryz.underlying3)))
theorem rd22:Rdt Tryz.prog 22 (List Step):=rdl Tryz.underlying22 (by kernel_rfl) (by decide) rd78
theorem rd24:Rdt Tryz.prog 24 Ah:=rdst (g:=fun b=>⟨b.1,b.2⟩) (fun _=>rfl) Tryz.underlying24 (by kernel_rfl) (Qb rfl (by kernel_rfl) (rdi Tryz.underlying3) (Wa rfl (by kernel_rfl) rd22))
theorem rd26:Rdt Tryz.prog 26 Fault:=rdst (g:=fun b=>⟨b.1,b.2⟩) (fun _=>rfl) Tryz.underlying26 (by kernel_rfl) (Qb rfl (by kernel_rfl) (rdi Tryz.underlying3) (Wa rfl (by kernel_rfl) (rdi Tryz.underlying3)))
theorem hTb {W:World} (h:laidMetH Tryz.prog laid3 W) {v:Value}:TbT.p [] No W v:=by
 rw [MakeChecks.laidMetH_plain _ _ _ (by kernel_rfl)] at h
 have h2 : Lib.TabIs Tryz.prog W "pneumatic/group.bits" .u64 bitT := Lib.tabIs_of_head (g := 0) (t := 211) (e := 159) (n := 6) (rest := []) (by kernel_rfl) (by kernel_rfl) Tryz.underlying211 Tryz.underlying159 (by kernel_rfl) (by kernel_rfl) (Go.laidMet.tail (Go.laidMet.tail (Go.laidMet.tail h)))
 have hg : Tryz.prog.globalNamed "pneumatic/group.bits" = some 0 := by kernel_rfl
 refine ⟨rfl,0,hg,?_,fun h=>h,h2⟩
 unfold Lib.TabIs World.var? at h2
 rw [hg,Option.bind_some] at h2
 cases he:W.heap[0]? with
 | none=>rw [he] at h2;cases h2
 | some o=>exact (Array.getElem?_eq_some_iff.1 he).1
theorem hps3:∀ t∈Tryz.f3.params.toList,Tryz.prog.readableRec t=true∧t < Tryz.prog.types.size:=by
 rw [Tryz.params3]
 intro t ht
 have ht:t∈[24,26]:=ht
 have hall:([24,26].all fun u=>Tryz.prog.readableRec u && decide (u < Tryz.prog.types.size))=true:=by kernel_rfl
 simpa using List.all_eq_true.1 hall t ht
theorem calls3 {W:World} {v0:Value} {x0:Ah} {v1:Value} {x1:Fault} (h0:(TV (Va x0)).p [] No W v0) (h1:(Va x1).p [] No W v1):Calls Tryz.prog 3 #[v0,v1] W fun e W'=>e=.returned (.bool true)∧Below W.heap.size W W':=by
 refine ((s3 FF x0 x1 true (Tx x0 x1)) [v0,v1] No W (fun _ h=>h.elim) ⟨h0,h1,trivial⟩).2.mono ?_
 rintro e W' ⟨u,rfl,hx,F,_,_,hF,cs,hv,hr⟩
 refine ⟨?_,hx.below⟩
 have hr:cs=[.bool true]:=hr
 subst hr
 rw [hv];rfl
set_option maxRecDepth 100000 in
theorem Eg (os:Os) (started:os.Started) (H:Type) (enc:TypeId×Value→H) :
  ReturnsInHanded {} Tryz.checked os 3 .any (fun w args=>(Rows.topFaultsSeenSpec.pre enc Tryz.prog Tryz.f3 [] false w args∧laidMetH Tryz.prog laid3 w)∧sizedMet enc Tryz.prog Tryz.f3 (OpenSpec.ofChange Rows.topFaultsSeenSpec) false w args)
   (Rows.topFaultsSeenSpec.post enc Tryz.prog Tryz.f3 false true false false):=by
 refine returnsInHanded_of_change_and (C:=Tryz.checked) (X:=fun w _=>laidMetH Tryz.prog laid3 w) (fun _ _ _ hh h=>h.of_heap hh) own started (by kernel_rfl) Tryz.func3
  (ChangeSpec.witness_shaped (enc:=enc) (C:=Tryz.checked) (os:=os) (X:=fun w _=>laidMetH Tryz.prog laid3 w) false (World.laidAll Tryz.prog os laid3) #[.agg #[.int .i64 0,.slice none 0 0],.agg #[.int .i64 0,.int .i64 0]] 8 (World.laidAll_os _ _ _)
   (World.shaped_of_ZipB (by kernel_rfl) (by kernel_rfl)) (by kernel_rfl) (by kernel_rfl) (by kernel_rfl) (laid_met os _)) ?_
 intro W base args ds gs before hval0 hW hc _ hL _
 have hval:∀ (j:Nat) t v,Tryz.f3.params[j]?=some t→args[j]?=some v→Value.okWide Tryz.prog W .any base t v:=hval0
 have hW':=hW
 obtain ⟨p,q,hA0,hV,rfl,_,_⟩:=hW
 have hA:DataW.TrodAll enc Tryz.prog W 0 (fun _=>true) true Tryz.f3.params.toList args.toList ds p:=hA0
 rw [Tryz.params3] at hA hval
 obtain ⟨v0,v1,d0,d1,p0,p1,rfl,rfl,rfl,h0,h1⟩:=trodAll_two hA
 obtain ⟨x0,hx0⟩:=Qm Tryz.underlying24 rfl rd24 (hval 0 24 v0 rfl rfl) h0
 have hx0:=(⟨hx0,hTb hL⟩:(TV (Va x0)).p [] No W v0)
 obtain ⟨x1,hx1⟩:=Qm Tryz.underlying26 rfl rd26 (hval 1 26 v1 rfl rfl) h1
 refine (calls3 hx0 hx1).mono fun e W' ⟨he,hB⟩=>?_
 subst he
 exact ⟨_,rfl,Xv (P:=Tryz.prog) laidOut hps3 (tb:=4) (by kernel_rfl) Tryz.underlying4 rfl ⟨rfl,rfl,rfl⟩ hW' hB⟩
theorem ip3:(Rows.topFaultsSeenRow.inPlace == Tryz.prog.inPlace 3)=true:=by kernel_rfl
theorem uf3:(Rows.topFaultsSeenRow.unfollowed == Tryz.prog.unfollowed 3)=true:=by kernel_rfl
theorem rc3:(Rows.topFaultsSeenRow.recurses == Tryz.prog.recurses 3)=true:=by kernel_rfl
theorem nm3:(Rows.topFaultsSeenRow.named == Tryz.prog.varsNamed 3)=true:=by kernel_rfl
theorem gb3:false=Rows.topFaultsSeenRow.goesBy Tryz.prog:=by kernel_rfl
theorem closed3:joinedFacts Tryz.prog 3 Tryz.f3 Rows.topFaultsSeenSpec Rows.topFaultsSeenRow=true:=by
 unfold joinedFacts
 simp only [Bool.and_eq_true]
 refine ⟨⟨⟨⟨⟨⟨⟨⟨⟨⟨⟨⟨⟨⟨⟨⟨⟨⟨⟨⟨⟨⟨⟨⟨⟨⟨⟨⟨⟨⟨⟨?_,?_⟩,?_⟩,?_⟩,?_⟩,?_⟩,?_⟩,?_⟩,?_⟩,?_⟩,?_⟩,?_⟩,?_⟩,?_⟩,?_⟩,?_⟩,?_⟩,?_⟩,?_⟩,?_⟩,?_⟩,?_⟩,?_⟩,?_⟩,?_⟩,?_⟩,?_⟩,?_⟩,?_⟩,?_⟩,?_⟩,?_⟩
 ·kernel_rfl
 ·exact laidOut
 ·exact mapsRow
 ·kernel_rfl
 ·kernel_rfl
 ·kernel_rfl
 ·kernel_rfl
 ·kernel_rfl
 ·kernel_rfl
 ·exact ip3
 ·exact uf3
 ·exact rc3
 ·exact nm3
 ·kernel_rfl
 ·kernel_rfl
 ·kernel_rfl
 ·kernel_rfl
 ·kernel_rfl
 ·kernel_rfl
 ·kernel_rfl
 ·kernel_rfl
 ·kernel_rfl
 ·exact beq_iff_eq.2 plainK.symm
 ·kernel_rfl
 ·exact stopsH
 ·exact mayE
 ·exact beq_iff_eq.2 liftsF.symm
 ·exact beq_iff_eq.2 makeP
 ·kernel_rfl
 ·kernel_rfl
 ·kernel_rfl
 ·kernel_rfl
theorem Fu:Rows.TopFaultsSeenSaid:=
 OpenClaim.holds_of_wide 3 Tryz.f3 rfl rfl rfl rfl rfl rfl rfl ⟨rfl,rfl,rfl,rfl,rfl⟩ rfl rfl rfl rfl rfl (by kernel_rfl) Tryz.func3 closed3
  (of_decide_eq_true (by kernel_rfl)) (by unfold Func.isWrapper;first | (rw [if_pos (by decide +kernel)];kernel_rfl) | (rw [if_neg (by decide +kernel)];exact ⟨rfl,rfl⟩))
  (fun os started H enc _=>Eg os started H enc)
theorem topFaultsSeen_card:Rows.TopFaultsSeenCardSaid:=
 Claim7.holds_tied_plain_at .later [] [.data, .data, .data, .data] true (true, "f1a708414cd019405daf7e1143bb7d9310917d24f86495077935f9cb4b43f5ed") false Fu (fun _ h => by cases h) (by kernel_rfl) (fun _ h => by cases h) topFaultsSeen_row_tie rfl ⟨rfl, rfl⟩ mainI rfl
  (fun f fn hf hfn=>by
   obtain rfl:f=3:=Option.some.inj ((show Tryz.prog.funcNamed Rows.topFaultsSeenRow.func=some 3 by kernel_rfl).symm.trans hf) |>.symm
   obtain rfl:fn=Tryz.f3:=(Option.some.inj (Tryz.func3.symm.trans hfn)).symm
   exact ⟨looksN,fun j t ht=>by
    rw [Tryz.params3] at ht
    have hm:t∈[24,26]:=by simpa using Array.mem_of_getElem? ht
    have hall:([24,26].all fun u=>!Tryz.prog.wantsStandIn u)=true:=by kernel_rfl
    exact (show Tryz.prog.wantsStandIn t=false by simpa using List.all_eq_true.1 hall t hm)⟩)
  gb3
end Go.Proofs.YtokjdeanofohoaaGreatDoor

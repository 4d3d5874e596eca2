/- The statement OverlapGroups, as its tied card: the Go function returns true, and its arguments read as they did, for every input. No condition is added. -/
import Derived.Test.YtohmmpdeoahmmaaGreatDoorEp5
import Derived.Test.YtohmmpdeoahmmaaGreatDoorEp0
set_option synthInstance.checkSynthOrder false
set_option synthInstance.maxSize 10000
set_option synthInstance.maxHeartbeats 400000
set_option maxRecDepth 100000
set_option maxHeartbeats 4000000
set_option linter.unusedVariables false
set_option linter.unusedSimpArgs false
set_option linter.defProp false
namespace Go.Proofs.YtohmmpdeoahmmaaGreatDoor
open Go Go.ChangeShapes Go.WideShapes Go.ChangeAt Go.RowKit Go.Pn
theorem rd69:Rdt Tryz.prog 69 Ab:=i6 (g:=fun b=>⟨b.1,b.2⟩) (fun _=>rfl) Tryz.underlying69 (by kernel_rfl) (AN rfl (by kernel_rfl) (pC Tryz.underlying3) (G7 rfl (by kernel_rfl) (rdb Tryz.underlying4)))
theorem rd59:Rdt Tryz.prog 59 (List Ab):=qA Tryz.underlying59 (by kernel_rfl) (by decide) rd69
theorem rd64:Rdt Tryz.prog 64 Step:=i6 (g:=fun b=>⟨b.1,b.2⟩) (fun _=>rfl) Tryz.underlying64 (by kernel_rfl) (AN rfl (by kernel_rfl) rd59 (G7 rfl (by kernel_rfl) (pC Tryz.underlying3)))
theorem rd22:Rdt Tryz.prog 22 (List Step):=qA Tryz.underlying22 (by kernel_rfl) (by decide) rd64
theorem rd24:Rdt Tryz.prog 24 Ai:=i6 (g:=fun b=>⟨b.1,b.2⟩) (fun _=>rfl) Tryz.underlying24 (by kernel_rfl) (AN rfl (by kernel_rfl) (pC Tryz.underlying3) (G7 rfl (by kernel_rfl) rd22))
theorem pP:∀ t∈Tryz.f3.params.toList,Tryz.prog.readableRec t=true∧t < Tryz.prog.types.size:=by
 rw [Tryz.params3]
 intro t ht
 have ht:t∈[24]:=ht
 have hall:([24].all fun u=>Tryz.prog.readableRec u && decide (u < Tryz.prog.types.size))=true:=by kernel_rfl
 simpa using List.all_eq_true.1 hall t ht
theorem jK {W:World} {v0:Value} {x0:Ai} (h0:(Va x0).p [] No W v0):Calls Tryz.prog 3 #[v0] W fun e W'=>e=.returned (.bool true)∧Below W.heap.size W W':=by
 refine ((s3 FF x0 true (AH x0)) [v0] No W (fun _ h=>h.elim) ⟨h0,trivial⟩).2.mono ?_
 rintro e W' ⟨u,rfl,hx,F,_,_,hF,cs,hv,hr⟩
 refine ⟨?_,hx.below⟩
 have hr:cs=[.bool true]:=hr
 subst hr
 rw [hv];rfl
set_option maxRecDepth 100000 in
theorem Hk (os:Os) (started:os.Started) (H:Type) (enc:TypeId×Value→H) :
  ReturnsInHanded {} Tryz.checked os 3 .any (fun w args=>(Rows.overlapGroupsSpec.pre enc Tryz.prog Tryz.f3 [] false w args∧laidMetH Tryz.prog laid3 w)∧sizedMet enc Tryz.prog Tryz.f3 (OpenSpec.ofChange Rows.overlapGroupsSpec) false w args)
   (Rows.overlapGroupsSpec.post enc Tryz.prog Tryz.f3 false true false false):=by
 refine returnsInHanded_of_change_and (C:=Tryz.checked) (X:=fun w _=>laidMetH Tryz.prog laid3 w) (fun _ _ _ hh h=>h.of_heap hh) own started (by kernel_rfl) Tryz.func3
  (ChangeSpec.witness_shaped (enc:=enc) (C:=Tryz.checked) (os:=os) (X:=fun w _=>laidMetH Tryz.prog laid3 w) false (World.laidAll Tryz.prog os laid3) #[.agg #[.int .i64 0,.slice none 0 0]] 8 (World.laidAll_os _ _ _)
   (World.shaped_of_ZipB (by kernel_rfl) (by kernel_rfl)) (by kernel_rfl) (by kernel_rfl) (by kernel_rfl) (laid_met os _)) ?_
 intro W base args ds gs before hval0 hW hc _ hL _
 have hval:∀ (j:Nat) t v,Tryz.f3.params[j]?=some t→args[j]?=some v→Value.okWide Tryz.prog W .any base t v:=hval0
 have hW':=hW
 obtain ⟨p,q,hA0,hV,rfl,_,_⟩:=hW
 have hA:DataW.TrodAll enc Tryz.prog W 0 (fun _=>true) true Tryz.f3.params.toList args.toList ds p:=hA0
 rw [Tryz.params3] at hA hval
 obtain ⟨v0,d0,rfl,rfl,h0⟩:=trodAll_one hA
 obtain ⟨x0,hx0⟩:=DQ Tryz.underlying24 rfl rd24 (hval 0 24 v0 rfl rfl) h0
 refine (jK hx0).mono fun e W' ⟨he,hB⟩=>?_
 subst he
 exact ⟨_,rfl,D8 (P:=Tryz.prog) laidOut pP (tb:=4) (by kernel_rfl) Tryz.underlying4 rfl ⟨rfl,rfl,rfl⟩ hW' hB⟩
theorem ip3:(Rows.overlapGroupsRow.inPlace == Tryz.prog.inPlace 3)=true:=by kernel_rfl
theorem uf3:(Rows.overlapGroupsRow.unfollowed == Tryz.prog.unfollowed 3)=true:=by kernel_rfl
theorem rc3:(Rows.overlapGroupsRow.recurses == Tryz.prog.recurses 3)=true:=by kernel_rfl
theorem nm3:(Rows.overlapGroupsRow.named == Tryz.prog.varsNamed 3)=true:=by kernel_rfl
theorem gb3:false=Rows.overlapGroupsRow.goesBy Tryz.prog:=by kernel_rfl
theorem gG:joinedFacts Tryz.prog 3 Tryz.f3 Rows.overlapGroupsSpec Rows.overlapGroupsRow=true:=by
 unfold joinedFacts
 simp only [Bool.and_eq_true]
 refine ⟨⟨⟨⟨⟨⟨⟨⟨⟨⟨⟨⟨⟨⟨⟨⟨⟨⟨⟨⟨⟨⟨⟨⟨⟨⟨⟨⟨⟨⟨⟨?_,?_⟩,?_⟩,?_⟩,?_⟩,?_⟩,?_⟩,?_⟩,?_⟩,?_⟩,?_⟩,?_⟩,?_⟩,?_⟩,?_⟩,?_⟩,?_⟩,?_⟩,?_⟩,?_⟩,?_⟩,?_⟩,?_⟩,?_⟩,?_⟩,?_⟩,?_⟩,?_⟩,?_⟩,?_⟩,?_⟩,?_⟩
 ·kernel_rfl
 ·exact laidOut
 ·exact mapsRow
 ·kernel_rfl
 ·kernel_rfl
 ·kernel_rfl
 ·kernel_rfl
 ·kernel_rfl
 ·kernel_rfl
 ·exact ip3
 ·exact uf3
 ·exact rc3
 ·exact nm3
 ·kernel_rfl
 ·kernel_rfl
 ·kernel_rfl
 ·kernel_rfl
 ·kernel_rfl
 ·kernel_rfl
 ·kernel_rfl
 ·kernel_rfl
 ·kernel_rfl
 ·exact beq_iff_eq.2 plainK.symm
 ·kernel_rfl
 ·exact stopsH
 ·exact mayE
 ·exact beq_iff_eq.2 liftsF.symm
 ·exact beq_iff_eq.2 makeP
 ·kernel_rfl
 ·kernel_rfl
 ·kernel_rfl
 ·kernel_rfl
theorem Jt:Rows.OverlapGroupsSaid:=
 OpenClaim.holds_of_wide 3 Tryz.f3 rfl rfl rfl rfl rfl rfl rfl ⟨rfl,rfl,rfl,rfl,rfl⟩ rfl rfl rfl rfl rfl (by kernel_rfl) Tryz.func3 gG
  (of_decide_eq_true (by kernel_rfl)) (by unfold Func.isWrapper;first | (rw [if_pos (by decide +kernel)];kernel_rfl) | (rw [if_neg (by decide +kernel)];exact ⟨rfl,rfl⟩))
  (fun os started H enc _=>Hk os started H enc)
theorem overlapGroups_card:Rows.OverlapGroupsCardSaid:=
 Claim7.holds_tied_plain_at .later [] [.data, .data, .data] true (true, "23d05d18fa3c86235daac5fd9daa4562b67a46c45fa2b321db33d85279808ee3") false Jt (fun _ h => by cases h) (by kernel_rfl) (fun _ h => by cases h) overlapGroups_row_tie rfl ⟨rfl, rfl⟩ mainI rfl
  (fun f fn hf hfn=>by
   obtain rfl:f=3:=Option.some.inj ((show Tryz.prog.funcNamed Rows.overlapGroupsRow.func=some 3 by kernel_rfl).symm.trans hf) |>.symm
   obtain rfl:fn=Tryz.f3:=(Option.some.inj (Tryz.func3.symm.trans hfn)).symm
   exact ⟨looksN,fun j t ht=>by
    rw [Tryz.params3] at ht
    have hm:t∈[24]:=by simpa using Array.mem_of_getElem? ht
    have hall:([24].all fun u=>!Tryz.prog.wantsStandIn u)=true:=by kernel_rfl
    exact (show Tryz.prog.wantsStandIn t=false by simpa using List.all_eq_true.1 hall t hm)⟩)
  gb3
end Go.Proofs.YtohmmpdeoahmmaaGreatDoor

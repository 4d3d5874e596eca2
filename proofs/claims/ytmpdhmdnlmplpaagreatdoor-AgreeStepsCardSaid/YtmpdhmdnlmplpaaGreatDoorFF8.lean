/- The statement AgreeSteps, as its tied card: the Go function returns true, and its arguments read as they did, for every input. No condition is added. -/
import Derived.Test.YtmpdhmdnlmplpaaGreatDoorFp7
import Derived.Test.YtmpdhmdnlmplpaaGreatDoorFp0
set_option synthInstance.checkSynthOrder false
set_option synthInstance.maxSize 10000
set_option synthInstance.maxHeartbeats 400000
set_option maxRecDepth 100000
set_option maxHeartbeats 4000000
set_option linter.unusedVariables false
set_option linter.unusedSimpArgs false
set_option linter.defProp false
namespace Go.Proofs.YtmpdhmdnlmplpaaGreatDoor
open Go Go.ChangeShapes Go.WideShapes Go.ChangeAt Go.RowKit Go.Pn
theorem rd22:Rdt Tryz.prog 22 (List ByteArray):=rdl Tryz.underlying22 (by kernel_rfl) (by decide) (rds Tryz.underlying9)
theorem rd129:Rdt Tryz.prog 129 Go.Pn.Expr:=rdEx Tryz.underlying129 (by kernel_rfl) rfl rfl rfl Tryz.underlying3 Tryz.underlying3 Tryz.underlying127 (by kernel_rfl) (by kernel_rfl) (by kernel_rfl)
theorem rd133:Rdt Tryz.prog 133 Ad:=rdst (g:=fun b=>⟨b.1,b.2.1,b.2.2.1,b.2.2.2.1,b.2.2.2.2.1,b.2.2.2.2.2⟩) (fun _=>rfl) Tryz.underlying133 (by kernel_rfl) (Em rfl (by kernel_rfl) (rds Tryz.underlying9) (Em rfl (by kernel_rfl) (rdi Tryz.underlying3) (Em rfl (by kernel_rfl) rd129 (Em rfl (by kernel_rfl) rd129 (Em rfl (by kernel_rfl) (rdi Tryz.underlying3) (FS rfl (by kernel_rfl) (rdb Tryz.underlying4)))))))
theorem rd23:Rdt Tryz.prog 23 (List Ad):=rdl Tryz.underlying23 (by kernel_rfl) (by decide) rd133
theorem rd24:Rdt Tryz.prog 24 (List Int):=rdl Tryz.underlying24 (by kernel_rfl) (by decide) (rdi Tryz.underlying3)
theorem rd26:Rdt Tryz.prog 26 Aa:=rdst (g:=fun b=>⟨b.1,b.2.1,b.2.2.1,b.2.2.2.1,b.2.2.2.2⟩) (fun _=>rfl) Tryz.underlying26 (by kernel_rfl) (Em rfl (by kernel_rfl) (rdi Tryz.underlying3) (Em rfl (by kernel_rfl) rd22 (Em rfl (by kernel_rfl) rd23 (Em rfl (by kernel_rfl) rd24 (FS rfl (by kernel_rfl) rd24)))))
theorem rd27:Rdt Tryz.prog 27 (List Bool):=rdl Tryz.underlying27 (by kernel_rfl) (by decide) (rdb Tryz.underlying4)
theorem hps8:∀ t∈Tryz.f8.params.toList,Tryz.prog.readableRec t=true∧t < Tryz.prog.types.size:=by
 rw [Tryz.params8]
 intro t ht
 have ht:t∈[26,27,24]:=ht
 have hall:([26,27,24].all fun u=>Tryz.prog.readableRec u && decide (u < Tryz.prog.types.size))=true:=by kernel_rfl
 simpa using List.all_eq_true.1 hall t ht
theorem calls8 {W:World} {v0:Value} {x0:Aa} {v1:Value} {x1:List Bool} {v2:Value} {x2:List Int} (h0:(Va x0).p [] No W v0) (h1:(Va x1).p [] No W v1) (h2:(Va x2).p [] No W v2):Calls Tryz.prog 8 #[v0,v1,v2] W fun e W'=>e=.returned (.bool true)∧Below W.heap.size W W':=by
 refine ((s8 FF x0 x1 x2 true (m8_law x0 x1 x2)) [v0,v1,v2] No W (fun _ h=>h.elim) ⟨h0,h1,h2,trivial⟩).2.mono ?_
 rintro e W' ⟨u,rfl,hx,F,_,_,hF,cs,hv,hr⟩
 refine ⟨?_,hx.below⟩
 have hr:cs=[.bool true]:=hr
 subst hr
 rw [hv];rfl
set_option maxRecDepth 100000 in
theorem Le (os:Os) (started:os.Started) (H:Type) (enc:TypeId×Value→H) :
  ReturnsInHanded {} Tryz.checked os 8 .any (fun w args=>(Rows.agreeStepsSpec.pre enc Tryz.prog Tryz.f8 [] false w args∧laidMetH Tryz.prog laid3 w)∧sizedMet enc Tryz.prog Tryz.f8 (OpenSpec.ofChange Rows.agreeStepsSpec) false w args)
   (Rows.agreeStepsSpec.post enc Tryz.prog Tryz.f8 false true false false):=by
 refine returnsInHanded_of_change_and (C:=Tryz.checked) (X:=fun w _=>laidMetH Tryz.prog laid3 w) (fun _ _ _ hh h=>h.of_heap hh) own started (by kernel_rfl) Tryz.func8
  (ChangeSpec.witness_shaped (enc:=enc) (C:=Tryz.checked) (os:=os) (X:=fun w _=>laidMetH Tryz.prog laid3 w) false (World.laidAll Tryz.prog os laid3) #[.agg #[.int .i64 0,.slice none 0 0,.slice none 0 0,.slice none 0 0,.slice none 0 0],.slice none 0 0,.slice none 0 0] 8 (World.laidAll_os _ _ _)
   (World.shaped_of_ZipB (by kernel_rfl) (by kernel_rfl)) (by kernel_rfl) (by kernel_rfl) (by kernel_rfl) (laid_met os _)) ?_
 intro W base args ds gs before hval0 hW hc _ hL _
 have hval:∀ (j:Nat) t v,Tryz.f8.params[j]?=some t→args[j]?=some v→Value.okWide Tryz.prog W .any base t v:=hval0
 have hW':=hW
 obtain ⟨p,q,hA0,hV,rfl,_,_⟩:=hW
 have hA:DataW.TrodAll enc Tryz.prog W 0 (fun _=>true) true Tryz.f8.params.toList args.toList ds p:=hA0
 rw [Tryz.params8] at hA hval
 obtain ⟨v0,v1,v2,d0,d1,d2,p0,p1,p2,rfl,rfl,rfl,h0,h1,h2⟩:=trodAll_three hA
 obtain ⟨x0,hx0⟩:=AY Tryz.underlying26 rfl rd26 (hval 0 26 v0 rfl rfl) h0
 obtain ⟨x1,hx1⟩:=Xk Tryz.underlying27 rd27 (hval 1 27 v1 rfl rfl) h1
 obtain ⟨x2,hx2⟩:=Xk Tryz.underlying24 rd24 (hval 2 24 v2 rfl rfl) h2
 refine (calls8 hx0 hx1 hx2).mono fun e W' ⟨he,hB⟩=>?_
 subst he
 exact ⟨_,rfl,A9 (P:=Tryz.prog) laidOut hps8 (tb:=4) (by kernel_rfl) Tryz.underlying4 rfl ⟨rfl,rfl,rfl⟩ hW' hB⟩
theorem ip8:(Rows.agreeStepsRow.inPlace == Tryz.prog.inPlace 8)=true:=by kernel_rfl
theorem uf8:(Rows.agreeStepsRow.unfollowed == Tryz.prog.unfollowed 8)=true:=by kernel_rfl
theorem rc8:(Rows.agreeStepsRow.recurses == Tryz.prog.recurses 8)=true:=by kernel_rfl
theorem nm8:(Rows.agreeStepsRow.named == Tryz.prog.varsNamed 8)=true:=by kernel_rfl
theorem gb8:false=Rows.agreeStepsRow.goesBy Tryz.prog:=by kernel_rfl
theorem closed8:joinedFacts Tryz.prog 8 Tryz.f8 Rows.agreeStepsSpec Rows.agreeStepsRow=true:=by
 unfold joinedFacts
 simp only [Bool.and_eq_true]
 refine ⟨⟨⟨⟨⟨⟨⟨⟨⟨⟨⟨⟨⟨⟨⟨⟨⟨⟨⟨⟨⟨⟨⟨⟨⟨⟨⟨⟨⟨⟨⟨?_,?_⟩,?_⟩,?_⟩,?_⟩,?_⟩,?_⟩,?_⟩,?_⟩,?_⟩,?_⟩,?_⟩,?_⟩,?_⟩,?_⟩,?_⟩,?_⟩,?_⟩,?_⟩,?_⟩,?_⟩,?_⟩,?_⟩,?_⟩,?_⟩,?_⟩,?_⟩,?_⟩,?_⟩,?_⟩,?_⟩,?_⟩
 ·kernel_rfl
 ·exact laidOut
 ·exact mapsRow
 ·kernel_rfl
 ·kernel_rfl
 ·kernel_rfl
 ·kernel_rfl
 ·kernel_rfl
 ·kernel_rfl
 ·exact ip8
 ·exact uf8
 ·exact rc8
 ·exact nm8
 ·kernel_rfl
 ·kernel_rfl
 ·kernel_rfl
 ·kernel_rfl
 ·kernel_rfl
 ·kernel_rfl
 ·kernel_rfl
 ·kernel_rfl
 ·kernel_rfl
 ·exact beq_iff_eq.2 plainK.symm
 ·kernel_rfl
 ·exact stopsH
 ·exact mayE
 ·exact beq_iff_eq.2 liftsF.symm
 ·exact beq_iff_eq.2 makeP
 ·kernel_rfl
 ·kernel_rfl
 ·kernel_rfl
 ·kernel_rfl
theorem Ql:Rows.AgreeStepsSaid:=
 OpenClaim.holds_of_wide 8 Tryz.f8 rfl rfl rfl rfl rfl rfl rfl ⟨rfl,rfl,rfl,rfl,rfl⟩ rfl rfl rfl rfl rfl (by kernel_rfl) Tryz.func8 closed8
  (of_decide_eq_true (by kernel_rfl)) (by unfold Func.isWrapper;first | (rw [if_pos (by decide +kernel)];kernel_rfl) | (rw [if_neg (by decide +kernel)];exact ⟨rfl,rfl⟩))
  (fun os started H enc _=>Le os started H enc)
theorem agreeSteps_card:Rows.AgreeStepsCardSaid:=
 Claim7.holds_tied_plain_at .later [] [.data, .data, .data] true (true, "e76bdc307bc27c7181433b03fceb5e883b3b65861bdffc0af918329ba7b4a128") false Ql (fun _ h => by cases h) (by kernel_rfl) (fun _ h => by cases h) agreeSteps_row_tie rfl ⟨rfl, rfl⟩ mainI rfl
  (fun f fn hf hfn=>by
   obtain rfl:f=8:=Option.some.inj ((show Tryz.prog.funcNamed Rows.agreeStepsRow.func=some 8 by kernel_rfl).symm.trans hf) |>.symm
   obtain rfl:fn=Tryz.f8:=(Option.some.inj (Tryz.func8.symm.trans hfn)).symm
   exact ⟨looksN,fun j t ht=>by
    rw [Tryz.params8] at ht
    have hm:t∈[26,27,24]:=by simpa using Array.mem_of_getElem? ht
    have hall:([26,27,24].all fun u=>!Tryz.prog.wantsStandIn u)=true:=by kernel_rfl
    exact (show Tryz.prog.wantsStandIn t=false by simpa using List.all_eq_true.1 hall t hm)⟩)
  gb8
end Go.Proofs.YtmpdhmdnlmplpaaGreatDoor

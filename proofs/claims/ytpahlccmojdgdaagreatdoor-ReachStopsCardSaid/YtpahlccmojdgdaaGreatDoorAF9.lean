/- The statement ReachStops, as its tied card: the Go function returns true, and its arguments read as they did, for every input. No condition is added. -/
import Derived.Test.YtpahlccmojdgdaaGreatDoorAp6
import Derived.Test.YtpahlccmojdgdaaGreatDoorAp0
set_option linter.unusedVariables false
set_option linter.unusedSimpArgs false
namespace Go.Proofs.YtpahlccmojdgdaaGreatDoor
open Go Go.ChangeShapes Go.WideShapes Go.ChangeAt Go.RowKit Go.Pn
theorem rd24:Rdt Tryz.prog 24 (List Int):=rdl Tryz.underlying24 (by kernel_rfl) (by decide) (rdi Tryz.underlying3)
theorem rd27:Rdt Tryz.prog 27 (List Bool):=rdl Tryz.underlying27 (by kernel_rfl) (by decide) (rdb Tryz.underlying4)
theorem rd31:Rdt Tryz.prog 31 State:=rdst (g:=fun b=>⟨b.1,b.2.1,b.2.2.1,b.2.2.2.1,b.2.2.2.2⟩) (fun _=>rfl) Tryz.underlying31 (by kernel_rfl) (fl_cons rfl (by kernel_rfl) rd24 (fl_cons rfl (by kernel_rfl) rd27 (fl_cons rfl (by kernel_rfl) rd27 (fl_cons rfl (by kernel_rfl) rd27 (fl_one rfl (by kernel_rfl) rd24)))))
theorem rd39:Rdt Tryz.prog 39 (List State):=rdl Tryz.underlying39 (by kernel_rfl) (by decide) rd31
theorem rd40:Rdt Tryz.prog 40 (List (List Int)):=rdl Tryz.underlying40 (by kernel_rfl) (by decide) rd24
theorem rd42:Rdt Tryz.prog 42 Space:=rdst (g:=fun b=>⟨b.1,b.2⟩) (fun _=>rfl) Tryz.underlying42 (by kernel_rfl) (fl_cons rfl (by kernel_rfl) rd39 (fl_one rfl (by kernel_rfl) rd40))
theorem hps9:∀ t∈Tryz.f9.params.toList,Tryz.prog.readableRec t=true∧t < Tryz.prog.types.size:=by
 rw [Tryz.params9]
 intro t ht
 have ht:t∈[42,31]:=ht
 have hall:([42,31].all fun u=>Tryz.prog.readableRec u && decide (u < Tryz.prog.types.size))=true:=by kernel_rfl
 simpa using List.all_eq_true.1 hall t ht
theorem calls9 {W:World} {v0:Value} {x0:Space} {v1:Value} {x1:State} (h0:(Va x0).p [] No W v0) (h1:(Va x1).p [] No W v1):Calls Tryz.prog 9 #[v0,v1] W fun e W'=>e=.returned (.bool true)∧Below W.heap.size W W':=by
 refine ((s9 FF x0 x1 true (stops_true x0 x1)) [v0,v1] No W (fun _ h=>h.elim) ⟨h0,h1,trivial⟩).2.mono ?_
 rintro e W' ⟨u,rfl,hx,F,_,_,hF,cs,hv,hr⟩
 refine ⟨?_,hx.below⟩
 have hr:cs=[.bool true]:=hr
 subst hr
 rw [hv];rfl
set_option maxRecDepth 100000 in
theorem reachStops_lifted (os:Os) (started:os.Started) (H:Type) (enc:TypeId×Value→H) :
  ReturnsInHanded {} Tryz.checked os 9 .any (fun w args=>(Rows.reachStopsSpec.pre enc Tryz.prog Tryz.f9 [] false w args∧laidMetH Tryz.prog laid3 w)∧sizedMet enc Tryz.prog Tryz.f9 (OpenSpec.ofChange Rows.reachStopsSpec) false w args)
   (Rows.reachStopsSpec.post enc Tryz.prog Tryz.f9 false true false false):=by
 refine returnsInHanded_of_change_and (C:=Tryz.checked) (X:=fun w _=>laidMetH Tryz.prog laid3 w) (fun _ _ _ hh h=>h.of_heap hh) own started (by kernel_rfl) Tryz.func9
  (ChangeSpec.witness_shaped (enc:=enc) (C:=Tryz.checked) (os:=os) (X:=fun w _=>laidMetH Tryz.prog laid3 w) false (World.laidAll Tryz.prog os laid3) #[.agg #[.slice none 0 0,.slice none 0 0],.agg #[.slice none 0 0,.slice none 0 0,.slice none 0 0,.slice none 0 0,.slice none 0 0]] 8 (World.laidAll_os _ _ _)
   (World.shaped_of_ZipB (by kernel_rfl) (by kernel_rfl)) (by kernel_rfl) (by kernel_rfl) (by kernel_rfl) (laid_met os _)) ?_
 intro W base args ds gs before hval0 hW hc _ hL _
 have hval:∀ (j:Nat) t v,Tryz.f9.params[j]?=some t→args[j]?=some v→Value.okWide Tryz.prog W .any base t v:=hval0
 have hW':=hW
 obtain ⟨p,q,hA0,hV,rfl,_,_⟩:=hW
 have hA:DataW.TrodAll enc Tryz.prog W 0 (fun _=>true) true Tryz.f9.params.toList args.toList ds p:=hA0
 rw [Tryz.params9] at hA hval
 obtain ⟨v0,v1,d0,d1,p0,p1,rfl,rfl,rfl,h0,h1⟩:=trodAll_two hA
 obtain ⟨x0,hx0⟩:=va_struct Tryz.underlying42 rfl rd42 (hval 0 42 v0 rfl rfl) h0
 obtain ⟨x1,hx1⟩:=va_struct Tryz.underlying31 rfl rd31 (hval 1 31 v1 rfl rfl) h1
 refine (calls9 hx0 hx1).mono fun e W' ⟨he,hB⟩=>?_
 subst he
 exact ⟨_,rfl,post_true (P:=Tryz.prog) laidOut hps9 (tb:=4) (by kernel_rfl) Tryz.underlying4 rfl ⟨rfl,rfl,rfl⟩ hW' hB⟩
theorem ip9:(Rows.reachStopsRow.inPlace == Tryz.prog.inPlace 9)=true:=by kernel_rfl
theorem uf9:(Rows.reachStopsRow.unfollowed == Tryz.prog.unfollowed 9)=true:=by kernel_rfl
theorem rc9:(Rows.reachStopsRow.recurses == Tryz.prog.recurses 9)=true:=by kernel_rfl
theorem nm9:(Rows.reachStopsRow.named == Tryz.prog.varsNamed 9)=true:=by kernel_rfl
theorem gb9:false=Rows.reachStopsRow.goesBy Tryz.prog:=by kernel_rfl
theorem closed9:joinedFacts Tryz.prog 9 Tryz.f9 Rows.reachStopsSpec Rows.reachStopsRow=true:=by
 unfold joinedFacts
 simp only [Bool.and_eq_true]
 refine ⟨⟨⟨⟨⟨⟨⟨⟨⟨⟨⟨⟨⟨⟨⟨⟨⟨⟨⟨⟨⟨⟨⟨⟨⟨⟨⟨⟨⟨⟨⟨?_,?_⟩,?_⟩,?_⟩,?_⟩,?_⟩,?_⟩,?_⟩,?_⟩,?_⟩,?_⟩,?_⟩,?_⟩,?_⟩,?_⟩,?_⟩,?_⟩,?_⟩,?_⟩,?_⟩,?_⟩,?_⟩,?_⟩,?_⟩,?_⟩,?_⟩,?_⟩,?_⟩,?_⟩,?_⟩,?_⟩,?_⟩
 ·kernel_rfl
 ·exact laidOut
 ·exact mapsRow
 ·kernel_rfl
 ·kernel_rfl
 ·kernel_rfl
 ·kernel_rfl
 ·kernel_rfl
 ·kernel_rfl
 ·exact ip9
 ·exact uf9
 ·exact rc9
 ·exact nm9
 ·kernel_rfl
 ·kernel_rfl
 ·kernel_rfl
 ·kernel_rfl
 ·kernel_rfl
 ·kernel_rfl
 ·kernel_rfl
 ·kernel_rfl
 ·kernel_rfl
 ·exact beq_iff_eq.2 plainK.symm
 ·kernel_rfl
 ·exact stopsH
 ·exact mayE
 ·exact beq_iff_eq.2 liftsF.symm
 ·exact beq_iff_eq.2 makeP
 ·kernel_rfl
 ·kernel_rfl
 ·kernel_rfl
 ·kernel_rfl
theorem reachStops_said:Rows.ReachStopsSaid:=
 OpenClaim.holds_of_wide 9 Tryz.f9 rfl rfl rfl rfl rfl rfl rfl ⟨rfl,rfl,rfl,rfl,rfl⟩ rfl rfl rfl rfl rfl (by kernel_rfl) Tryz.func9 closed9
  (of_decide_eq_true (by kernel_rfl)) (by unfold Func.isWrapper;first | (rw [if_pos (by decide +kernel)];kernel_rfl) | (rw [if_neg (by decide +kernel)];exact ⟨rfl,rfl⟩))
  (fun os started H enc _=>reachStops_lifted os started H enc)
theorem reachStops_card:Rows.ReachStopsCardSaid:=
 Claim7.holds_tied_plain_at .later [] [.data, .data, .data] true (true, "fee7cef7fc2da380478749124ab1aacab4f32c72ae1009b40b2973cc075cca84") false reachStops_said (fun _ h => by cases h) (by kernel_rfl) (fun _ h => by cases h) reachStops_row_tie rfl ⟨rfl, rfl⟩ mainI rfl
  (fun f fn hf hfn=>by
   obtain rfl:f=9:=Option.some.inj ((show Tryz.prog.funcNamed Rows.reachStopsRow.func=some 9 by kernel_rfl).symm.trans hf) |>.symm
   obtain rfl:fn=Tryz.f9:=(Option.some.inj (Tryz.func9.symm.trans hfn)).symm
   exact ⟨looksN,fun j t ht=>by
    rw [Tryz.params9] at ht
    have hm:t∈[42,31]:=by simpa using Array.mem_of_getElem? ht
    have hall:([42,31].all fun u=>!Tryz.prog.wantsStandIn u)=true:=by kernel_rfl
    exact (show Tryz.prog.wantsStandIn t=false by simpa using List.all_eq_true.1 hall t hm)⟩)
  gb9
end Go.Proofs.YtpahlccmojdgdaaGreatDoor

/- The statement ReachPaths, as its tied card: the Go function returns true, and its arguments read as they did, for every input. No condition is added. -/
import Derived.Test.YtpahlccmojdgdaaGreatDoorAp6
import Derived.Test.YtpahlccmojdgdaaGreatDoorAp0
set_option linter.unusedVariables false
set_option linter.unusedSimpArgs false
namespace Go.Proofs.YtpahlccmojdgdaaGreatDoor
open Go Go.ChangeShapes Go.WideShapes Go.ChangeAt Go.RowKit Go.Pn
theorem rd24:Rdt Tryz.prog 24 (List Int):=rdl Tryz.underlying24 (by kernel_rfl) (by decide) (rdi Tryz.underlying3)
theorem rd27:Rdt Tryz.prog 27 (List Bool):=rdl Tryz.underlying27 (by kernel_rfl) (by decide) (rdb Tryz.underlying4)
theorem rd31:Rdt Tryz.prog 31 State:=rdst (g:=fun b=>⟨b.1,b.2.1,b.2.2.1,b.2.2.2.1,b.2.2.2.2⟩) (fun _=>rfl) Tryz.underlying31 (by kernel_rfl) (fl_cons rfl (by kernel_rfl) rd24 (fl_cons rfl (by kernel_rfl) rd27 (fl_cons rfl (by kernel_rfl) rd27 (fl_cons rfl (by kernel_rfl) rd27 (fl_one rfl (by kernel_rfl) rd24)))))
theorem rd39:Rdt Tryz.prog 39 (List State):=rdl Tryz.underlying39 (by kernel_rfl) (by decide) rd31
theorem rd40:Rdt Tryz.prog 40 (List (List Int)):=rdl Tryz.underlying40 (by kernel_rfl) (by decide) rd24
theorem rd42:Rdt Tryz.prog 42 Space:=rdst (g:=fun b=>⟨b.1,b.2⟩) (fun _=>rfl) Tryz.underlying42 (by kernel_rfl) (fl_cons rfl (by kernel_rfl) rd39 (fl_one rfl (by kernel_rfl) rd40))
theorem hps11:∀ t∈Tryz.f11.params.toList,Tryz.prog.readableRec t=true∧t < Tryz.prog.types.size:=by
 rw [Tryz.params11]
 intro t ht
 have ht:t∈[42,3,24]:=ht
 have hall:([42,3,24].all fun u=>Tryz.prog.readableRec u && decide (u < Tryz.prog.types.size))=true:=by kernel_rfl
 simpa using List.all_eq_true.1 hall t ht
theorem calls11 {W:World} {v0:Value} {x0:Space} {v1:Value} {x1:Int} {v2:Value} {x2:List Int} (h0:(Va x0).p [] No W v0) (h1:(Va x1).p [] No W v1) (h2:(Va x2).p [] No W v2):Calls Tryz.prog 11 #[v0,v1,v2] W fun e W'=>e=.returned (.bool true)∧Below W.heap.size W W':=by
 refine ((s11 FF x0 x1 x2 true (paths_true x0 x1 x2)) [v0,v1,v2] No W (fun _ h=>h.elim) ⟨h0,h1,h2,trivial⟩).2.mono ?_
 rintro e W' ⟨u,rfl,hx,F,_,_,hF,cs,hv,hr⟩
 refine ⟨?_,hx.below⟩
 have hr:cs=[.bool true]:=hr
 subst hr
 rw [hv];rfl
set_option maxRecDepth 100000 in
theorem reachPaths_lifted (os:Os) (started:os.Started) (H:Type) (enc:TypeId×Value→H) :
  ReturnsInHanded {} Tryz.checked os 11 .any (fun w args=>(Rows.reachPathsSpec.pre enc Tryz.prog Tryz.f11 [] false w args∧laidMetH Tryz.prog laid3 w)∧sizedMet enc Tryz.prog Tryz.f11 (OpenSpec.ofChange Rows.reachPathsSpec) false w args)
   (Rows.reachPathsSpec.post enc Tryz.prog Tryz.f11 false true false false):=by
 refine returnsInHanded_of_change_and (C:=Tryz.checked) (X:=fun w _=>laidMetH Tryz.prog laid3 w) (fun _ _ _ hh h=>h.of_heap hh) own started (by kernel_rfl) Tryz.func11
  (ChangeSpec.witness_shaped (enc:=enc) (C:=Tryz.checked) (os:=os) (X:=fun w _=>laidMetH Tryz.prog laid3 w) false (World.laidAll Tryz.prog os laid3) #[.agg #[.slice none 0 0,.slice none 0 0],.int .i64 0,.slice none 0 0] 8 (World.laidAll_os _ _ _)
   (World.shaped_of_ZipB (by kernel_rfl) (by kernel_rfl)) (by kernel_rfl) (by kernel_rfl) (by kernel_rfl) (laid_met os _)) ?_
 intro W base args ds gs before hval0 hW hc _ hL _
 have hval:∀ (j:Nat) t v,Tryz.f11.params[j]?=some t→args[j]?=some v→Value.okWide Tryz.prog W .any base t v:=hval0
 have hW':=hW
 obtain ⟨p,q,hA0,hV,rfl,_,_⟩:=hW
 have hA:DataW.TrodAll enc Tryz.prog W 0 (fun _=>true) true Tryz.f11.params.toList args.toList ds p:=hA0
 rw [Tryz.params11] at hA hval
 obtain ⟨v0,v1,v2,d0,d1,d2,p0,p1,p2,rfl,rfl,rfl,h0,h1,h2⟩:=trodAll_three hA
 obtain ⟨x0,hx0⟩:=va_struct Tryz.underlying42 rfl rd42 (hval 0 42 v0 rfl rfl) h0
 obtain ⟨x1,hx1⟩:=va_int Tryz.underlying3 (hval 1 3 v1 rfl rfl) h1
 obtain ⟨x2,hx2⟩:=va_slice Tryz.underlying24 rd24 (hval 2 24 v2 rfl rfl) h2
 refine (calls11 hx0 hx1 hx2).mono fun e W' ⟨he,hB⟩=>?_
 subst he
 exact ⟨_,rfl,post_true (P:=Tryz.prog) laidOut hps11 (tb:=4) (by kernel_rfl) Tryz.underlying4 rfl ⟨rfl,rfl,rfl⟩ hW' hB⟩
theorem ip11:(Rows.reachPathsRow.inPlace == Tryz.prog.inPlace 11)=true:=by kernel_rfl
theorem uf11:(Rows.reachPathsRow.unfollowed == Tryz.prog.unfollowed 11)=true:=by kernel_rfl
theorem rc11:(Rows.reachPathsRow.recurses == Tryz.prog.recurses 11)=true:=by kernel_rfl
theorem nm11:(Rows.reachPathsRow.named == Tryz.prog.varsNamed 11)=true:=by kernel_rfl
theorem gb11:false=Rows.reachPathsRow.goesBy Tryz.prog:=by kernel_rfl
theorem closed11:joinedFacts Tryz.prog 11 Tryz.f11 Rows.reachPathsSpec Rows.reachPathsRow=true:=by
 unfold joinedFacts
 simp only [Bool.and_eq_true]
 refine ⟨⟨⟨⟨⟨⟨⟨⟨⟨⟨⟨⟨⟨⟨⟨⟨⟨⟨⟨⟨⟨⟨⟨⟨⟨⟨⟨⟨⟨⟨⟨?_,?_⟩,?_⟩,?_⟩,?_⟩,?_⟩,?_⟩,?_⟩,?_⟩,?_⟩,?_⟩,?_⟩,?_⟩,?_⟩,?_⟩,?_⟩,?_⟩,?_⟩,?_⟩,?_⟩,?_⟩,?_⟩,?_⟩,?_⟩,?_⟩,?_⟩,?_⟩,?_⟩,?_⟩,?_⟩,?_⟩,?_⟩
 ·kernel_rfl
 ·exact laidOut
 ·exact mapsRow
 ·kernel_rfl
 ·kernel_rfl
 ·kernel_rfl
 ·kernel_rfl
 ·kernel_rfl
 ·kernel_rfl
 ·exact ip11
 ·exact uf11
 ·exact rc11
 ·exact nm11
 ·kernel_rfl
 ·kernel_rfl
 ·kernel_rfl
 ·kernel_rfl
 ·kernel_rfl
 ·kernel_rfl
 ·kernel_rfl
 ·kernel_rfl
 ·kernel_rfl
 ·exact beq_iff_eq.2 plainK.symm
 ·kernel_rfl
 ·exact stopsH
 ·exact mayE
 ·exact beq_iff_eq.2 liftsF.symm
 ·exact beq_iff_eq.2 makeP
 ·kernel_rfl
 ·kernel_rfl
 ·kernel_rfl
 ·kernel_rfl
theorem reachPaths_said:Rows.ReachPathsSaid:=
 OpenClaim.holds_of_wide 11 Tryz.f11 rfl rfl rfl rfl rfl rfl rfl ⟨rfl,rfl,rfl,rfl,rfl⟩ rfl rfl rfl rfl rfl (by kernel_rfl) Tryz.func11 closed11
  (of_decide_eq_true (by kernel_rfl)) (by unfold Func.isWrapper;first | (rw [if_pos (by decide +kernel)];kernel_rfl) | (rw [if_neg (by decide +kernel)];exact ⟨rfl,rfl⟩))
  (fun os started H enc _=>reachPaths_lifted os started H enc)
theorem reachPaths_card:Rows.ReachPathsCardSaid:=
 Claim7.holds_tied_plain_at .later [] [.data, .data, .data] true (true, "fee7cef7fc2da380478749124ab1aacab4f32c72ae1009b40b2973cc075cca84") false reachPaths_said (fun _ h => by cases h) (by kernel_rfl) (fun _ h => by cases h) reachPaths_row_tie rfl ⟨rfl, rfl⟩ mainI rfl
  (fun f fn hf hfn=>by
   obtain rfl:f=11:=Option.some.inj ((show Tryz.prog.funcNamed Rows.reachPathsRow.func=some 11 by kernel_rfl).symm.trans hf) |>.symm
   obtain rfl:fn=Tryz.f11:=(Option.some.inj (Tryz.func11.symm.trans hfn)).symm
   exact ⟨looksN,fun j t ht=>by
    rw [Tryz.params11] at ht
    have hm:t∈[42,3,24]:=by simpa using Array.mem_of_getElem? ht
    have hall:([42,3,24].all fun u=>!Tryz.prog.wantsStandIn u)=true:=by kernel_rfl
    exact (show Tryz.prog.wantsStandIn t=false by simpa using List.all_eq_true.1 hall t hm)⟩)
  gb11
end Go.Proofs.YtpahlccmojdgdaaGreatDoor

/- The statement OverlapShows, as its tied card: the Go function returns true, and its arguments read as they did, for every input. No condition is added. -/
import Derived.Test.YtkknipanlegofaaGreatDoorJp7
import Derived.Test.YtkknipanlegofaaGreatDoorJp0
set_option synthInstance.checkSynthOrder false
set_option synthInstance.maxSize 10000
set_option synthInstance.maxHeartbeats 400000
set_option maxRecDepth 100000
set_option maxHeartbeats 4000000
set_option linter.unusedVariables false
set_option linter.unusedSimpArgs false
namespace Go.Proofs.YtkknipanlegofaaGreatDoor
open Go Go.ChangeShapes Go.WideShapes Go.ChangeAt Go.RowKit Go.Pn
theorem rd22:Rdt Tryz.prog 22 (List ByteArray):=rdl Tryz.underlying22 (by kernel_rfl) (by decide) (rds Tryz.underlying9)
theorem rd54:Rdt Tryz.prog 54 Go.Pn.Expr:=rdEx Tryz.underlying54 (by kernel_rfl) rfl rfl rfl Tryz.underlying3 Tryz.underlying3 Tryz.underlying52 (by kernel_rfl) (by kernel_rfl) (by kernel_rfl)
theorem rd130:Rdt Tryz.prog 130 Signal:=rdst (g:=fun b=>⟨b.1,b.2.1,b.2.2.1,b.2.2.2.1,b.2.2.2.2.1,b.2.2.2.2.2⟩) (fun _=>rfl) Tryz.underlying130 (by kernel_rfl) (fl_cons rfl (by kernel_rfl) (rds Tryz.underlying9) (fl_cons rfl (by kernel_rfl) (rdi Tryz.underlying3) (fl_cons rfl (by kernel_rfl) rd54 (fl_cons rfl (by kernel_rfl) rd54 (fl_cons rfl (by kernel_rfl) (rdi Tryz.underlying3) (fl_one rfl (by kernel_rfl) (rdb Tryz.underlying4)))))))
theorem rd23:Rdt Tryz.prog 23 (List Signal):=rdl Tryz.underlying23 (by kernel_rfl) (by decide) rd130
theorem rd24:Rdt Tryz.prog 24 (List Int):=rdl Tryz.underlying24 (by kernel_rfl) (by decide) (rdi Tryz.underlying3)
theorem rd26:Rdt Tryz.prog 26 Control:=rdst (g:=fun b=>⟨b.1,b.2.1,b.2.2.1,b.2.2.2.1,b.2.2.2.2⟩) (fun _=>rfl) Tryz.underlying26 (by kernel_rfl) (fl_cons rfl (by kernel_rfl) (rdi Tryz.underlying3) (fl_cons rfl (by kernel_rfl) rd22 (fl_cons rfl (by kernel_rfl) rd23 (fl_cons rfl (by kernel_rfl) rd24 (fl_one rfl (by kernel_rfl) rd24)))))
theorem rd27:Rdt Tryz.prog 27 (List Bool):=rdl Tryz.underlying27 (by kernel_rfl) (by decide) (rdb Tryz.underlying4)
theorem hps9:∀ t∈Tryz.f9.params.toList,Tryz.prog.readableRec t=true∧t < Tryz.prog.types.size:=by
 rw [Tryz.params9]
 intro t ht
 have ht:t∈[26,27]:=ht
 have hall:([26,27].all fun u=>Tryz.prog.readableRec u && decide (u < Tryz.prog.types.size))=true:=by kernel_rfl
 simpa using List.all_eq_true.1 hall t ht
theorem calls9 {W:World} {v0:Value} {x0:Control} {v1:Value} {x1:List Bool} (h0:(Va x0).p [] No W v0) (h1:(Va x1).p [] No W v1):Calls Tryz.prog 9 #[v0,v1] W fun e W'=>e=.returned (.bool true)∧Below W.heap.size W W':=by
 refine ((s9 FF x0 x1 true (shows_true x0 x1)) [v0,v1] No W (fun _ h=>h.elim) ⟨h0,h1,trivial⟩).2.mono ?_
 rintro e W' ⟨u,rfl,hx,F,_,_,hF,cs,hv,hr⟩
 refine ⟨?_,hx.below⟩
 have hr:cs=[.bool true]:=hr
 subst hr
 rw [hv];rfl
set_option maxRecDepth 100000 in
theorem overlapShows_lifted (os:Os) (started:os.Started) (H:Type) (enc:TypeId×Value→H) :
  ReturnsInHanded {} Tryz.checked os 9 .any (fun w args=>(Rows.overlapShowsSpec.pre enc Tryz.prog Tryz.f9 [] false w args∧laidMetH Tryz.prog laid3 w)∧sizedMet enc Tryz.prog Tryz.f9 (OpenSpec.ofChange Rows.overlapShowsSpec) false w args)
   (Rows.overlapShowsSpec.post enc Tryz.prog Tryz.f9 false true false false):=by
 refine returnsInHanded_of_change_and (C:=Tryz.checked) (X:=fun w _=>laidMetH Tryz.prog laid3 w) (fun _ _ _ hh h=>h.of_heap hh) own started (by kernel_rfl) Tryz.func9
  (ChangeSpec.witness_shaped (enc:=enc) (C:=Tryz.checked) (os:=os) (X:=fun w _=>laidMetH Tryz.prog laid3 w) false (World.laidAll Tryz.prog os laid3) #[.agg #[.int .i64 0,.slice none 0 0,.slice none 0 0,.slice none 0 0,.slice none 0 0],.slice none 0 0] 8 (World.laidAll_os _ _ _)
   (World.shaped_of_ZipB (by kernel_rfl) (by kernel_rfl)) (by kernel_rfl) (by kernel_rfl) (by kernel_rfl) (laid_met os _)) ?_
 intro W base args ds gs before hval0 hW hc _ hL _
 have hval:∀ (j:Nat) t v,Tryz.f9.params[j]?=some t→args[j]?=some v→Value.okWide Tryz.prog W .any base t v:=hval0
 have hW':=hW
 obtain ⟨p,q,hA0,hV,rfl,_,_⟩:=hW
 have hA:DataW.TrodAll enc Tryz.prog W 0 (fun _=>true) true Tryz.f9.params.toList args.toList ds p:=hA0
 rw [Tryz.params9] at hA hval
 obtain ⟨v0,v1,d0,d1,p0,p1,rfl,rfl,rfl,h0,h1⟩:=trodAll_two hA
 obtain ⟨x0,hx0⟩:=va_struct Tryz.underlying26 rfl rd26 (hval 0 26 v0 rfl rfl) h0
 obtain ⟨x1,hx1⟩:=va_slice Tryz.underlying27 rd27 (hval 1 27 v1 rfl rfl) h1
 refine (calls9 hx0 hx1).mono fun e W' ⟨he,hB⟩=>?_
 subst he
 exact ⟨_,rfl,post_true (P:=Tryz.prog) laidOut hps9 (tb:=4) (by kernel_rfl) Tryz.underlying4 rfl ⟨rfl,rfl,rfl⟩ hW' hB⟩
theorem ip9:(Rows.overlapShowsRow.inPlace == Tryz.prog.inPlace 9)=true:=by kernel_rfl
theorem uf9:(Rows.overlapShowsRow.unfollowed == Tryz.prog.unfollowed 9)=true:=by kernel_rfl
theorem rc9:(Rows.overlapShowsRow.recurses == Tryz.prog.recurses 9)=true:=by kernel_rfl
theorem nm9:(Rows.overlapShowsRow.named == Tryz.prog.varsNamed 9)=true:=by kernel_rfl
theorem gb9:false=Rows.overlapShowsRow.goesBy Tryz.prog:=by kernel_rfl
theorem closed9:joinedFacts Tryz.prog 9 Tryz.f9 Rows.overlapShowsSpec Rows.overlapShowsRow=true:=by
 unfold joinedFacts
 simp only [Bool.and_eq_true]
 refine ⟨⟨⟨⟨⟨⟨⟨⟨⟨⟨⟨⟨⟨⟨⟨⟨⟨⟨⟨⟨⟨⟨⟨⟨⟨⟨⟨⟨⟨⟨⟨?_,?_⟩,?_⟩,?_⟩,?_⟩,?_⟩,?_⟩,?_⟩,?_⟩,?_⟩,?_⟩,?_⟩,?_⟩,?_⟩,?_⟩,?_⟩,?_⟩,?_⟩,?_⟩,?_⟩,?_⟩,?_⟩,?_⟩,?_⟩,?_⟩,?_⟩,?_⟩,?_⟩,?_⟩,?_⟩,?_⟩,?_⟩
 ·kernel_rfl
 ·exact laidOut
 ·exact mapsRow
 ·kernel_rfl
 ·kernel_rfl
 ·kernel_rfl
 ·kernel_rfl
 ·kernel_rfl
 ·kernel_rfl
 ·exact ip9
 ·exact uf9
 ·exact rc9
 ·exact nm9
 ·kernel_rfl
 ·kernel_rfl
 ·kernel_rfl
 ·kernel_rfl
 ·kernel_rfl
 ·kernel_rfl
 ·kernel_rfl
 ·kernel_rfl
 ·kernel_rfl
 ·exact beq_iff_eq.2 plainK.symm
 ·kernel_rfl
 ·exact stopsH
 ·exact mayE
 ·exact beq_iff_eq.2 liftsF.symm
 ·exact beq_iff_eq.2 makeP
 ·kernel_rfl
 ·kernel_rfl
 ·kernel_rfl
 ·kernel_rfl
theorem overlapShows_said:Rows.OverlapShowsSaid:=
 OpenClaim.holds_of_wide 9 Tryz.f9 rfl rfl rfl rfl rfl rfl rfl ⟨rfl,rfl,rfl,rfl,rfl⟩ rfl rfl rfl rfl rfl (by kernel_rfl) Tryz.func9 closed9
  (of_decide_eq_true (by kernel_rfl)) (by unfold Func.isWrapper;first | (rw [if_pos (by decide +kernel)];kernel_rfl) | (rw [if_neg (by decide +kernel)];exact ⟨rfl,rfl⟩))
  (fun os started H enc _=>overlapShows_lifted os started H enc)
theorem overlapShows_card:Rows.OverlapShowsCardSaid:=
 Claim7.holds_tied_plain_at .later [] [.data, .data, .data] true (true, "e9e273bfdfc6991a24485d2f4e589538819b56a45fb12b38bc5fd08641027949") false overlapShows_said (fun _ h => by cases h) (by kernel_rfl) (fun _ h => by cases h) overlapShows_row_tie rfl ⟨rfl, rfl⟩ mainI rfl
  (fun f fn hf hfn=>by
   obtain rfl:f=9:=Option.some.inj ((show Tryz.prog.funcNamed Rows.overlapShowsRow.func=some 9 by kernel_rfl).symm.trans hf) |>.symm
   obtain rfl:fn=Tryz.f9:=(Option.some.inj (Tryz.func9.symm.trans hfn)).symm
   exact ⟨looksN,fun j t ht=>by
    rw [Tryz.params9] at ht
    have hm:t∈[26,27]:=by simpa using Array.mem_of_getElem? ht
    have hall:([26,27].all fun u=>!Tryz.prog.wantsStandIn u)=true:=by kernel_rfl
    exact (show Tryz.prog.wantsStandIn t=false by simpa using List.all_eq_true.1 hall t hm)⟩)
  gb9
end Go.Proofs.YtkknipanlegofaaGreatDoor

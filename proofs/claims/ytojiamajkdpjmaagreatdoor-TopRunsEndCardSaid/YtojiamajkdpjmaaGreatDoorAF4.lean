/- The statement TopRunsEnd, as its tied card: the Go function returns true, and its arguments read as they did, for every input. No condition is added. -/
import Derived.Test.YtojiamajkdpjmaaGreatDoorAp7
import Derived.Test.YtojiamajkdpjmaaGreatDoorAp0
set_option synthInstance.checkSynthOrder false
set_option synthInstance.maxSize 10000
set_option synthInstance.maxHeartbeats 400000
set_option maxRecDepth 100000
set_option maxHeartbeats 4000000
set_option linter.unusedVariables false
set_option linter.unusedSimpArgs false
set_option linter.defProp false
namespace Go.Proofs.YtojiamajkdpjmaaGreatDoor
open Go Go.ChangeShapes Go.WideShapes Go.ChangeAt Go.RowKit Go.Pn
theorem rd22:Rdt Tryz.prog 22 (List ByteArray):=rdl Tryz.underlying22 (by kernel_rfl) (by decide) (rds Tryz.underlying9)
theorem Yn:Rdt Tryz.prog 125 Go.Pn.Expr:=rdEx Tryz.underlying125 (by kernel_rfl) rfl rfl rfl Tryz.underlying3 Tryz.underlying3 Tryz.underlying123 (by kernel_rfl) (by kernel_rfl) (by kernel_rfl)
theorem rd127:Rdt Tryz.prog 127 Ad:=DP (g:=fun b=>⟨b.1,b.2.1,b.2.2.1,b.2.2.2.1,b.2.2.2.2.1,b.2.2.2.2.2⟩) (fun _=>rfl) Tryz.underlying127 (by kernel_rfl) (Au rfl (by kernel_rfl) (rds Tryz.underlying9) (Au rfl (by kernel_rfl) (rdi Tryz.underlying3) (Au rfl (by kernel_rfl) Yn (Au rfl (by kernel_rfl) Yn (Au rfl (by kernel_rfl) (rdi Tryz.underlying3) (Km rfl (by kernel_rfl) (rdb Tryz.underlying4)))))))
theorem rd23:Rdt Tryz.prog 23 (List Ad):=rdl Tryz.underlying23 (by kernel_rfl) (by decide) rd127
theorem rd24:Rdt Tryz.prog 24 (List Int):=rdl Tryz.underlying24 (by kernel_rfl) (by decide) (rdi Tryz.underlying3)
theorem rd26:Rdt Tryz.prog 26 Aa:=DP (g:=fun b=>⟨b.1,b.2.1,b.2.2.1,b.2.2.2.1,b.2.2.2.2⟩) (fun _=>rfl) Tryz.underlying26 (by kernel_rfl) (Au rfl (by kernel_rfl) (rdi Tryz.underlying3) (Au rfl (by kernel_rfl) rd22 (Au rfl (by kernel_rfl) rd23 (Au rfl (by kernel_rfl) rd24 (Km rfl (by kernel_rfl) rd24)))))
theorem rd70:Rdt Tryz.prog 70 Times:=DP (g:=fun b=>⟨b.1,b.2⟩) (fun _=>rfl) Tryz.underlying70 (by kernel_rfl) (Au rfl (by kernel_rfl) (rdi Tryz.underlying3) (Km rfl (by kernel_rfl) (rdi Tryz.underlying3)))
theorem rd27:Rdt Tryz.prog 27 (List Times):=rdl Tryz.underlying27 (by kernel_rfl) (by decide) rd70
theorem rd29:Rdt Tryz.prog 29 Mach:=DP (g:=fun b=>⟨b.1,b.2⟩) (fun _=>rfl) Tryz.underlying29 (by kernel_rfl) (Au rfl (by kernel_rfl) rd26 (Km rfl (by kernel_rfl) rd27))
theorem hps4:∀ t∈Tryz.f4.params.toList,Tryz.prog.readableRec t=true∧t < Tryz.prog.types.size:=by
 rw [Tryz.params4]
 intro t ht
 have ht:t∈[29,3]:=ht
 have hall:([29,3].all fun u=>Tryz.prog.readableRec u && decide (u < Tryz.prog.types.size))=true:=by kernel_rfl
 simpa using List.all_eq_true.1 hall t ht
theorem calls4 {W:World} {v0:Value} {x0:Mach} {v1:Value} {x1:Int} (h0:(Va x0).p [] No W v0) (h1:(Va x1).p [] No W v1) (q1:x0.Times.length≤8796093022207):Calls Tryz.prog 4 #[v0,v1] W fun e W'=>e=.returned (.bool true)∧Below W.heap.size W W':=by
 refine ((s4 FF x0 x1 true (DB x0 x1 q1)) [v0,v1] No W (fun _ h=>h.elim) ⟨h0,h1,trivial⟩).2.mono ?_
 rintro e W' ⟨u,rfl,hx,F,_,_,hF,cs,hv,hr⟩
 refine ⟨?_,hx.below⟩
 have hr:cs=[.bool true]:=hr
 subst hr
 rw [hv];rfl
set_option maxRecDepth 100000 in
theorem Jc (os:Os) (started:os.Started) (H:Type) (enc:TypeId×Value→H) :
  ReturnsInHanded {} Tryz.checked os 4 .any (fun w args=>(Rows.topRunsEndSpec.pre enc Tryz.prog Tryz.f4 [] false w args∧laidMetH Tryz.prog laid3 w)∧sizedMet enc Tryz.prog Tryz.f4 (OpenSpec.ofChange Rows.topRunsEndSpec) false w args)
   (Rows.topRunsEndSpec.post enc Tryz.prog Tryz.f4 false true false false):=by
 refine returnsInHanded_of_change_and (C:=Tryz.checked) (X:=fun w _=>laidMetH Tryz.prog laid3 w) (fun _ _ _ hh h=>h.of_heap hh) own started (by kernel_rfl) Tryz.func4
  (ChangeSpec.witness_shaped (enc:=enc) (C:=Tryz.checked) (os:=os) (X:=fun w _=>laidMetH Tryz.prog laid3 w) false (World.laidAll Tryz.prog os laid3) #[.agg #[.int .i64 0,.slice none 0 0,.slice none 0 0,.slice none 0 0,.slice none 0 0,.slice none 0 0],.int .i64 0] 8 (World.laidAll_os _ _ _)
   (World.shaped_of_ZipB (by kernel_rfl) (by kernel_rfl)) (by kernel_rfl) (by kernel_rfl) (by kernel_rfl) (laid_met os _)) ?_
 intro W base args ds gs before hval0 hW hc hsz0 hL _
 have hval:∀ (j:Nat) t v,Tryz.f4.params[j]?=some t→args[j]?=some v→Value.okWide Tryz.prog W .any base t v:=hval0
 have hW':=hW
 obtain ⟨p,q,hA0,hV,rfl,_,_⟩:=hW
 have hA:DataW.TrodAll enc Tryz.prog W 0 (fun _=>true) true Tryz.f4.params.toList args.toList ds p:=hA0
 have hsz:(DataW.weightsEach Tryz.prog (Tryz.f4.params.toList ++ Rows.topRunsEndSpec.plain.varTypes Tryz.prog) (ds ++ gs)).all (·≤reachBytes)=true:=hsz0
 rw [Tryz.params4] at hA hval hsz
 obtain ⟨v0,v1,d0,d1,p0,p1,rfl,rfl,rfl,h0,h1⟩:=trodAll_two hA
 obtain ⟨x0,hx0⟩:=Rf Tryz.underlying29 rfl rd29 (hval 0 29 v0 rfl rfl) h0
 obtain ⟨x1,hx1⟩:=DM Tryz.underlying3 (hval 1 3 v1 rfl rfl) h1
 have hK:∀ k∈d0.weights Tryz.prog 29,k≤reachBytes:=fun k hk=>by
  have:=List.all_eq_true.1 hsz k (DataW.weights_mem_each (j:=0) (t:=29) rfl rfl k hk)
  simpa using this
 have hb:Tryz.prog.bytesOf 70=16:=by kernel_rfl
 have q0:=DL Tryz.underlying29 rfl rfl Tryz.underlying27 (by kernel_rfl) h0 hx0 hK
 have q1:x0.Times.length≤8796093022207:=by
  rw [hb] at q0
  unfold reachBytes at q0
  omega
 refine (calls4 hx0 hx1 q1).mono fun e W' ⟨he,hB⟩=>?_
 subst he
 exact ⟨_,rfl,Rr (P:=Tryz.prog) laidOut hps4 (tb:=4) (by kernel_rfl) Tryz.underlying4 rfl ⟨rfl,rfl,rfl⟩ hW' hB⟩
theorem ip4:(Rows.topRunsEndRow.inPlace == Tryz.prog.inPlace 4)=true:=by kernel_rfl
theorem uf4:(Rows.topRunsEndRow.unfollowed == Tryz.prog.unfollowed 4)=true:=by kernel_rfl
theorem rc4:(Rows.topRunsEndRow.recurses == Tryz.prog.recurses 4)=true:=by kernel_rfl
theorem nm4:(Rows.topRunsEndRow.named == Tryz.prog.varsNamed 4)=true:=by kernel_rfl
theorem gb4:false=Rows.topRunsEndRow.goesBy Tryz.prog:=by kernel_rfl
theorem closed4:joinedFacts Tryz.prog 4 Tryz.f4 Rows.topRunsEndSpec Rows.topRunsEndRow=true:=by
 unfold joinedFacts
 simp only [Bool.and_eq_true]
 refine ⟨⟨⟨⟨⟨⟨⟨⟨⟨⟨⟨⟨⟨⟨⟨⟨⟨⟨⟨⟨⟨⟨⟨⟨⟨⟨⟨⟨⟨⟨⟨?_,?_⟩,?_⟩,?_⟩,?_⟩,?_⟩,?_⟩,?_⟩,?_⟩,?_⟩,?_⟩,?_⟩,?_⟩,?_⟩,?_⟩,?_⟩,?_⟩,?_⟩,?_⟩,?_⟩,?_⟩,?_⟩,?_⟩,?_⟩,?_⟩,?_⟩,?_⟩,?_⟩,?_⟩,?_⟩,?_⟩,?_⟩
 ·kernel_rfl
 ·exact laidOut
 ·exact mapsRow
 ·kernel_rfl
 ·kernel_rfl
 ·kernel_rfl
 ·kernel_rfl
 ·kernel_rfl
 ·kernel_rfl
 ·exact ip4
 ·exact uf4
 ·exact rc4
 ·exact nm4
 ·kernel_rfl
 ·kernel_rfl
 ·kernel_rfl
 ·kernel_rfl
 ·kernel_rfl
 ·kernel_rfl
 ·kernel_rfl
 ·kernel_rfl
 ·kernel_rfl
 ·exact beq_iff_eq.2 plainK.symm
 ·kernel_rfl
 ·exact stopsH
 ·exact mayE
 ·exact beq_iff_eq.2 liftsF.symm
 ·exact beq_iff_eq.2 makeP
 ·kernel_rfl
 ·kernel_rfl
 ·kernel_rfl
 ·kernel_rfl
theorem Lf:Rows.TopRunsEndSaid:=
 OpenClaim.holds_of_wide 4 Tryz.f4 rfl rfl rfl rfl rfl rfl rfl ⟨rfl,rfl,rfl,rfl,rfl⟩ rfl rfl rfl rfl rfl (by kernel_rfl) Tryz.func4 closed4
  (of_decide_eq_true (by kernel_rfl)) (by unfold Func.isWrapper;first | (rw [if_pos (by decide +kernel)];kernel_rfl) | (rw [if_neg (by decide +kernel)];exact ⟨rfl,rfl⟩))
  (fun os started H enc _=>Jc os started H enc)
theorem topRunsEnd_card:Rows.TopRunsEndCardSaid:=
 Claim7.holds_tied_plain_at .later [] [.data, .data, .data] true (true, "7c834997b7ddead75c1846c4e83ad73488d8dbed4d883b861061ba299c5e0d5e") false Lf (fun _ h => by cases h) (by kernel_rfl) (fun _ h => by cases h) topRunsEnd_row_tie rfl ⟨rfl, rfl⟩ mainI rfl
  (fun f fn hf hfn=>by
   obtain rfl:f=4:=Option.some.inj ((show Tryz.prog.funcNamed Rows.topRunsEndRow.func=some 4 by kernel_rfl).symm.trans hf) |>.symm
   obtain rfl:fn=Tryz.f4:=(Option.some.inj (Tryz.func4.symm.trans hfn)).symm
   exact ⟨looksN,fun j t ht=>by
    rw [Tryz.params4] at ht
    have hm:t∈[29,3]:=by simpa using Array.mem_of_getElem? ht
    have hall:([29,3].all fun u=>!Tryz.prog.wantsStandIn u)=true:=by kernel_rfl
    exact (show Tryz.prog.wantsStandIn t=false by simpa using List.all_eq_true.1 hall t hm)⟩)
  gb4
end Go.Proofs.YtojiamajkdpjmaaGreatDoor

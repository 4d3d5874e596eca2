/- The statement AgreeFronts, as its tied card: the Go function returns true, and its arguments read as they did, for every input. No condition is added. -/
import Derived.Test.YtmpdhmdnlmplpaaGreatDoorDp7
import Derived.Test.YtmpdhmdnlmplpaaGreatDoorDp0
set_option synthInstance.checkSynthOrder false
set_option synthInstance.maxSize 10000
set_option synthInstance.maxHeartbeats 400000
set_option maxRecDepth 100000
set_option maxHeartbeats 4000000
set_option linter.unusedVariables false
set_option linter.unusedSimpArgs false
set_option linter.defProp false
namespace Go.Proofs.YtmpdhmdnlmplpaaGreatDoor
open Go Go.ChangeShapes Go.WideShapes Go.ChangeAt Go.RowKit Go.Pn
theorem rd22:Rdt Tryz.prog 22 (List ByteArray):=rdl Tryz.underlying22 (by kernel_rfl) (by decide) (rds Tryz.underlying9)
theorem rd129:Rdt Tryz.prog 129 Go.Pn.Expr:=rdEx Tryz.underlying129 (by kernel_rfl) rfl rfl rfl Tryz.underlying3 Tryz.underlying3 Tryz.underlying127 (by kernel_rfl) (by kernel_rfl) (by kernel_rfl)
theorem rd133:Rdt Tryz.prog 133 Ad:=rdst (g:=fun b=>⟨b.1,b.2.1,b.2.2.1,b.2.2.2.1,b.2.2.2.2.1,b.2.2.2.2.2⟩) (fun _=>rfl) Tryz.underlying133 (by kernel_rfl) (Da rfl (by kernel_rfl) (rds Tryz.underlying9) (Da rfl (by kernel_rfl) (rdi Tryz.underlying3) (Da rfl (by kernel_rfl) rd129 (Da rfl (by kernel_rfl) rd129 (Da rfl (by kernel_rfl) (rdi Tryz.underlying3) (CB rfl (by kernel_rfl) (rdb Tryz.underlying4)))))))
theorem rd23:Rdt Tryz.prog 23 (List Ad):=rdl Tryz.underlying23 (by kernel_rfl) (by decide) rd133
theorem rd24:Rdt Tryz.prog 24 (List Int):=rdl Tryz.underlying24 (by kernel_rfl) (by decide) (rdi Tryz.underlying3)
theorem rd26:Rdt Tryz.prog 26 Aa:=rdst (g:=fun b=>⟨b.1,b.2.1,b.2.2.1,b.2.2.2.1,b.2.2.2.2⟩) (fun _=>rfl) Tryz.underlying26 (by kernel_rfl) (Da rfl (by kernel_rfl) (rdi Tryz.underlying3) (Da rfl (by kernel_rfl) rd22 (Da rfl (by kernel_rfl) rd23 (Da rfl (by kernel_rfl) rd24 (CB rfl (by kernel_rfl) rd24)))))
theorem rd27:Rdt Tryz.prog 27 (List Bool):=rdl Tryz.underlying27 (by kernel_rfl) (by decide) (rdb Tryz.underlying4)
theorem rd51:Rdt Tryz.prog 51 Ab:=rdst (g:=fun b=>⟨b.1,b.2⟩) (fun _=>rfl) Tryz.underlying51 (by kernel_rfl) (Da rfl (by kernel_rfl) (rdi Tryz.underlying3) (CB rfl (by kernel_rfl) (rdb Tryz.underlying4)))
theorem rd48:Rdt Tryz.prog 48 (List Ab):=rdl Tryz.underlying48 (by kernel_rfl) (by decide) rd51
theorem rd37:Rdt Tryz.prog 37 (List (List Ab)):=rdl Tryz.underlying37 (by kernel_rfl) (by decide) rd48
theorem hps6:∀ t∈Tryz.f6.params.toList,Tryz.prog.readableRec t=true∧t < Tryz.prog.types.size:=by
 rw [Tryz.params6]
 intro t ht
 have ht:t∈[26,27,37]:=ht
 have hall:([26,27,37].all fun u=>Tryz.prog.readableRec u && decide (u < Tryz.prog.types.size))=true:=by kernel_rfl
 simpa using List.all_eq_true.1 hall t ht
theorem calls6 {W:World} {v0:Value} {x0:Aa} {v1:Value} {x1:List Bool} {v2:Value} {x2:List (List Ab)} (h0:(Va x0).p [] No W v0) (h1:(Va x1).p [] No W v1) (h2:(Va x2).p [] No W v2) (q1:x2.length≤9223372036854775807):Calls Tryz.prog 6 #[v0,v1,v2] W fun e W'=>e=.returned (.bool true)∧Below W.heap.size W W':=by
 refine ((s6 FF x0 x1 x2 true (m6_law x0 x1 x2 q1)) [v0,v1,v2] No W (fun _ h=>h.elim) ⟨h0,h1,h2,trivial⟩).2.mono ?_
 rintro e W' ⟨u,rfl,hx,F,_,_,hF,cs,hv,hr⟩
 refine ⟨?_,hx.below⟩
 have hr:cs=[.bool true]:=hr
 subst hr
 rw [hv];rfl
set_option maxRecDepth 100000 in
theorem Jm (os:Os) (started:os.Started) (H:Type) (enc:TypeId×Value→H) :
  ReturnsInHanded {} Tryz.checked os 6 .any (fun w args=>(Rows.agreeFrontsSpec.pre enc Tryz.prog Tryz.f6 [] false w args∧laidMetH Tryz.prog laid3 w)∧sizedMet enc Tryz.prog Tryz.f6 (OpenSpec.ofChange Rows.agreeFrontsSpec) false w args)
   (Rows.agreeFrontsSpec.post enc Tryz.prog Tryz.f6 false true false false):=by
 refine returnsInHanded_of_change_and (C:=Tryz.checked) (X:=fun w _=>laidMetH Tryz.prog laid3 w) (fun _ _ _ hh h=>h.of_heap hh) own started (by kernel_rfl) Tryz.func6
  (ChangeSpec.witness_shaped (enc:=enc) (C:=Tryz.checked) (os:=os) (X:=fun w _=>laidMetH Tryz.prog laid3 w) false (World.laidAll Tryz.prog os laid3) #[.agg #[.int .i64 0,.slice none 0 0,.slice none 0 0,.slice none 0 0,.slice none 0 0],.slice none 0 0,.slice none 0 0] 8 (World.laidAll_os _ _ _)
   (World.shaped_of_ZipB (by kernel_rfl) (by kernel_rfl)) (by kernel_rfl) (by kernel_rfl) (by kernel_rfl) (laid_met os _)) ?_
 intro W base args ds gs before hval0 hW hc _ hL _
 have hval:∀ (j:Nat) t v,Tryz.f6.params[j]?=some t→args[j]?=some v→Value.okWide Tryz.prog W .any base t v:=hval0
 have hW':=hW
 obtain ⟨p,q,hA0,hV,rfl,_,_⟩:=hW
 have hA:DataW.TrodAll enc Tryz.prog W 0 (fun _=>true) true Tryz.f6.params.toList args.toList ds p:=hA0
 rw [Tryz.params6] at hA hval
 obtain ⟨v0,v1,v2,d0,d1,d2,p0,p1,p2,rfl,rfl,rfl,h0,h1,h2⟩:=trodAll_three hA
 obtain ⟨x0,hx0⟩:=Zi Tryz.underlying26 rfl rd26 (hval 0 26 v0 rfl rfl) h0
 obtain ⟨x1,hx1⟩:=Wq Tryz.underlying27 rd27 (hval 1 27 v1 rfl rfl) h1
 obtain ⟨x2,hx2⟩:=Wq Tryz.underlying37 rd37 (hval 2 37 v2 rfl rfl) h2
 have q1:=va_len Tryz.underlying37 h2 hx2
 refine (calls6 hx0 hx1 hx2 q1).mono fun e W' ⟨he,hB⟩=>?_
 subst he
 exact ⟨_,rfl,Zq (P:=Tryz.prog) laidOut hps6 (tb:=4) (by kernel_rfl) Tryz.underlying4 rfl ⟨rfl,rfl,rfl⟩ hW' hB⟩
theorem ip6:(Rows.agreeFrontsRow.inPlace == Tryz.prog.inPlace 6)=true:=by kernel_rfl
theorem uf6:(Rows.agreeFrontsRow.unfollowed == Tryz.prog.unfollowed 6)=true:=by kernel_rfl
theorem rc6:(Rows.agreeFrontsRow.recurses == Tryz.prog.recurses 6)=true:=by kernel_rfl
theorem nm6:(Rows.agreeFrontsRow.named == Tryz.prog.varsNamed 6)=true:=by kernel_rfl
theorem gb6:false=Rows.agreeFrontsRow.goesBy Tryz.prog:=by kernel_rfl
theorem closed6:joinedFacts Tryz.prog 6 Tryz.f6 Rows.agreeFrontsSpec Rows.agreeFrontsRow=true:=by
 unfold joinedFacts
 simp only [Bool.and_eq_true]
 refine ⟨⟨⟨⟨⟨⟨⟨⟨⟨⟨⟨⟨⟨⟨⟨⟨⟨⟨⟨⟨⟨⟨⟨⟨⟨⟨⟨⟨⟨⟨⟨?_,?_⟩,?_⟩,?_⟩,?_⟩,?_⟩,?_⟩,?_⟩,?_⟩,?_⟩,?_⟩,?_⟩,?_⟩,?_⟩,?_⟩,?_⟩,?_⟩,?_⟩,?_⟩,?_⟩,?_⟩,?_⟩,?_⟩,?_⟩,?_⟩,?_⟩,?_⟩,?_⟩,?_⟩,?_⟩,?_⟩,?_⟩
 ·kernel_rfl
 ·exact laidOut
 ·exact mapsRow
 ·kernel_rfl
 ·kernel_rfl
 ·kernel_rfl
 ·kernel_rfl
 ·kernel_rfl
 ·kernel_rfl
 ·exact ip6
 ·exact uf6
 ·exact rc6
 ·exact nm6
 ·kernel_rfl
 ·kernel_rfl
 ·kernel_rfl
 ·kernel_rfl
 ·kernel_rfl
 ·kernel_rfl
 ·kernel_rfl
 ·kernel_rfl
 ·kernel_rfl
 ·exact beq_iff_eq.2 plainK.symm
 ·kernel_rfl
 ·exact stopsH
 ·exact mayE
 ·exact beq_iff_eq.2 liftsF.symm
 ·exact beq_iff_eq.2 makeP
 ·kernel_rfl
 ·kernel_rfl
 ·kernel_rfl
 ·kernel_rfl
theorem Lx:Rows.AgreeFrontsSaid:=
 OpenClaim.holds_of_wide 6 Tryz.f6 rfl rfl rfl rfl rfl rfl rfl ⟨rfl,rfl,rfl,rfl,rfl⟩ rfl rfl rfl rfl rfl (by kernel_rfl) Tryz.func6 closed6
  (of_decide_eq_true (by kernel_rfl)) (by unfold Func.isWrapper;first | (rw [if_pos (by decide +kernel)];kernel_rfl) | (rw [if_neg (by decide +kernel)];exact ⟨rfl,rfl⟩))
  (fun os started H enc _=>Jm os started H enc)
theorem agreeFronts_card:Rows.AgreeFrontsCardSaid:=
 Claim7.holds_tied_plain_at .later [] [.data, .data, .data] true (true, "e76bdc307bc27c7181433b03fceb5e883b3b65861bdffc0af918329ba7b4a128") false Lx (fun _ h => by cases h) (by kernel_rfl) (fun _ h => by cases h) agreeFronts_row_tie rfl ⟨rfl, rfl⟩ mainI rfl
  (fun f fn hf hfn=>by
   obtain rfl:f=6:=Option.some.inj ((show Tryz.prog.funcNamed Rows.agreeFrontsRow.func=some 6 by kernel_rfl).symm.trans hf) |>.symm
   obtain rfl:fn=Tryz.f6:=(Option.some.inj (Tryz.func6.symm.trans hfn)).symm
   exact ⟨looksN,fun j t ht=>by
    rw [Tryz.params6] at ht
    have hm:t∈[26,27,37]:=by simpa using Array.mem_of_getElem? ht
    have hall:([26,27,37].all fun u=>!Tryz.prog.wantsStandIn u)=true:=by kernel_rfl
    exact (show Tryz.prog.wantsStandIn t=false by simpa using List.all_eq_true.1 hall t hm)⟩)
  gb6
end Go.Proofs.YtmpdhmdnlmplpaaGreatDoor

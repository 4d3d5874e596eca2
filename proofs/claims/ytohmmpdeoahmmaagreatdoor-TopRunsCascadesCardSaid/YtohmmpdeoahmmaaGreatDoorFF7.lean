/- The statement TopRunsCascades, as its tied card: the Go function returns true, and its arguments read as they did, for every input. No condition is added. -/
import Derived.Test.YtohmmpdeoahmmaaGreatDoorFp5
import Derived.Test.YtohmmpdeoahmmaaGreatDoorFp0
set_option synthInstance.checkSynthOrder false
set_option synthInstance.maxSize 10000
set_option synthInstance.maxHeartbeats 400000
set_option maxRecDepth 100000
set_option maxHeartbeats 4000000
set_option linter.unusedVariables false
set_option linter.unusedSimpArgs false
set_option linter.defProp false
namespace Go.Proofs.YtohmmpdeoahmmaaGreatDoor
open Go Go.ChangeShapes Go.WideShapes Go.ChangeAt Go.RowKit Go.Pn
theorem rd69:Rdt Tryz.prog 69 Ab:=je (g:=fun b=>⟨b.1,b.2⟩) (fun _=>rfl) Tryz.underlying69 (by kernel_rfl) (Zg rfl (by kernel_rfl) (pE Tryz.underlying3) (FU rfl (by kernel_rfl) (rdb Tryz.underlying4)))
theorem rd59:Rdt Tryz.prog 59 (List Ab):=pD Tryz.underlying59 (by kernel_rfl) (by decide) rd69
theorem rd64:Rdt Tryz.prog 64 Step:=je (g:=fun b=>⟨b.1,b.2⟩) (fun _=>rfl) Tryz.underlying64 (by kernel_rfl) (Zg rfl (by kernel_rfl) rd59 (FU rfl (by kernel_rfl) (pE Tryz.underlying3)))
theorem rd22:Rdt Tryz.prog 22 (List Step):=pD Tryz.underlying22 (by kernel_rfl) (by decide) rd64
theorem rd24:Rdt Tryz.prog 24 Ai:=je (g:=fun b=>⟨b.1,b.2⟩) (fun _=>rfl) Tryz.underlying24 (by kernel_rfl) (Zg rfl (by kernel_rfl) (pE Tryz.underlying3) (FU rfl (by kernel_rfl) rd22))
theorem rd46:Rdt Tryz.prog 46 (List UInt8):=pD Tryz.underlying46 (by kernel_rfl) (by decide) (pF Tryz.underlying5)
theorem hTb {W:World} (h:laidMetH Tryz.prog laid3 W) {v:Value}:TbT.p [] No W v:=by
 rw [MakeChecks.laidMetH_plain _ _ _ (by kernel_rfl)] at h
 have h2 : Lib.TabIs Tryz.prog W "pneumatic/group.bits" .u64 bitT := Lib.tabIs_of_head (g := 0) (t := 257) (e := 174) (n := 6) (rest := []) (by kernel_rfl) (by kernel_rfl) Tryz.underlying257 Tryz.underlying174 (by kernel_rfl) (by kernel_rfl) (Go.laidMet.tail (Go.laidMet.tail (Go.laidMet.tail h)))
 have hg : Tryz.prog.globalNamed "pneumatic/group.bits" = some 0 := by kernel_rfl
 refine ⟨rfl,0,hg,?_,fun h=>h,h2⟩
 unfold Lib.TabIs World.var? at h2
 rw [hg,Option.bind_some] at h2
 cases he:W.heap[0]? with
 | none=>rw [he] at h2;cases h2
 | some o=>exact (Array.getElem?_eq_some_iff.1 he).1
theorem pY:∀ t∈Tryz.f7.params.toList,Tryz.prog.readableRec t=true∧t < Tryz.prog.types.size:=by
 rw [Tryz.params7]
 intro t ht
 have ht:t∈[24,46]:=ht
 have hall:([24,46].all fun u=>Tryz.prog.readableRec u && decide (u < Tryz.prog.types.size))=true:=by kernel_rfl
 simpa using List.all_eq_true.1 hall t ht
theorem j3 {W:World} {v0:Value} {x0:Ai} {v1:Value} {x1:List UInt8} (h0:(TV (Va x0)).p [] No W v0) (h1:(Va x1).p [] No W v1):Calls Tryz.prog 7 #[v0,v1] W fun e W'=>e=.returned (.bool true)∧Below W.heap.size W W':=by
 refine ((s7 FF x0 x1 true (CX x0 x1)) [v0,v1] No W (fun _ h=>h.elim) ⟨h0,h1,trivial⟩).2.mono ?_
 rintro e W' ⟨u,rfl,hx,F,_,_,hF,cs,hv,hr⟩
 refine ⟨?_,hx.below⟩
 have hr:cs=[.bool true]:=hr
 subst hr
 rw [hv];rfl
set_option maxRecDepth 100000 in
theorem En (os:Os) (started:os.Started) (H:Type) (enc:TypeId×Value→H) :
  ReturnsInHanded {} Tryz.checked os 7 .any (fun w args=>(Rows.topRunsCascadesSpec.pre enc Tryz.prog Tryz.f7 [] false w args∧laidMetH Tryz.prog laid3 w)∧sizedMet enc Tryz.prog Tryz.f7 (OpenSpec.ofChange Rows.topRunsCascadesSpec) false w args)
   (Rows.topRunsCascadesSpec.post enc Tryz.prog Tryz.f7 false true false false):=by
 refine returnsInHanded_of_change_and (C:=Tryz.checked) (X:=fun w _=>laidMetH Tryz.prog laid3 w) (fun _ _ _ hh h=>h.of_heap hh) own started (by kernel_rfl) Tryz.func7
  (ChangeSpec.witness_shaped (enc:=enc) (C:=Tryz.checked) (os:=os) (X:=fun w _=>laidMetH Tryz.prog laid3 w) false (World.laidAll Tryz.prog os laid3) #[.agg #[.int .i64 0,.slice none 0 0],.slice none 0 0] 8 (World.laidAll_os _ _ _)
   (World.shaped_of_ZipB (by kernel_rfl) (by kernel_rfl)) (by kernel_rfl) (by kernel_rfl) (by kernel_rfl) (laid_met os _)) ?_
 intro W base args ds gs before hval0 hW hc _ hL _
 have hval:∀ (j:Nat) t v,Tryz.f7.params[j]?=some t→args[j]?=some v→Value.okWide Tryz.prog W .any base t v:=hval0
 have hW':=hW
 obtain ⟨p,q,hA0,hV,rfl,_,_⟩:=hW
 have hA:DataW.TrodAll enc Tryz.prog W 0 (fun _=>true) true Tryz.f7.params.toList args.toList ds p:=hA0
 rw [Tryz.params7] at hA hval
 obtain ⟨v0,v1,d0,d1,p0,p1,rfl,rfl,rfl,h0,h1⟩:=trodAll_two hA
 obtain ⟨x0,hx0⟩:=CO Tryz.underlying24 rfl rd24 (hval 0 24 v0 rfl rfl) h0
 have hx0:=(⟨hx0,hTb hL⟩:(TV (Va x0)).p [] No W v0)
 obtain ⟨x1,hx1⟩:=GW Tryz.underlying46 rd46 (hval 1 46 v1 rfl rfl) h1
 refine (j3 hx0 hx1).mono fun e W' ⟨he,hB⟩=>?_
 subst he
 exact ⟨_,rfl,DA (P:=Tryz.prog) laidOut pY (tb:=4) (by kernel_rfl) Tryz.underlying4 rfl ⟨rfl,rfl,rfl⟩ hW' hB⟩
theorem ip7:(Rows.topRunsCascadesRow.inPlace == Tryz.prog.inPlace 7)=true:=by kernel_rfl
theorem uf7:(Rows.topRunsCascadesRow.unfollowed == Tryz.prog.unfollowed 7)=true:=by kernel_rfl
theorem rc7:(Rows.topRunsCascadesRow.recurses == Tryz.prog.recurses 7)=true:=by kernel_rfl
theorem nm7:(Rows.topRunsCascadesRow.named == Tryz.prog.varsNamed 7)=true:=by kernel_rfl
theorem gb7:false=Rows.topRunsCascadesRow.goesBy Tryz.prog:=by kernel_rfl
theorem gD:joinedFacts Tryz.prog 7 Tryz.f7 Rows.topRunsCascadesSpec Rows.topRunsCascadesRow=true:=by
 unfold joinedFacts
 simp only [Bool.and_eq_true]
 refine ⟨⟨⟨⟨⟨⟨⟨⟨⟨⟨⟨⟨⟨⟨⟨⟨⟨⟨⟨⟨⟨⟨⟨⟨⟨⟨⟨⟨⟨⟨⟨?_,?_⟩,?_⟩,?_⟩,?_⟩,?_⟩,?_⟩,?_⟩,?_⟩,?_⟩,?_⟩,?_⟩,?_⟩,?_⟩,?_⟩,?_⟩,?_⟩,?_⟩,?_⟩,?_⟩,?_⟩,?_⟩,?_⟩,?_⟩,?_⟩,?_⟩,?_⟩,?_⟩,?_⟩,?_⟩,?_⟩,?_⟩
 ·kernel_rfl
 ·exact laidOut
 ·exact mapsRow
 ·kernel_rfl
 ·kernel_rfl
 ·kernel_rfl
 ·kernel_rfl
 ·kernel_rfl
 ·kernel_rfl
 ·exact ip7
 ·exact uf7
 ·exact rc7
 ·exact nm7
 ·kernel_rfl
 ·kernel_rfl
 ·kernel_rfl
 ·kernel_rfl
 ·kernel_rfl
 ·kernel_rfl
 ·kernel_rfl
 ·kernel_rfl
 ·kernel_rfl
 ·exact beq_iff_eq.2 plainK.symm
 ·kernel_rfl
 ·exact stopsH
 ·exact mayE
 ·exact beq_iff_eq.2 liftsF.symm
 ·exact beq_iff_eq.2 makeP
 ·kernel_rfl
 ·kernel_rfl
 ·kernel_rfl
 ·kernel_rfl
theorem Ge:Rows.TopRunsCascadesSaid:=
 OpenClaim.holds_of_wide 7 Tryz.f7 rfl rfl rfl rfl rfl rfl rfl ⟨rfl,rfl,rfl,rfl,rfl⟩ rfl rfl rfl rfl rfl (by kernel_rfl) Tryz.func7 gD
  (of_decide_eq_true (by kernel_rfl)) (by unfold Func.isWrapper;first | (rw [if_pos (by decide +kernel)];kernel_rfl) | (rw [if_neg (by decide +kernel)];exact ⟨rfl,rfl⟩))
  (fun os started H enc _=>En os started H enc)
theorem topRunsCascades_card:Rows.TopRunsCascadesCardSaid:=
 Claim7.holds_tied_plain_at .later [] [.data, .data, .data, .data] true (true, "23d05d18fa3c86235daac5fd9daa4562b67a46c45fa2b321db33d85279808ee3") false Ge (fun _ h => by cases h) (by kernel_rfl) (fun _ h => by cases h) topRunsCascades_row_tie rfl ⟨rfl, rfl⟩ mainI rfl
  (fun f fn hf hfn=>by
   obtain rfl:f=7:=Option.some.inj ((show Tryz.prog.funcNamed Rows.topRunsCascadesRow.func=some 7 by kernel_rfl).symm.trans hf) |>.symm
   obtain rfl:fn=Tryz.f7:=(Option.some.inj (Tryz.func7.symm.trans hfn)).symm
   exact ⟨looksN,fun j t ht=>by
    rw [Tryz.params7] at ht
    have hm:t∈[24,46]:=by simpa using Array.mem_of_getElem? ht
    have hall:([24,46].all fun u=>!Tryz.prog.wantsStandIn u)=true:=by kernel_rfl
    exact (show Tryz.prog.wantsStandIn t=false by simpa using List.all_eq_true.1 hall t hm)⟩)
  gb7
end Go.Proofs.YtohmmpdeoahmmaaGreatDoor

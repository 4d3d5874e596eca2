/- The statement TopChainAlike, as its tied card: the Go function returns true, and its arguments read as they did, for every input. No condition is added. -/
import Derived.Test.YtohmmpdeoahmmaaGreatDoorDp6
import Derived.Test.YtohmmpdeoahmmaaGreatDoorDp0
set_option synthInstance.checkSynthOrder false
set_option synthInstance.maxSize 10000
set_option synthInstance.maxHeartbeats 400000
set_option maxRecDepth 100000
set_option maxHeartbeats 0
set_option linter.unusedVariables false
set_option linter.unusedSimpArgs false
set_option linter.defProp false
namespace Go.Proofs.YtohmmpdeoahmmaaGreatDoor
open Go Go.ChangeShapes Go.WideShapes Go.ChangeAt Go.RowKit Go.Pn
theorem rd69:Rdt Tryz.prog 69 Ab:=rdst (g:=fun b=>⟨b.1,b.2⟩) (fun _=>rfl) Tryz.underlying69 (by kernel_rfl) (Wb rfl (by kernel_rfl) (rdi Tryz.underlying3) (CQ rfl (by kernel_rfl) (rdb Tryz.underlying4)))
theorem rd59:Rdt Tryz.prog 59 (List Ab):=rdl Tryz.underlying59 (by kernel_rfl) (by decide) rd69
theorem rd64:Rdt Tryz.prog 64 Step:=rdst (g:=fun b=>⟨b.1,b.2⟩) (fun _=>rfl) Tryz.underlying64 (by kernel_rfl) (Wb rfl (by kernel_rfl) rd59 (CQ rfl (by kernel_rfl) (rdi Tryz.underlying3)))
theorem rd22:Rdt Tryz.prog 22 (List Step):=rdl Tryz.underlying22 (by kernel_rfl) (by decide) rd64
theorem rd24:Rdt Tryz.prog 24 Ah:=rdst (g:=fun b=>⟨b.1,b.2⟩) (fun _=>rfl) Tryz.underlying24 (by kernel_rfl) (Wb rfl (by kernel_rfl) (rdi Tryz.underlying3) (CQ rfl (by kernel_rfl) rd22))
theorem rd46:Rdt Tryz.prog 46 (List UInt8):=rdl Tryz.underlying46 (by kernel_rfl) (by decide) (rdU8 Tryz.underlying5)
theorem hTb {W:World} (h:laidMetH Tryz.prog laid3 W) {v:Value}:TbT.p [] No W v:=by
 rw [MakeChecks.laidMetH_plain _ _ _ (by kernel_rfl)] at h
 have h2 : Lib.TabIs Tryz.prog W "pneumatic/group.bits" .u64 bitT := Lib.tabIs_of_head (g := 0) (t := 257) (e := 174) (n := 6) (rest := []) (by kernel_rfl) (by kernel_rfl) Tryz.underlying257 Tryz.underlying174 (by kernel_rfl) (by kernel_rfl) (Go.laidMet.tail (Go.laidMet.tail (Go.laidMet.tail h)))
 have hg : Tryz.prog.globalNamed "pneumatic/group.bits" = some 0 := by kernel_rfl
 refine ⟨rfl,0,hg,?_,fun h=>h,h2⟩
 unfold Lib.TabIs World.var? at h2
 rw [hg,Option.bind_some] at h2
 cases he:W.heap[0]? with
 | none=>rw [he] at h2;cases h2
 | some o=>exact (Array.getElem?_eq_some_iff.1 he).1
theorem hps8:∀ t∈Tryz.f8.params.toList,Tryz.prog.readableRec t=true∧t < Tryz.prog.types.size:=by
 rw [Tryz.params8]
 intro t ht
 have ht:t∈[24,46]:=ht
 have hall:([24,46].all fun u=>Tryz.prog.readableRec u && decide (u < Tryz.prog.types.size))=true:=by kernel_rfl
 simpa using List.all_eq_true.1 hall t ht
theorem calls8 {W:World} {v0:Value} {x0:Ah} {v1:Value} {x1:List UInt8} (h0:(TV (Va x0)).p [] No W v0) (h1:(Va x1).p [] No W v1):Calls Tryz.prog 8 #[v0,v1] W fun e W'=>e=.returned (.bool true)∧Below W.heap.size W W':=by
 refine ((s8 FF x0 x1 true (Yp x0 x1)) [v0,v1] No W (fun _ h=>h.elim) ⟨h0,h1,trivial⟩).2.mono ?_
 rintro e W' ⟨u,rfl,hx,F,_,_,hF,cs,hv,hr⟩
 refine ⟨?_,hx.below⟩
 have hr:cs=[.bool true]:=hr
 subst hr
 rw [hv];rfl
set_option maxRecDepth 100000 in
theorem Ev (os:Os) (started:os.Started) (H:Type) (enc:TypeId×Value→H) :
  ReturnsInHanded {} Tryz.checked os 8 .any (fun w args=>(Rows.topChainAlikeSpec.pre enc Tryz.prog Tryz.f8 [] false w args∧laidMetH Tryz.prog laid3 w)∧sizedMet enc Tryz.prog Tryz.f8 (OpenSpec.ofChange Rows.topChainAlikeSpec) false w args)
   (Rows.topChainAlikeSpec.post enc Tryz.prog Tryz.f8 false true false false):=by
 refine returnsInHanded_of_change_and (C:=Tryz.checked) (X:=fun w _=>laidMetH Tryz.prog laid3 w) (fun _ _ _ hh h=>h.of_heap hh) own started (by kernel_rfl) Tryz.func8
  (ChangeSpec.witness_shaped (enc:=enc) (C:=Tryz.checked) (os:=os) (X:=fun w _=>laidMetH Tryz.prog laid3 w) false (World.laidAll Tryz.prog os laid3) #[.agg #[.int .i64 0,.slice none 0 0],.slice none 0 0] 8 (World.laidAll_os _ _ _)
   (World.shaped_of_ZipB (by kernel_rfl) (by kernel_rfl)) (by kernel_rfl) (by kernel_rfl) (by kernel_rfl) (laid_met os _)) ?_
 intro W base args ds gs before hval0 hW hc _ hL _
 have hval:∀ (j:Nat) t v,Tryz.f8.params[j]?=some t→args[j]?=some v→Value.okWide Tryz.prog W .any base t v:=hval0
 have hW':=hW
 obtain ⟨p,q,hA0,hV,rfl,_,_⟩:=hW
 have hA:DataW.TrodAll enc Tryz.prog W 0 (fun _=>true) true Tryz.f8.params.toList args.toList ds p:=hA0
 rw [Tryz.params8] at hA hval
 obtain ⟨v0,v1,d0,d1,p0,p1,rfl,rfl,rfl,h0,h1⟩:=trodAll_two hA
 obtain ⟨x0,hx0⟩:=Yv Tryz.underlying24 rfl rd24 (hval 0 24 v0 rfl rfl) h0
 have hx0:=(⟨hx0,hTb hL⟩:(TV (Va x0)).p [] No W v0)
 obtain ⟨x1,hx1⟩:=DL Tryz.underlying46 rd46 (hval 1 46 v1 rfl rfl) h1
 refine (calls8 hx0 hx1).mono fun e W' ⟨he,hB⟩=>?_
 subst he
 exact ⟨_,rfl,Zn (P:=Tryz.prog) laidOut hps8 (tb:=4) (by kernel_rfl) Tryz.underlying4 rfl ⟨rfl,rfl,rfl⟩ hW' hB⟩
theorem ip8:(Rows.topChainAlikeRow.inPlace == Tryz.prog.inPlace 8)=true:=by kernel_rfl
theorem uf8:(Rows.topChainAlikeRow.unfollowed == Tryz.prog.unfollowed 8)=true:=by kernel_rfl
theorem rc8:(Rows.topChainAlikeRow.recurses == Tryz.prog.recurses 8)=true:=by kernel_rfl
theorem nm8:(Rows.topChainAlikeRow.named == Tryz.prog.varsNamed 8)=true:=by kernel_rfl
theorem gb8:false=Rows.topChainAlikeRow.goesBy Tryz.prog:=by kernel_rfl
theorem closed8:joinedFacts Tryz.prog 8 Tryz.f8 Rows.topChainAlikeSpec Rows.topChainAlikeRow=true:=by
 unfold joinedFacts
 simp only [Bool.and_eq_true]
 refine ⟨⟨⟨⟨⟨⟨⟨⟨⟨⟨⟨⟨⟨⟨⟨⟨⟨⟨⟨⟨⟨⟨⟨⟨⟨⟨⟨⟨⟨⟨⟨?_,?_⟩,?_⟩,?_⟩,?_⟩,?_⟩,?_⟩,?_⟩,?_⟩,?_⟩,?_⟩,?_⟩,?_⟩,?_⟩,?_⟩,?_⟩,?_⟩,?_⟩,?_⟩,?_⟩,?_⟩,?_⟩,?_⟩,?_⟩,?_⟩,?_⟩,?_⟩,?_⟩,?_⟩,?_⟩,?_⟩,?_⟩
 ·kernel_rfl
 ·exact laidOut
 ·exact mapsRow
 ·kernel_rfl
 ·kernel_rfl
 ·kernel_rfl
 ·kernel_rfl
 ·kernel_rfl
 ·kernel_rfl
 ·exact ip8
 ·exact uf8
 ·exact rc8
 ·exact nm8
 ·kernel_rfl
 ·kernel_rfl
 ·kernel_rfl
 ·kernel_rfl
 ·kernel_rfl
 ·kernel_rfl
 ·kernel_rfl
 ·kernel_rfl
 ·kernel_rfl
 ·exact beq_iff_eq.2 plainK.symm
 ·kernel_rfl
 ·exact stopsH
 ·exact mayE
 ·exact beq_iff_eq.2 liftsF.symm
 ·exact beq_iff_eq.2 makeP
 ·kernel_rfl
 ·kernel_rfl
 ·kernel_rfl
 ·kernel_rfl
theorem Gn:Rows.TopChainAlikeSaid:=
 OpenClaim.holds_of_wide 8 Tryz.f8 rfl rfl rfl rfl rfl rfl rfl ⟨rfl,rfl,rfl,rfl,rfl⟩ rfl rfl rfl rfl rfl (by kernel_rfl) Tryz.func8 closed8
  (of_decide_eq_true (by kernel_rfl)) (by unfold Func.isWrapper;first | (rw [if_pos (by decide +kernel)];kernel_rfl) | (rw [if_neg (by decide +kernel)];exact ⟨rfl,rfl⟩))
  (fun os started H enc _=>Ev os started H enc)
theorem topChainAlike_card:Rows.TopChainAlikeCardSaid:=
 Claim7.holds_tied_plain_at .later [] [.data, .data, .data, .data] true (true, "23d05d18fa3c86235daac5fd9daa4562b67a46c45fa2b321db33d85279808ee3") false Gn (fun _ h => by cases h) (by kernel_rfl) (fun _ h => by cases h) topChainAlike_row_tie rfl ⟨rfl, rfl⟩ mainI rfl
  (fun f fn hf hfn=>by
   obtain rfl:f=8:=Option.some.inj ((show Tryz.prog.funcNamed Rows.topChainAlikeRow.func=some 8 by kernel_rfl).symm.trans hf) |>.symm
   obtain rfl:fn=Tryz.f8:=(Option.some.inj (Tryz.func8.symm.trans hfn)).symm
   exact ⟨looksN,fun j t ht=>by
    rw [Tryz.params8] at ht
    have hm:t∈[24,46]:=by simpa using Array.mem_of_getElem? ht
    have hall:([24,46].all fun u=>!Tryz.prog.wantsStandIn u)=true:=by kernel_rfl
    exact (show Tryz.prog.wantsStandIn t=false by simpa using List.all_eq_true.1 hall t hm)⟩)
  gb8
end Go.Proofs.YtohmmpdeoahmmaaGreatDoor

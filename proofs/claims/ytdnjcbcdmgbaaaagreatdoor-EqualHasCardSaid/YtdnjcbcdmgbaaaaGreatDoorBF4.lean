/- The statement EqualHas, as its tied card: the Go function returns true, and its arguments read as they did, for every input. No condition is added. -/
import Derived.Test.YtdnjcbcdmgbaaaaGreatDoorBp6
import Derived.Test.YtdnjcbcdmgbaaaaGreatDoorBp0
set_option synthInstance.checkSynthOrder false
set_option synthInstance.maxSize 10000
set_option synthInstance.maxHeartbeats 400000
set_option maxRecDepth 100000
set_option maxHeartbeats 4000000
set_option linter.unusedVariables false
set_option linter.unusedSimpArgs false
set_option linter.defProp false
namespace Go.Proofs.YtdnjcbcdmgbaaaaGreatDoor
open Go Go.ChangeShapes Go.WideShapes Go.ChangeAt Go.RowKit Go.Pn
def Ns64:Type:=R64×Bool
instance:Rep Ns64:=Rep.via (fun x:Ns64=>((x.1,x.2):R64×Bool))
def ns64 (x:Ns64):Ab:=⟨x.1.1,x.2⟩
theorem rdA64:Rdt Tryz.prog 77 Ns64:=rdst (g:=fun b=>b) (fun _=>rfl) Tryz.underlying77 (by kernel_rfl) (Br rfl (by kernel_rfl) (rd64 Tryz.underlying3) (Vr rfl (by kernel_rfl) (rdb Tryz.underlying4)))
theorem rdB64:Rdt Tryz.prog 78 (List Ns64):=rdl Tryz.underlying78 (by kernel_rfl) (by decide) rdA64
theorem rdC64:Rdt Tryz.prog 39 (List (List Ns64)):=rdl Tryz.underlying39 (by kernel_rfl) (by decide) rdB64
theorem rd22:Rdt Tryz.prog 22 (List ByteArray):=rdl Tryz.underlying22 (by kernel_rfl) (by decide) (rds Tryz.underlying9)
theorem rd118:Rdt Tryz.prog 118 Go.Pn.Expr:=rdEx Tryz.underlying118 (by kernel_rfl) rfl rfl rfl Tryz.underlying3 Tryz.underlying3 Tryz.underlying116 (by kernel_rfl) (by kernel_rfl) (by kernel_rfl)
theorem rd120:Rdt Tryz.prog 120 Af:=rdst (g:=fun b=>⟨b.1,b.2.1,b.2.2.1,b.2.2.2.1,b.2.2.2.2.1,b.2.2.2.2.2⟩) (fun _=>rfl) Tryz.underlying120 (by kernel_rfl) (Br rfl (by kernel_rfl) (rds Tryz.underlying9) (Br rfl (by kernel_rfl) (rdi Tryz.underlying3) (Br rfl (by kernel_rfl) rd118 (Br rfl (by kernel_rfl) rd118 (Br rfl (by kernel_rfl) (rdi Tryz.underlying3) (Vr rfl (by kernel_rfl) (rdb Tryz.underlying4)))))))
theorem rd23:Rdt Tryz.prog 23 (List Af):=rdl Tryz.underlying23 (by kernel_rfl) (by decide) rd120
theorem rd24:Rdt Tryz.prog 24 (List Int):=rdl Tryz.underlying24 (by kernel_rfl) (by decide) (rdi Tryz.underlying3)
theorem rd26:Rdt Tryz.prog 26 Aa:=rdst (g:=fun b=>⟨b.1,b.2.1,b.2.2.1,b.2.2.2.1,b.2.2.2.2⟩) (fun _=>rfl) Tryz.underlying26 (by kernel_rfl) (Br rfl (by kernel_rfl) (rdi Tryz.underlying3) (Br rfl (by kernel_rfl) rd22 (Br rfl (by kernel_rfl) rd23 (Br rfl (by kernel_rfl) rd24 (Vr rfl (by kernel_rfl) rd24)))))
theorem rd27:Rdt Tryz.prog 27 (List Bool):=rdl Tryz.underlying27 (by kernel_rfl) (by decide) (rdb Tryz.underlying4)
theorem rd29:Rdt Tryz.prog 29 Ad:=rdst (g:=fun b=>⟨b.1,b.2.1,b.2.2⟩) (fun _=>rfl) Tryz.underlying29 (by kernel_rfl) (Br rfl (by kernel_rfl) rd26 (Br rfl (by kernel_rfl) rd26 (Vr rfl (by kernel_rfl) rd27)))
theorem rd77:Rdt Tryz.prog 77 Ab:=rdst (g:=fun b=>⟨b.1,b.2⟩) (fun _=>rfl) Tryz.underlying77 (by kernel_rfl) (Br rfl (by kernel_rfl) (rdi Tryz.underlying3) (Vr rfl (by kernel_rfl) (rdb Tryz.underlying4)))
theorem rd78:Rdt Tryz.prog 78 (List Ab):=rdl Tryz.underlying78 (by kernel_rfl) (by decide) rd77
theorem rd39:Rdt Tryz.prog 39 (List (List Ab)):=rdl Tryz.underlying39 (by kernel_rfl) (by decide) rd78
theorem hps4:∀ t∈Tryz.f4.params.toList,Tryz.prog.readableRec t=true∧t < Tryz.prog.types.size:=by
 rw [Tryz.params4]
 intro t ht
 have ht:t∈[29,39]:=ht
 have hall:([29,39].all fun u=>Tryz.prog.readableRec u && decide (u < Tryz.prog.types.size))=true:=by kernel_rfl
 simpa using List.all_eq_true.1 hall t ht
theorem calls4 {W:World} {v0:Value} {x0:Ad} {v1:Value} {x1:List (List Ab)} (h0:(Va x0).p [] No W v0) (h1:(Va x1).p [] No W v1) (q1:x1.length≤9223372036854775807) (q2:∀ a∈x1,∀ s∈a,I64_ s.Actuator):Calls Tryz.prog 4 #[v0,v1] W fun e W'=>e=.returned (.bool true)∧Below W.heap.size W W':=by
 refine ((s4 FF x0 x1 true (D9 x0 x1 q1 q2)) [v0,v1] No W (fun _ h=>h.elim) ⟨h0,h1,trivial⟩).2.mono ?_
 rintro e W' ⟨u,rfl,hx,F,_,_,hF,cs,hv,hr⟩
 refine ⟨?_,hx.below⟩
 have hr:cs=[.bool true]:=hr
 subst hr
 rw [hv];rfl
set_option maxRecDepth 100000 in
theorem Ox (os:Os) (started:os.Started) (H:Type) (enc:TypeId×Value→H) :
  ReturnsInHanded {} Tryz.checked os 4 .any (fun w args=>(Rows.equalHasSpec.pre enc Tryz.prog Tryz.f4 [] false w args∧laidMetH Tryz.prog laid3 w)∧sizedMet enc Tryz.prog Tryz.f4 (OpenSpec.ofChange Rows.equalHasSpec) false w args)
   (Rows.equalHasSpec.post enc Tryz.prog Tryz.f4 false true false false):=by
 refine returnsInHanded_of_change_and (C:=Tryz.checked) (X:=fun w _=>laidMetH Tryz.prog laid3 w) (fun _ _ _ hh h=>h.of_heap hh) own started (by kernel_rfl) Tryz.func4
  (ChangeSpec.witness_shaped (enc:=enc) (C:=Tryz.checked) (os:=os) (X:=fun w _=>laidMetH Tryz.prog laid3 w) false (World.laidAll Tryz.prog os laid3) #[.agg #[.int .i64 0,.slice none 0 0,.slice none 0 0,.slice none 0 0,.slice none 0 0,.int .i64 0,.slice none 0 0,.slice none 0 0,.slice none 0 0,.slice none 0 0,.slice none 0 0],.slice none 0 0] 8 (World.laidAll_os _ _ _)
   (World.shaped_of_ZipB (by kernel_rfl) (by kernel_rfl)) (by kernel_rfl) (by kernel_rfl) (by kernel_rfl) (laid_met os _)) ?_
 intro W base args ds gs before hval0 hW hc _ hL _
 have hval:∀ (j:Nat) t v,Tryz.f4.params[j]?=some t→args[j]?=some v→Value.okWide Tryz.prog W .any base t v:=hval0
 have hW':=hW
 obtain ⟨p,q,hA0,hV,rfl,_,_⟩:=hW
 have hA:DataW.TrodAll enc Tryz.prog W 0 (fun _=>true) true Tryz.f4.params.toList args.toList ds p:=hA0
 rw [Tryz.params4] at hA hval
 obtain ⟨v0,v1,d0,d1,p0,p1,rfl,rfl,rfl,h0,h1⟩:=trodAll_two hA
 obtain ⟨x0,hx0⟩:=Zp Tryz.underlying29 rfl rd29 (hval 0 29 v0 rfl rfl) h0
 obtain ⟨y1,hy1⟩:=DE Tryz.underlying39 rdC64 (hval 1 39 v1 rfl rfl) h1
 have hl1:=va_len Tryz.underlying39 h1 hy1
 have hx1:=va_map (f:=List.map ns64) rfl (Zy rfl (fun _ _ _ h=>h)) hy1
 have q1:(y1.map (List.map ns64)).length≤9223372036854775807:=by rw [List.length_map];exact hl1
 have q2:∀ a∈y1.map (List.map ns64),∀ s∈a,I64_ s.Actuator:=by
  intro a ha s hs
  obtain ⟨b,_,rfl⟩:=List.mem_map.1 ha
  obtain ⟨u,_,rfl⟩:=List.mem_map.1 hs
  exact u.1.2
 refine (calls4 hx0 hx1 q1 q2).mono fun e W' ⟨he,hB⟩=>?_
 subst he
 exact ⟨_,rfl,AB (P:=Tryz.prog) laidOut hps4 (tb:=4) (by kernel_rfl) Tryz.underlying4 rfl ⟨rfl,rfl,rfl⟩ hW' hB⟩
theorem ip4:(Rows.equalHasRow.inPlace == Tryz.prog.inPlace 4)=true:=by kernel_rfl
theorem uf4:(Rows.equalHasRow.unfollowed == Tryz.prog.unfollowed 4)=true:=by kernel_rfl
theorem rc4:(Rows.equalHasRow.recurses == Tryz.prog.recurses 4)=true:=by kernel_rfl
theorem nm4:(Rows.equalHasRow.named == Tryz.prog.varsNamed 4)=true:=by kernel_rfl
theorem gb4:false=Rows.equalHasRow.goesBy Tryz.prog:=by kernel_rfl
theorem closed4:joinedFacts Tryz.prog 4 Tryz.f4 Rows.equalHasSpec Rows.equalHasRow=true:=by
 unfold joinedFacts
 simp only [Bool.and_eq_true]
 refine ⟨⟨⟨⟨⟨⟨⟨⟨⟨⟨⟨⟨⟨⟨⟨⟨⟨⟨⟨⟨⟨⟨⟨⟨⟨⟨⟨⟨⟨⟨⟨?_,?_⟩,?_⟩,?_⟩,?_⟩,?_⟩,?_⟩,?_⟩,?_⟩,?_⟩,?_⟩,?_⟩,?_⟩,?_⟩,?_⟩,?_⟩,?_⟩,?_⟩,?_⟩,?_⟩,?_⟩,?_⟩,?_⟩,?_⟩,?_⟩,?_⟩,?_⟩,?_⟩,?_⟩,?_⟩,?_⟩,?_⟩
 ·kernel_rfl
 ·exact laidOut
 ·exact mapsRow
 ·kernel_rfl
 ·kernel_rfl
 ·kernel_rfl
 ·kernel_rfl
 ·kernel_rfl
 ·kernel_rfl
 ·exact ip4
 ·exact uf4
 ·exact rc4
 ·exact nm4
 ·kernel_rfl
 ·kernel_rfl
 ·kernel_rfl
 ·kernel_rfl
 ·kernel_rfl
 ·kernel_rfl
 ·kernel_rfl
 ·kernel_rfl
 ·kernel_rfl
 ·exact beq_iff_eq.2 plainK.symm
 ·kernel_rfl
 ·exact stopsH
 ·exact mayE
 ·exact beq_iff_eq.2 liftsF.symm
 ·exact beq_iff_eq.2 makeP
 ·kernel_rfl
 ·kernel_rfl
 ·kernel_rfl
 ·kernel_rfl
theorem Sy:Rows.EqualHasSaid:=
 OpenClaim.holds_of_wide 4 Tryz.f4 rfl rfl rfl rfl rfl rfl rfl ⟨rfl,rfl,rfl,rfl,rfl⟩ rfl rfl rfl rfl rfl (by kernel_rfl) Tryz.func4 closed4
  (of_decide_eq_true (by kernel_rfl)) (by unfold Func.isWrapper;first | (rw [if_pos (by decide +kernel)];kernel_rfl) | (rw [if_neg (by decide +kernel)];exact ⟨rfl,rfl⟩))
  (fun os started H enc _=>Ox os started H enc)
theorem equalHas_card:Rows.EqualHasCardSaid:=
 Claim7.holds_tied_plain_at .later [] [.data, .data, .data] true (true, "93b973e9de75b8fe6d3c66e3f5ec221b02e23d53a97c840407fe20dfcc7232ca") false Sy (fun _ h => by cases h) (by kernel_rfl) (fun _ h => by cases h) equalHas_row_tie rfl ⟨rfl, rfl⟩ mainI rfl
  (fun f fn hf hfn=>by
   obtain rfl:f=4:=Option.some.inj ((show Tryz.prog.funcNamed Rows.equalHasRow.func=some 4 by kernel_rfl).symm.trans hf) |>.symm
   obtain rfl:fn=Tryz.f4:=(Option.some.inj (Tryz.func4.symm.trans hfn)).symm
   exact ⟨looksN,fun j t ht=>by
    rw [Tryz.params4] at ht
    have hm:t∈[29,39]:=by simpa using Array.mem_of_getElem? ht
    have hall:([29,39].all fun u=>!Tryz.prog.wantsStandIn u)=true:=by kernel_rfl
    exact (show Tryz.prog.wantsStandIn t=false by simpa using List.all_eq_true.1 hall t hm)⟩)
  gb4
end Go.Proofs.YtdnjcbcdmgbaaaaGreatDoor

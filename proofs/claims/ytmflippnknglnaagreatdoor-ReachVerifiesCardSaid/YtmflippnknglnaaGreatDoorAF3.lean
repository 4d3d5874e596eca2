/- The statement ReachVerifies, as its tied card: the Go function returns true, and its arguments read as they did, for every input. No condition is added. -/
import Derived.Test.YtmflippnknglnaaGreatDoorAp5
import Derived.Test.YtmflippnknglnaaGreatDoorAp0
set_option synthInstance.checkSynthOrder false
set_option synthInstance.maxSize 10000
set_option synthInstance.maxHeartbeats 400000
set_option maxRecDepth 100000
set_option maxHeartbeats 4000000
set_option linter.unusedVariables false
set_option linter.unusedSimpArgs false
set_option linter.defProp false
namespace Go.Proofs.YtmflippnknglnaaGreatDoor
open Go Go.ChangeShapes Go.WideShapes Go.ChangeAt Go.RowKit Go.Pn
theorem rd22:Rdt Tryz.prog 22 (List ByteArray):=rdl Tryz.underlying22 (by kernel_rfl) (by decide) (rds Tryz.underlying9)
theorem rd43:Rdt Tryz.prog 43 Go.Pn.Expr:=rdEx Tryz.underlying43 (by kernel_rfl) rfl rfl rfl Tryz.underlying3 Tryz.underlying3 Tryz.underlying41 (by kernel_rfl) (by kernel_rfl) (by kernel_rfl)
theorem rd45:Rdt Tryz.prog 45 Ad:=rdst (g:=fun b=>⟨b.1,b.2.1,b.2.2.1,b.2.2.2.1,b.2.2.2.2.1,b.2.2.2.2.2⟩) (fun _=>rfl) Tryz.underlying45 (by kernel_rfl) (Aw rfl (by kernel_rfl) (rds Tryz.underlying9) (Aw rfl (by kernel_rfl) (rdi Tryz.underlying3) (Aw rfl (by kernel_rfl) rd43 (Aw rfl (by kernel_rfl) rd43 (Aw rfl (by kernel_rfl) (rdi Tryz.underlying3) (Nq rfl (by kernel_rfl) (rdb Tryz.underlying4)))))))
theorem rd23:Rdt Tryz.prog 23 (List Ad):=rdl Tryz.underlying23 (by kernel_rfl) (by decide) rd45
theorem rd24:Rdt Tryz.prog 24 (List Int):=rdl Tryz.underlying24 (by kernel_rfl) (by decide) (rdi Tryz.underlying3)
theorem rd26:Rdt Tryz.prog 26 Aa:=rdst (g:=fun b=>⟨b.1,b.2.1,b.2.2.1,b.2.2.2.1,b.2.2.2.2⟩) (fun _=>rfl) Tryz.underlying26 (by kernel_rfl) (Aw rfl (by kernel_rfl) (rdi Tryz.underlying3) (Aw rfl (by kernel_rfl) rd22 (Aw rfl (by kernel_rfl) rd23 (Aw rfl (by kernel_rfl) rd24 (Nq rfl (by kernel_rfl) rd24)))))
theorem rd27:Rdt Tryz.prog 27 (List Bool):=rdl Tryz.underlying27 (by kernel_rfl) (by decide) (rdb Tryz.underlying4)
theorem rd49:Rdt Tryz.prog 49 Ac:=rdst (g:=fun b=>⟨b.1,b.2.1,b.2.2.1,b.2.2.2.1,b.2.2.2.2⟩) (fun _=>rfl) Tryz.underlying49 (by kernel_rfl) (Aw rfl (by kernel_rfl) rd24 (Aw rfl (by kernel_rfl) rd27 (Aw rfl (by kernel_rfl) rd27 (Aw rfl (by kernel_rfl) rd27 (Nq rfl (by kernel_rfl) rd24)))))
theorem rd28:Rdt Tryz.prog 28 (List Ac):=rdl Tryz.underlying28 (by kernel_rfl) (by decide) rd49
theorem rd29:Rdt Tryz.prog 29 (List (List Int)):=rdl Tryz.underlying29 (by kernel_rfl) (by decide) rd24
theorem rd31:Rdt Tryz.prog 31 Ag:=rdst (g:=fun b=>⟨b.1,b.2⟩) (fun _=>rfl) Tryz.underlying31 (by kernel_rfl) (Aw rfl (by kernel_rfl) rd28 (Nq rfl (by kernel_rfl) rd29))
def St6:Type:=List R64×List Bool×List Bool×List Bool×List R64
instance:Rep St6:=Rep.via (fun x:St6=>((x.1,x.2.1,x.2.2.1,x.2.2.2.1,x.2.2.2.2):List R64×List Bool×List Bool×List Bool×List R64))
def Sp6:Type:=List St6×List (List Int)
instance:Rep Sp6:=Rep.via (fun x:Sp6=>((x.1,x.2):List St6×List (List Int)))
def vl6 (x:R64):Int:=x.1
def st6 (x:St6):Ac:=⟨x.1.map vl6,x.2.1,x.2.2.1,x.2.2.2.1,x.2.2.2.2.map vl6⟩
def sp6 (x:Sp6):Ag:=⟨x.1.map st6,x.2⟩
theorem hst6 (w:World) (cs:List Value) (a:St6) (h:Rep.rep No w cs a):Rep.rep No w cs (st6 a):=by
 obtain ⟨c1,d1,e1,p1,c2,d2,e2,p2,c3,d3,e3,p3,c4,c5,e4,p4,p5⟩:=h
 exact ⟨c1,d1,e1,Sv (f:=vl6) rfl (fun _ _ _ h=>h) w c1 _ p1,c2,d2,e2,p2,c3,d3,e3,p3,c4,c5,e4,p4,Sv (f:=vl6) rfl (fun _ _ _ h=>h) w c5 _ p5⟩
theorem hsp6 {w:World} {v:Value} {a:Sp6} (h:(Va a).p [] No w v):(Va (sp6 a)).p [] No w v:=by
 obtain ⟨h0,cs,h1,c1,d1,e1,p1,p2⟩:=h
 exact ⟨h0,cs,h1,c1,d1,e1,Sv (f:=st6) rfl hst6 w c1 _ p1,p2⟩
theorem rdA64:Rdt Tryz.prog 24 (List R64):=rdl Tryz.underlying24 (by kernel_rfl) (by decide) (rd64 Tryz.underlying3)
theorem rdB64:Rdt Tryz.prog 49 St6:=rdst (g:=fun b=>b) (fun _=>rfl) Tryz.underlying49 (by kernel_rfl) (Aw rfl (by kernel_rfl) rdA64 (Aw rfl (by kernel_rfl) rd27 (Aw rfl (by kernel_rfl) rd27 (Aw rfl (by kernel_rfl) rd27 (Nq rfl (by kernel_rfl) rdA64)))))
theorem rdC64:Rdt Tryz.prog 28 (List St6):=rdl Tryz.underlying28 (by kernel_rfl) (by decide) rdB64
theorem rdD64:Rdt Tryz.prog 31 Sp6:=rdst (g:=fun b=>b) (fun _=>rfl) Tryz.underlying31 (by kernel_rfl) (Aw rfl (by kernel_rfl) rdC64 (Nq rfl (by kernel_rfl) rd29))
theorem hTb {W:World} (h:laidMetH Tryz.prog laid3 W) {v:Value}:TbT.p [] No W v:=by
 rw [MakeChecks.laidMetH_plain _ _ _ (by kernel_rfl)] at h
 have h2 : Lib.TabIs Tryz.prog W "internal/strconv.uint64pow10" .u64 Lib.pow10Tab := Lib.tabIs_of_head (g := 0) (t := 259) (e := 204) (n := 20) (rest := []) (by kernel_rfl) (by kernel_rfl) Tryz.underlying259 Tryz.underlying204 (by kernel_rfl) (by kernel_rfl) (Go.laidMet.tail (Go.laidMet.tail h))
 have hg : Tryz.prog.globalNamed "internal/strconv.uint64pow10" = some 0 := by kernel_rfl
 refine ⟨rfl,0,hg,?_,fun h=>h,h2⟩
 unfold Lib.TabIs World.var? at h2
 rw [hg,Option.bind_some] at h2
 cases he:W.heap[0]? with
 | none=>rw [he] at h2;cases h2
 | some o=>exact (Array.getElem?_eq_some_iff.1 he).1
theorem hps3:∀ t∈Tryz.f3.params.toList,Tryz.prog.readableRec t=true∧t < Tryz.prog.types.size:=by
 rw [Tryz.params3]
 intro t ht
 have ht:t∈[26,27,31]:=ht
 have hall:([26,27,31].all fun u=>Tryz.prog.readableRec u && decide (u < Tryz.prog.types.size))=true:=by kernel_rfl
 simpa using List.all_eq_true.1 hall t ht
theorem calls3 {W:World} {v0:Value} {x0:Aa} {v1:Value} {x1:List Bool} {v2:Value} {x2:Ag} (h0:(TV (Va x0)).p [] No W v0) (h1:(Va x1).p [] No W v1) (h2:(Va x2).p [] No W v2) (q1:∀ s∈x2.States,(∀ a∈s.Ends,I64a a)∧(∀ a∈s.Timers,I64a a)):Calls Tryz.prog 3 #[v0,v1,v2] W fun e W'=>e=.returned (.bool true)∧Below W.heap.size W W':=by
 refine ((s10003 FF x0 x1 x2 true (Sq x0 x1 x2 q1)) [v0,v1,v2] No W (fun _ h=>h.elim) ⟨h0,h1,h2,trivial⟩).2.mono ?_
 rintro e W' ⟨u,rfl,hx,F,_,_,hF,cs,hv,hr⟩
 refine ⟨?_,hx.below⟩
 have hr:cs=[.bool true]:=hr
 subst hr
 rw [hv];rfl
set_option maxRecDepth 100000 in
theorem Ew (os:Os) (started:os.Started) (H:Type) (enc:TypeId×Value→H) :
  ReturnsInHanded {} Tryz.checked os 3 .any (fun w args=>(Rows.reachVerifiesSpec.pre enc Tryz.prog Tryz.f3 [] false w args∧laidMetH Tryz.prog laid3 w)∧sizedMet enc Tryz.prog Tryz.f3 (OpenSpec.ofChange Rows.reachVerifiesSpec) false w args)
   (Rows.reachVerifiesSpec.post enc Tryz.prog Tryz.f3 false true false false):=by
 refine returnsInHanded_of_change_and (C:=Tryz.checked) (X:=fun w _=>laidMetH Tryz.prog laid3 w) (fun _ _ _ hh h=>h.of_heap hh) own started (by kernel_rfl) Tryz.func3
  (ChangeSpec.witness_shaped (enc:=enc) (C:=Tryz.checked) (os:=os) (X:=fun w _=>laidMetH Tryz.prog laid3 w) false (World.laidAll Tryz.prog os laid3) #[.agg #[.int .i64 0,.slice none 0 0,.slice none 0 0,.slice none 0 0,.slice none 0 0],.slice none 0 0,.agg #[.slice none 0 0,.slice none 0 0]] 8 (World.laidAll_os _ _ _)
   (World.shaped_of_ZipB (by kernel_rfl) (by kernel_rfl)) (by kernel_rfl) (by kernel_rfl) (by kernel_rfl) (laid_met os _)) ?_
 intro W base args ds gs before hval0 hW hc _ hL _
 have hval:∀ (j:Nat) t v,Tryz.f3.params[j]?=some t→args[j]?=some v→Value.okWide Tryz.prog W .any base t v:=hval0
 have hW':=hW
 obtain ⟨p,q,hA0,hV,rfl,_,_⟩:=hW
 have hA:DataW.TrodAll enc Tryz.prog W 0 (fun _=>true) true Tryz.f3.params.toList args.toList ds p:=hA0
 rw [Tryz.params3] at hA hval
 obtain ⟨v0,v1,v2,d0,d1,d2,p0,p1,p2,rfl,rfl,rfl,h0,h1,h2⟩:=trodAll_three hA
 obtain ⟨x0,hx0⟩:=Py Tryz.underlying26 rfl rd26 (hval 0 26 v0 rfl rfl) h0
 have hx0:=(⟨hx0,hTb hL⟩:(TV (Va x0)).p [] No W v0)
 obtain ⟨x1,hx1⟩:=AN Tryz.underlying27 rd27 (hval 1 27 v1 rfl rfl) h1
 obtain ⟨y2,hy2⟩:=Py Tryz.underlying31 rfl rdD64 (hval 2 31 v2 rfl rfl) h2
 have hx2:=hsp6 hy2
 have q1:∀ s∈(sp6 y2).States,(∀ a∈s.Ends,I64a a)∧(∀ a∈s.Timers,I64a a):=by
  intro s hs
  obtain ⟨b,_,rfl⟩:=List.mem_map.1 hs
  refine ⟨fun a ha=>?_,fun a ha=>?_⟩
  ·obtain ⟨u,_,rfl⟩:=List.mem_map.1 ha
   exact u.2
  ·obtain ⟨u,_,rfl⟩:=List.mem_map.1 ha
   exact u.2
 refine (calls3 hx0 hx1 hx2 q1).mono fun e W' ⟨he,hB⟩=>?_
 subst he
 exact ⟨_,rfl,Wj (P:=Tryz.prog) laidOut hps3 (tb:=4) (by kernel_rfl) Tryz.underlying4 rfl ⟨rfl,rfl,rfl⟩ hW' hB⟩
theorem ip3:(Rows.reachVerifiesRow.inPlace == Tryz.prog.inPlace 3)=true:=by kernel_rfl
theorem uf3:(Rows.reachVerifiesRow.unfollowed == Tryz.prog.unfollowed 3)=true:=by kernel_rfl
theorem rc3:(Rows.reachVerifiesRow.recurses == Tryz.prog.recurses 3)=true:=by kernel_rfl
theorem nm3:(Rows.reachVerifiesRow.named == Tryz.prog.varsNamed 3)=true:=by kernel_rfl
theorem gb3:false=Rows.reachVerifiesRow.goesBy Tryz.prog:=by kernel_rfl
theorem closed3:joinedFacts Tryz.prog 3 Tryz.f3 Rows.reachVerifiesSpec Rows.reachVerifiesRow=true:=by
 unfold joinedFacts
 simp only [Bool.and_eq_true]
 refine ⟨⟨⟨⟨⟨⟨⟨⟨⟨⟨⟨⟨⟨⟨⟨⟨⟨⟨⟨⟨⟨⟨⟨⟨⟨⟨⟨⟨⟨⟨⟨?_,?_⟩,?_⟩,?_⟩,?_⟩,?_⟩,?_⟩,?_⟩,?_⟩,?_⟩,?_⟩,?_⟩,?_⟩,?_⟩,?_⟩,?_⟩,?_⟩,?_⟩,?_⟩,?_⟩,?_⟩,?_⟩,?_⟩,?_⟩,?_⟩,?_⟩,?_⟩,?_⟩,?_⟩,?_⟩,?_⟩,?_⟩
 ·kernel_rfl
 ·exact laidOut
 ·exact mapsRow
 ·kernel_rfl
 ·kernel_rfl
 ·kernel_rfl
 ·kernel_rfl
 ·kernel_rfl
 ·kernel_rfl
 ·exact ip3
 ·exact uf3
 ·exact rc3
 ·exact nm3
 ·kernel_rfl
 ·kernel_rfl
 ·kernel_rfl
 ·kernel_rfl
 ·kernel_rfl
 ·kernel_rfl
 ·kernel_rfl
 ·kernel_rfl
 ·kernel_rfl
 ·exact beq_iff_eq.2 plainK.symm
 ·kernel_rfl
 ·exact stopsH
 ·exact mayE
 ·exact beq_iff_eq.2 liftsF.symm
 ·exact beq_iff_eq.2 makeP
 ·kernel_rfl
 ·kernel_rfl
 ·kernel_rfl
 ·kernel_rfl
theorem Gm:Rows.ReachVerifiesSaid:=
 OpenClaim.holds_of_wide 3 Tryz.f3 rfl rfl rfl rfl rfl rfl rfl ⟨rfl,rfl,rfl,rfl,rfl⟩ rfl rfl rfl rfl rfl (by kernel_rfl) Tryz.func3 closed3
  (of_decide_eq_true (by kernel_rfl)) (by unfold Func.isWrapper;first | (rw [if_pos (by decide +kernel)];kernel_rfl) | (rw [if_neg (by decide +kernel)];exact ⟨rfl,rfl⟩))
  (fun os started H enc _=>Ew os started H enc)
theorem reachVerifies_card:Rows.ReachVerifiesCardSaid:=
 Claim7.holds_tied_plain_at .later [] [.data, .data, .data] true (true, "8460f5891d5718ad1a74a2c7f6ca8be57dcfada8a2f19e7d45f660fe4ebaf777") false Gm (fun _ h => by cases h) (by kernel_rfl) (fun _ h => by cases h) reachVerifies_row_tie rfl ⟨rfl, rfl⟩ mainI rfl
  (fun f fn hf hfn=>by
   obtain rfl:f=3:=Option.some.inj ((show Tryz.prog.funcNamed Rows.reachVerifiesRow.func=some 3 by kernel_rfl).symm.trans hf) |>.symm
   obtain rfl:fn=Tryz.f3:=(Option.some.inj (Tryz.func3.symm.trans hfn)).symm
   exact ⟨looksN,fun j t ht=>by
    rw [Tryz.params3] at ht
    have hm:t∈[26,27,31]:=by simpa using Array.mem_of_getElem? ht
    have hall:([26,27,31].all fun u=>!Tryz.prog.wantsStandIn u)=true:=by kernel_rfl
    exact (show Tryz.prog.wantsStandIn t=false by simpa using List.all_eq_true.1 hall t hm)⟩)
  gb3
end Go.Proofs.YtmflippnknglnaaGreatDoor

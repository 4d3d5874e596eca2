import Derived.Test.YtpahlccmojdgdaaGreatDoorAp4
set_option linter.unusedVariables false
set_option linter.unusedSimpArgs false
namespace Go.Pn
open Go Go.RowKit Go.Proofs
set_option maxRecDepth 100000 in
theorem s134_1 (f:Nat) (v0:Control) (v1:State) (r:State×(List Int)×Int) (hm:m134_1 f v0 v1=some r):Sp Tryz.prog 134 [Va (v0),Va (v1)] (T3 (Va (r.1)) (Va (r.2.1)) (Va (r.2.2))):=by
 unfold m134_1 at hm
 refine ens Tryz.func134 (by kernel_rfl) rfl Tryz.ntmps134 rfl rfl fun M w_0 a hM hD s=>?_
 refine se (rg (sq s (bx (t rfl)) rfl fun a w s=>sqb 1000 s (bxm (t rfl)) rfl rfl fun b1 a w s=>sqr 1001 s (alr (cs:=[(.slice none 0 0),(.slice none 0 0),(.slice none 0 0),(.slice none 0 0),(.slice none 0 0)]) (z:=.agg #[(.slice none 0 0),(.slice none 0 0),(.slice none 0 0),(.slice none 0 0),(.slice none 0 0)]) (by kernel_rfl) rfl rfl) rfl rfl fun b2 a w s=>sq s (saq cq) rfl fun a w s=>sq s (sa ci) rfl fun a w s=>nl ?_))
 refine se ?_
 obtain ⟨x3,hx3,hm⟩:=bs hm
 refine se (rg (sq s (ld (t rfl)) rfl fun a w s=>sq s (lm (K:=1000) (t rfl) rfl) rfl fun a w s=>sq s (cc rfl (oc (t rfl) (oc (t rfl) on)) (s203 f _ _ _ hx3)) rfl fun a w s=>sq s (sa (t rfl)) rfl fun a w s=>nl ?_))
 refine se (rg (sq s (mv (t rfl)) rfl fun a w s=>sq s (ne (t rfl) ci) rfl fun a w s=>nl ?_))
 refine cm s rfl hm (fun hb hm=>?_) (fun hb hm=>?_)
 ·refine se (rg (sq s (bl31_ ) rfl fun a w s=>sq s (mv (t rfl)) rfl fun a w s=>swd (K:=1001) s (t rfl) rfl (t rfl) rfl fun w s=>sq s (saq cq) rfl fun a w s=>sq s (sa (t rfl)) rfl fun a w s=>nl ?_))
  obtain rfl:=si hm
  refine wpIn_ret ?_
  exact rn hD s rfl (rv3 (rc (K:=1001) rfl rfl) (ro (qns (α:=Int) (t rfl))) (rt rfl))
 ·refine wpIn_skip ?_
  refine se (rg (sq s (saq cq) rfl fun a w s=>nl ?_))
  refine se ?_
  refine se (rg (sq s (mv ci) rfl fun a w s=>nl ?_))
  refine nilt (α:=Int) (d:=8) 1002 3 s rfl rfl fun c6 s=>?_
  obtain ⟨o5,hoo5,hko5⟩:=bs hm
  refine lcI o5 (fun o5s a w=>∃ (o5sc0:Value),St M w_0 43 [(0,Va (v0)),(1,Va (v1)),(2,Pt (v0)),(3,Qv (pb b1 0)),(4,Qv (pb b2 0)),(5,Qv (.slice none 0 0)),(6,Va ((0:Int))),(7,Va (x3)),(8,Qv o5sc0),(19,Va (o5s.1)),(1000,Mg b1 (o5s.2.1)),(1001,Mr b2 [(.slice none 0 0),(.slice none 0 0),(.slice none 0 0),(.slice none 0 0),(.slice none 0 0)]),(1002,Ow 3 o5sc0 (o5s.2.2))] a w) ?_ fun o5s a w ho s=>?_
  ·refine wpIn_block ?_
   refine loI (fun n z4=>m134_1_l1 f v0 n z4) o5 (fun z4 a w=>∃ (z4c0:Value),St M w_0 43 [(0,Va (v0)),(1,Va (v1)),(2,Pt (v0)),(3,Qv (pb b1 0)),(4,Qv (pb b2 0)),(5,Qv (.slice none 0 0)),(6,Va ((0:Int))),(7,Va (x3)),(8,Qv z4c0),(19,Va (z4.1)),(1000,Mg b1 (z4.2.1)),(1001,Mr b2 [(.slice none 0 0),(.slice none 0 0),(.slice none 0 0),(.slice none 0 0),(.slice none 0 0)]),(1002,Ow 3 z4c0 (z4.2.2))] a w) f ((0:Int),v1,([]:List Int)) ⟨c6,s.pick [0,1,2,3,4,5,6,7,8,19,1000,1001,1002]⟩ hoo5 (fun _=>rfl) fun n z4 a w hm s=>?_
   obtain ⟨z4c0,s⟩:=s
   replace hm:m134_1_l1 f v0 (n + 1) z4=some o5:=hm
   unfold m134_1_l1 at hm
   refine se (rg (sq s (lt (t rfl) ci) rfl fun a w s=>nl ?_))
   refine se ?_
   refine cm s rfl hm (fun hb hm=>?_) (fun hb hm=>?_)
   ·refine wpIn_skip ?_
    refine se ?_
    refine wpIn_block ?_
    obtain ⟨x7,hx7,hm⟩:=bs hm
    refine se (rg (sq s (ld (t rfl)) rfl fun a w s=>sq s (lm (K:=1000) (t rfl) rfl) rfl fun a w s=>sqz [1003] hM s (cc rfl (oc (t rfl) (oc (t rfl) on)) (s204 f _ _ _ hx7)) (fun _=>rfl) rfl rfl fun y8 a w s=>sq s (mve (t rfl)) rfl fun a w s=>sq s (Pn.x30 (t rfl)) rfl fun a w s=>sq s (Pn.x31 (t rfl)) rfl fun a w s=>sq s (Pn.x32 (t rfl)) rfl fun a w s=>sqr 1004 s (alr (cs:=[(.slice none 0 0),(.slice none 0 0),(.slice none 0 0),(.slice none 0 0),(.slice none 0 0)]) (z:=.agg #[(.slice none 0 0),(.slice none 0 0),(.slice none 0 0),(.slice none 0 0),(.slice none 0 0)]) (by kernel_rfl) rfl rfl) rfl rfl fun b9 a w s=>swd (K:=1004) s (t rfl) rfl (t rfl) rfl fun w s=>sq s (saq (t rfl)) rfl fun a w s=>sq s (sa (t rfl)) rfl fun a w s=>nl ?_))
    refine se ?_
    refine se (rg (sq s (mv (t rfl)) rfl fun a w s=>sq s (ne (t rfl) ci) rfl fun a w s=>nl ?_))
    refine cm s rfl hm (fun hb hm=>?_) (fun hb hm=>?_)
    ·refine se (rg (sq s (bl31_ ) rfl fun a w s=>sq s (mv (t rfl)) rfl fun a w s=>swd (K:=1001) s (t rfl) rfl (t rfl) rfl fun w s=>sq s (saq cq) rfl fun a w s=>sq s (sa (t rfl)) rfl fun a w s=>nl ?_))
     obtain rfl:=si hm
     replace hm:=hko5
     dsimp only at hm
     obtain rfl:=si hm
     refine wpIn_ret ?_
     exact rn hD s rfl (rv3 (rc (K:=1001) rfl rfl) (ro (qns (α:=Int) (t rfl))) (rt rfl))
    ·refine wpIn_skip ?_
     obtain ⟨x10,hx10,hm⟩:=bs hm
     refine se (rg (sq s (mvq (t rfl)) rfl fun a w s=>sq s (mvq (t rfl)) rfl fun a w s=>sqz [1005] hM s (tfg (k:=1003) (flz (fun _=>flq) (fun _=>(flc flo fln))) rfl (tfg (k:=1002) (flz (fun _=>flq) (fun _=>(flc flo fln))) rfl (cc rfl (oc (ta (k:=1002) (t rfl) rfl) (oc (ta (k:=1003) (t rfl) rfl) on)) (s137 f _ _ _ hx10)))) (fun _=>rfl) rfl rfl fun y11 a w s=>sq s (saq (t rfl)) rfl fun a w s=>nl ?_))
     refine se ?_
     obtain ⟨x12,hx12,hm⟩:=bs hm
     refine se (rg (sq s (lm (K:=1004) (t rfl) rfl) rfl fun a w s=>sq s (lm (K:=1000) (t rfl) rfl) rfl fun a w s=>sq s (cc rfl (oc (t rfl) (oc (t rfl) on)) (s120 f _ _ _ hx12)) rfl fun a w s=>nl ?_))
     refine cm s rfl hm (fun hb hm=>?_) (fun hb hm=>?_)
     ·refine se (rg (sq s (lm (K:=1004) (t rfl) rfl) rfl fun a w s=>sq s (mvq (t rfl)) rfl fun a w s=>swd (K:=1001) s (t rfl) rfl (t rfl) rfl fun w s=>sq s (saq (t rfl)) rfl fun a w s=>sq s (sa ci) rfl fun a w s=>nl ?_))
      obtain rfl:=si hm
      replace hm:=hko5
      dsimp only at hm
      obtain rfl:=si hm
      refine fzk (α:=Int) (k:=1005) hM s rfl fun s=>?_
      refine wpIn_ret ?_
      exact rn hD s rfl (rv3 (rc (K:=1001) rfl rfl) (ro (ta (k:=1005) (t rfl) rfl)) (rt rfl))
     ·refine wpIn_skip ?_
      refine rg (sq s (lm (K:=1004) (t rfl) rfl) rfl fun a w s=>sw (K:=1000) s (t rfl) rfl (t rfl) rfl fun w s=>nl ?_)
      refine rg (sq s (ad (t rfl) ci) rfl fun a w s=>sq s (mv (t rfl)) rfl fun a w s=>nl ?_)
      exact ⟨_,hm,⟨y11,s.rekey (l:=[(0,0),(1,1),(2,2),(3,3),(4,4),(5,5),(6,6),(7,7),(8,8),(19,19),(1000,1000),(1001,1001),(1005,1002)]) (.same rfl (.same rfl (.same rfl (.same rfl (.same rfl (.same rfl (.same rfl (.same rfl (.same rfl (.same rfl (.same rfl (.same rfl (.key (t:=1005) (u:=1002) rfl .nil))))))))))))) rfl rfl⟩⟩
   ·refine wpIn_exit ?_
    exact ⟨_,(si hm).symm,⟨z4c0,s.pick [0,1,2,3,4,5,6,7,8,19,1000,1001,1002]⟩⟩
  ·obtain ⟨o5sc0,s⟩:=s
   subst ho
   replace hm:=hko5
   dsimp only at hm
   refine se (rg (sq s (bl31_ ) rfl fun a w s=>swd (K:=1001) s (t rfl) rfl (t rfl) rfl fun w s=>sq s (saq cq) rfl fun a w s=>sq s (sa ci) rfl fun a w s=>nl ?_))
   obtain rfl:=si hm
   refine wpIn_ret ?_
   exact rn hD s rfl (rv3 (rc (K:=1001) rfl rfl) (ro (qns (α:=Int) (t rfl))) (rt rfl))
def m113 (f:Nat) (v0:Control) (v1:State) (v2:Event):Option (State×(List Int)×Int):=(m135 f v1).bind fun x2=>(bif ((decide ((v2).Kind < (0:Int))) || (decide ((v2).Kind≥(3:Int)))) then some ((⟨([]:List Int),([]:List Bool),([]:List Bool),([]:List Bool),([]:List Int)⟩:State),([]:List Int),(1:Int)) else (idx (List.range 3) ((v2).Kind)).bind fun x6=>((bif x6 == 0 then m189 f v2 x2.1 x2.2.1 x2.2.2.1 x2.2.2.2.1 x2.2.2.2.2 else bif x6 == 1 then m190 f v2 x2.1 x2.2.1 x2.2.2.1 x2.2.2.2.1 x2.2.2.2.2 else bif x6 == 2 then m191 f v2 x2.1 x2.2.1 x2.2.2.1 x2.2.2.2.1 x2.2.2.2.2 else none)).bind fun x9=>(bif (!x9.1) then some ((⟨([]:List Int),([]:List Bool),([]:List Bool),([]:List Bool),([]:List Int)⟩:State),([]:List Int),(14:Int)) else (m134_1 f v0 (⟨x9.2.1,x9.2.2.1,x9.2.2.2.1,x9.2.2.2.2.1,x9.2.2.2.2.2⟩:State)).bind fun x11=>some (x11.1,x11.2.1,x11.2.2)))
set_option maxRecDepth 100000 in
set_option maxHeartbeats 2000000 in
theorem s113 (f:Nat) (v0:Control) (v1:State) (v2:Event) (r:State×(List Int)×Int) (hm:m113 f v0 v1 v2=some r):Sp Tryz.prog 113 [Va (v0),Va (v1),Va (v2)] (T3 (Va (r.1)) (Va (r.2.1)) (Va (r.2.2))):=by
 unfold m113 at hm
 refine ens Tryz.func113 (by kernel_rfl) rfl Tryz.ntmps113 rfl rfl fun M w_0 a hM hD s=>?_
 refine se (rg (sq s (bx (t rfl)) rfl fun a w s=>sq s (bx (t rfl)) rfl fun a w s=>sq s (bx (t rfl)) rfl fun a w s=>sqr 1000 s (alr (cs:=[(.slice none 0 0),(.slice none 0 0),(.slice none 0 0),(.slice none 0 0),(.slice none 0 0)]) (z:=.agg #[(.slice none 0 0),(.slice none 0 0),(.slice none 0 0),(.slice none 0 0),(.slice none 0 0)]) (by kernel_rfl) rfl rfl) rfl rfl fun b1 a w s=>sq s (saq cq) rfl fun a w s=>sq s (sa ci) rfl fun a w s=>nl ?_))
 obtain ⟨x2,hx2,hm⟩:=bs hm
 refine se (rg (sq s (ld (t rfl)) rfl fun a w s=>sqz [1001,1002,1003,1004,1005] hM s (cc rfl (oc (t rfl) on) (s135 f _ _ hx2)) (fun _=>rfl) rfl rfl fun y3 a w s=>sq s (bla (L:=[(0,5)]) (z:=[(.slice none 0 0),(.slice none 0 0),(.slice none 0 0),(.slice none 0 0),(.slice none 0 0)]) (res:=[y3.1,y3.2.1,y3.2.2.1,y3.2.2.2.1,y3.2.2.2.2]) rfl (by kernel_rfl) (by kernel_rfl) (pda (t rfl) pdn) rfl rfl) rfl fun a w s=>sqr 1006 s (bxa (t rfl)) rfl rfl fun b4 a w s=>sq s (saq (t rfl)) rfl fun a w s=>nl ?_))
 refine se (rg (sq s (mvq (t rfl)) rfl fun a w s=>sq s (mkf rfl rfl (qc (t rfl) qn) qn) rfl fun a w s=>sq s (mvq (t rfl)) rfl fun a w s=>sq s (mkf rfl rfl (qc (t rfl) qn) qn) rfl fun a w s=>sq s (mvq (t rfl)) rfl fun a w s=>sq s (mkf rfl rfl (qc (t rfl) qn) qn) rfl fun a w s=>sq s (bly (e:=258) (len:=3) (z:=[.nilFunc,.nilFunc,.nilFunc]) (cs:=[(fv 189 [(pb b4 0)] []),(fv 190 [(pb b4 0)] []),(fv 191 [(pb b4 0)] [])]) rfl (cd1 (t rfl) (ocr rfl) (cd1 (t rfl) (ocr rfl) (cd1 (t rfl) (ocr rfl) cd0))) (by kernel_rfl) (by kernel_rfl) (by kernel_rfl) rfl) rfl fun a w s=>sqr 1007 s (alr (cs:=[.nilFunc,.nilFunc,.nilFunc]) (z:=.agg #[.nilFunc,.nilFunc,.nilFunc]) (by kernel_rfl) rfl rfl) rfl rfl fun b5 a w s=>sra (K:=1007) (m:=[(fv 189 [(pb b4 0)] []),(fv 190 [(pb b4 0)] []),(fv 191 [(pb b4 0)] [])]) (cs':=[(fv 189 [(pb b4 0)] []),(fv 190 [(pb b4 0)] []),(fv 191 [(pb b4 0)] [])]) s (t rfl) rfl (t rfl) (by kernel_rfl) rfl rfl rfl fun w s=>nl ?_))
 refine se ?_
 refine se (rg (sq s (fa (f:=Event.Kind) (t rfl)) rfl fun a w s=>sq s (ld (t rfl)) rfl fun a w s=>sq s (lt (t rfl) ci) rfl fun a w s=>sq s (mv (t rfl)) rfl fun a w s=>sg s rfl rfl (fun hb=>(fa (f:=Event.Kind) (t rfl))) rfl fun a w s=>sg s rfl rfl (fun hb=>(ld (tg rfl hb))) rfl fun a w s=>sg s rfl rfl (fun hb=>(ge (tg rfl hb) ci)) rfl fun a w s=>sq s (poP (t rfl) rfl) rfl fun a w s=>nl ?_))
 refine cm s rfl hm (fun hb hm=>?_) (fun hb hm=>?_)
 ·refine se (rg (sq s (bla (L:=[(0,1),(1,1),(2,1),(3,1),(4,1)]) (z:=[(.slice none 0 0),(.slice none 0 0),(.slice none 0 0),(.slice none 0 0),(.slice none 0 0)]) (res:=[(.slice none 0 0),(.slice none 0 0),(.slice none 0 0),(.slice none 0 0),(.slice none 0 0)]) rfl (by kernel_rfl) (by kernel_rfl) pdn rfl rfl) rfl fun a w s=>sra (K:=1000) (m:=[(.slice none 0 0),(.slice none 0 0),(.slice none 0 0),(.slice none 0 0),(.slice none 0 0)]) (cs':=[(.slice none 0 0),(.slice none 0 0),(.slice none 0 0),(.slice none 0 0),(.slice none 0 0)]) s (t rfl) rfl (t rfl) (by kernel_rfl) rfl rfl rfl fun w s=>sq s (saq cq) rfl fun a w s=>sq s (sa ci) rfl fun a w s=>nl ?_))
  obtain rfl:=si hm
  refine shut (k:=1000) (x:=(⟨([]:List Int),([]:List Bool),([]:List Bool),([]:List Bool),([]:List Int)⟩:State)) s rfl (rpS30 (l:=([(.slice none 0 0)],[(.slice none 0 0)],[(.slice none 0 0)],[(.slice none 0 0)],[(.slice none 0 0)])) (rpn (α:=Int)) (rpn (α:=Bool)) (rpn (α:=Bool)) (rpn (α:=Bool)) (rpn (α:=Int))) fun s=>?_
  refine wpIn_ret ?_
  exact rn hD s rfl (rv3 (rc (K:=1000) rfl rfl) (ro (qns (α:=Int) (t rfl))) (rt rfl))
 ·refine wpIn_skip ?_
  refine se ?_
  obtain ⟨x6,hx6,hm⟩:=bs hm
  obtain ⟨x9,hx9,hm⟩:=bs hm
  refine se (flow s (m:=5) (.cons (.cons (.cons (.cons (.cons .nil rfl (fa (f:=Event.Kind) (t rfl))) rfl (ld (t rfl))) rfl (iax (e:=258) (t rfl) (t rfl) (by kernel_rfl) (by kernel_rfl) hx6)) rfl (lsel (K:=1007) (ds:=[(fv 189 [(pb b4 0)] []),(fv 190 [(pb b4 0)] []),(fv 191 [(pb b4 0)] [])]) (t rfl) rfl rfl (idxr hx6).1 (Nat.le_of_ble_eq_true rfl) (by kernel_rfl))) rfl (ld (t rfl))) (by kernel_rfl) rfl rfl fun a w s=>cgv [1006,1001,1002,1003,1004,1005] [1006,1001,1002,1003,1004,1005] hM s (qsel3 (selt hx9) (t rfl)) rfl (oc (t rfl) on) (vq vn) vn (cgsel3 (Q:=fun F=>Cg Tryz.prog F [Qv (pb b4 0),Va (v2)] [Mr b4 [y3.1,y3.2.1,y3.2.2.1,y3.2.2.2.1,y3.2.2.2.2],Ow 3 y3.1 (x2.1),Ow 4 y3.2.1 (x2.2.1),Ow 4 y3.2.2.1 (x2.2.2.1),Ow 4 y3.2.2.2.1 (x2.2.2.2.1),Ow 3 y3.2.2.2.2 (x2.2.2.2.2)] (Rz (fun x:Unit=>Va (x9.1)) (fun x=>[Mr b4 [y3.1,y3.2.1,y3.2.2.1,y3.2.2.2.1,y3.2.2.2.2],Ow 3 y3.1 (x9.2.1),Ow 4 y3.2.1 (x9.2.2.1),Ow 4 y3.2.2.1 (x9.2.2.2.1),Ow 4 y3.2.2.2.1 (x9.2.2.2.2.1),Ow 3 y3.2.2.2.2 (x9.2.2.2.2.2)]))) hx9 (fun h=>s189 f b4 y3.1 y3.2.1 y3.2.2.1 y3.2.2.2.1 y3.2.2.2.2 _ _ _ _ _ _ _ h) (fun h=>s190 f b4 y3.1 y3.2.1 y3.2.2.1 y3.2.2.2.1 y3.2.2.2.2 _ _ _ _ _ _ _ h) (fun h=>s191 f b4 y3.1 y3.2.1 y3.2.2.1 y3.2.2.2.1 y3.2.2.2.2 _ _ _ _ _ _ _ h)) (kc rfl (kc rfl (kc rfl (kc rfl (kc rfl (kc rfl kn)))))) rfl (fun _=>rfl) rfl rfl rfl fun y10 a w s=>sq s (nt (t rfl)) rfl fun a w s=>nl ?_)
  refine cm s rfl hm (fun hb hm=>?_) (fun hb hm=>?_)
  ·refine se (rg (sq s (bla (L:=[(0,1),(1,1),(2,1),(3,1),(4,1)]) (z:=[(.slice none 0 0),(.slice none 0 0),(.slice none 0 0),(.slice none 0 0),(.slice none 0 0)]) (res:=[(.slice none 0 0),(.slice none 0 0),(.slice none 0 0),(.slice none 0 0),(.slice none 0 0)]) rfl (by kernel_rfl) (by kernel_rfl) pdn rfl rfl) rfl fun a w s=>sra (K:=1000) (m:=[(.slice none 0 0),(.slice none 0 0),(.slice none 0 0),(.slice none 0 0),(.slice none 0 0)]) (cs':=[(.slice none 0 0),(.slice none 0 0),(.slice none 0 0),(.slice none 0 0),(.slice none 0 0)]) s (t rfl) rfl (t rfl) (by kernel_rfl) rfl rfl rfl fun w s=>sq s (saq cq) rfl fun a w s=>sq s (sa ci) rfl fun a w s=>nl ?_))
   obtain rfl:=si hm
   refine shut (k:=1000) (x:=(⟨([]:List Int),([]:List Bool),([]:List Bool),([]:List Bool),([]:List Int)⟩:State)) s rfl (rpS30 (l:=([(.slice none 0 0)],[(.slice none 0 0)],[(.slice none 0 0)],[(.slice none 0 0)],[(.slice none 0 0)])) (rpn (α:=Int)) (rpn (α:=Bool)) (rpn (α:=Bool)) (rpn (α:=Bool)) (rpn (α:=Int))) fun s=>?_
   refine wpIn_ret ?_
   exact rn hD s rfl (rv3 (rc (K:=1000) rfl rfl) (ro (qns (α:=Int) (t rfl))) (rt rfl))
  ·refine wpIn_skip ?_
   refine fzk (α:=Int) (k:=1001) hM s rfl fun s=>?_
   refine fzk (α:=Bool) (k:=1002) hM s rfl fun s=>?_
   refine fzk (α:=Bool) (k:=1003) hM s rfl fun s=>?_
   refine fzk (α:=Bool) (k:=1004) hM s rfl fun s=>?_
   refine fzk (α:=Int) (k:=1005) hM s rfl fun s=>?_
   obtain ⟨x11,hx11,hm⟩:=bs hm
   refine se (flow s (m:=9) (.cons (.cons (.cons (.cons (.cons (.cons (.cons (.cons (.cons .nil rfl (ld (t rfl))) rfl (mvq (t rfl))) rfl (nkq (t rfl))) rfl (fm_ (off:=0) (m:=4) (q:=0) (t rfl) (by kernel_rfl) rfl)) rfl (lra (K:=1006) (ds:=[y3.1,y3.2.1,y3.2.2.1,y3.2.2.2.1,y3.2.2.2.2]) State (t rfl) rfl rfl rfl rfl)) rfl (cc rfl (oc (t rfl) (oc (qad (y:=(⟨x9.2.1,x9.2.2.1,x9.2.2.2.1,x9.2.2.2.2.1,x9.2.2.2.2.2⟩:State)) (t rfl) (rpS30 (l:=([y3.1],[y3.2.1],[y3.2.2.1],[y3.2.2.2.1],[y3.2.2.2.2])) (rpz (k:=1001) rfl) (rpz (k:=1002) rfl) (rpz (k:=1003) rfl) (rpz (k:=1004) rfl) (rpz (k:=1005) rfl)) rfl) on)) (s134_1 f _ _ _ hx11))) rfl (Pn.x30 (t rfl))) rfl (Pn.x31 (t rfl))) rfl (Pn.x32 (t rfl))) (by kernel_rfl) rfl rfl fun a w s=>swd (K:=1000) s (t rfl) rfl (t rfl) rfl fun w s=>sq s (sa (t rfl)) rfl fun a w s=>sq s (sa (t rfl)) rfl fun a w s=>nl ?_)
   obtain rfl:=si hm
   refine wpIn_ret ?_
   exact rn hD s rfl (rv3 (rc (K:=1000) rfl rfl) (rt rfl) (rt rfl))
def m46 (f:Nat) (v0:Control) (v1:State) (v2:Event):Option (State×(List Int)×Int):=(m110 f v0 v1).bind fun x2=>(bif (x2 != (0:Int)) then some ((⟨([]:List Int),([]:List Bool),([]:List Bool),([]:List Bool),([]:List Int)⟩:State),([]:List Int),x2) else (m113 f v0 v1 v2).bind fun x3=>some (x3.1,x3.2.1,x3.2.2))
set_option maxRecDepth 100000 in
theorem s46 (f:Nat) (v0:Control) (v1:State) (v2:Event) (r:State×(List Int)×Int) (hm:m46 f v0 v1 v2=some r):Sp Tryz.prog 46 [Va (v0),Va (v1),Va (v2)] (T3 (Va (r.1)) (Va (r.2.1)) (Va (r.2.2))):=by
 unfold m46 at hm
 refine ens Tryz.func46 (by kernel_rfl) rfl Tryz.ntmps46 rfl rfl fun M w_0 a hM hD s=>?_
 refine se (rg (sq s (bx (t rfl)) rfl fun a w s=>sq s (bx (t rfl)) rfl fun a w s=>sq s (bx (t rfl)) rfl fun a w s=>sqr 1000 s (alr (cs:=[(.slice none 0 0),(.slice none 0 0),(.slice none 0 0),(.slice none 0 0),(.slice none 0 0)]) (z:=.agg #[(.slice none 0 0),(.slice none 0 0),(.slice none 0 0),(.slice none 0 0),(.slice none 0 0)]) (by kernel_rfl) rfl rfl) rfl rfl fun b1 a w s=>sq s (saq cq) rfl fun a w s=>sq s (sa ci) rfl fun a w s=>nl ?_))
 refine se ?_
 obtain ⟨x2,hx2,hm⟩:=bs hm
 refine se (rg (sq s (ld (t rfl)) rfl fun a w s=>sq s (ld (t rfl)) rfl fun a w s=>sq s (cc rfl (oc (t rfl) (oc (t rfl) on)) (s110 f _ _ _ hx2)) rfl fun a w s=>sq s (sa (t rfl)) rfl fun a w s=>nl ?_))
 refine se (rg (sq s (mv (t rfl)) rfl fun a w s=>sq s (ne (t rfl) ci) rfl fun a w s=>nl ?_))
 refine cm s rfl hm (fun hb hm=>?_) (fun hb hm=>?_)
 ·refine se (rg (sq s (bl31_ ) rfl fun a w s=>sq s (mv (t rfl)) rfl fun a w s=>swd (K:=1000) s (t rfl) rfl (t rfl) rfl fun w s=>sq s (saq cq) rfl fun a w s=>sq s (sa (t rfl)) rfl fun a w s=>nl ?_))
  obtain rfl:=si hm
  refine wpIn_ret ?_
  exact rn hD s rfl (rv3 (rc (K:=1000) rfl rfl) (ro (qns (α:=Int) (t rfl))) (rt rfl))
 ·refine wpIn_skip ?_
  obtain ⟨x3,hx3,hm⟩:=bs hm
  refine se (rg (sq s (ld (t rfl)) rfl fun a w s=>sq s (ld (t rfl)) rfl fun a w s=>sq s (ld (t rfl)) rfl fun a w s=>sq s (cc rfl (oc (t rfl) (oc (t rfl) (oc (t rfl) on))) (s113 f _ _ _ _ hx3)) rfl fun a w s=>sq s (Pn.x30 (t rfl)) rfl fun a w s=>sq s (Pn.x31 (t rfl)) rfl fun a w s=>sq s (Pn.x32 (t rfl)) rfl fun a w s=>swd (K:=1000) s (t rfl) rfl (t rfl) rfl fun w s=>sq s (sa (t rfl)) rfl fun a w s=>sq s (sa (t rfl)) rfl fun a w s=>nl ?_))
  obtain rfl:=si hm
  refine wpIn_ret ?_
  exact rn hD s rfl (rv3 (rc (K:=1000) rfl rfl) (rt rfl) (rt rfl))
def m246_l1 (v0:State):Nat→(Int×(List Bool))→Option (Int×(List Bool))
 | 0,_=>none
 | n+1,z1=>(bif (decide (z1.1 < (((v0).Ends).length:Int))) then (idx ((v0).Ends) z1.1).bind fun x4=>(app z1.2 ([(x4 == (0:Int)),(x4 == (2:Int))]:List Bool)).bind fun x5=>m246_l1 v0 n ((wr (z1.1 + (1:Int))),x5) else some (z1.1,z1.2))
def m246 (f:Nat) (v0:State):Option ((List Bool)):=(m246_l1 v0 f ((0:Int),([]:List Bool))).bind fun o2s=>(app o2s.2 ((v0).Inputs)).bind fun x7=>(app x7 ((v0).Values)).bind fun x9=>some x9
set_option maxRecDepth 100000 in
theorem s246 (f:Nat) (v0:State) (r:(List Bool)) (hm:m246 f v0=some r):Sp Tryz.prog 246 [Va (v0)] (Rz (fun x:Value=>Qv x) (fun x=>[Ow 4 x (r)])):=by
 unfold m246 at hm
 refine ens Tryz.func246 (by kernel_rfl) rfl Tryz.ntmps246 rfl rfl fun M w_0 a hM hD s=>?_
 refine se (rg (sq s (bx (t rfl)) rfl fun a w s=>sq s (saq cq) rfl fun a w s=>nl ?_))
 refine se (rg (sq s (saq cq) rfl fun a w s=>nl ?_))
 refine se ?_
 refine se (rg (sq s (fa (f:=State.Ends) (t rfl)) rfl fun a w s=>sq s (ld (t rfl)) rfl fun a w s=>sq s (ln (t rfl)) rfl fun a w s=>sq s (mv ci) rfl fun a w s=>nl ?_))
 refine nilt (α:=Bool) (d:=3) 1000 4 s rfl rfl fun c3 s=>?_
 obtain ⟨o2s,hoo2,hko2⟩:=bs hm
 refine cpI (fun a w=>∃ (o2sc0:Value),St M w_0 28 [(0,Va (v0)),(1,Pt (v0)),(2,Qv (.slice none 0 0)),(3,Qv o2sc0),(7,Va ((v0).Ends)),(8,Va ((((v0).Ends).length:Int))),(9,Va (o2s.1)),(1000,Ow 4 o2sc0 (o2s.2))] a w) ?_ fun a w s=>?_
 ·refine wpIn_block ?_
  refine loI (fun n z1=>m246_l1 v0 n z1) o2s (fun z1 a w=>∃ (z1c0:Value),St M w_0 28 [(0,Va (v0)),(1,Pt (v0)),(2,Qv (.slice none 0 0)),(3,Qv z1c0),(7,Va ((v0).Ends)),(8,Va ((((v0).Ends).length:Int))),(9,Va (z1.1)),(1000,Ow 4 z1c0 (z1.2))] a w) f ((0:Int),([]:List Bool)) ⟨c3,s.pick [0,1,2,3,7,8,9,1000]⟩ hoo2 (fun _=>rfl) fun n z1 a w hm s=>?_
  obtain ⟨z1c0,s⟩:=s
  replace hm:m246_l1 v0 (n + 1) z1=some o2s:=hm
  unfold m246_l1 at hm
  refine se (rg (sq s (lt (t rfl) (t rfl)) rfl fun a w s=>nl ?_))
  refine se ?_
  refine cm s rfl hm (fun hb hm=>?_) (fun hb hm=>?_)
  ·refine wpIn_skip ?_
   refine se ?_
   refine wpIn_block ?_
   obtain ⟨x4,hx4,hm⟩:=bs hm
   refine se (rg (sq s (ix (t rfl) (t rfl) hx4) rfl fun a w s=>sq s (ld (t rfl)) rfl fun a w s=>sq s (sa (t rfl)) rfl fun a w s=>nl ?_))
   obtain ⟨x5,hx5,hm⟩:=bs hm
   refine rg (sq s (mvq (t rfl)) rfl fun a w s=>sq s (mv (t rfl)) rfl fun a w s=>sq s (eq (t rfl) ci) rfl fun a w s=>sq s (mv (t rfl)) rfl fun a w s=>sq s (eq (t rfl) ci) rfl fun a w s=>sq s (bsv (o1 (t rfl) (o1 (t rfl) o0)) rfl rfl (by kernel_rfl)) rfl fun a w s=>apd (α:=Bool) (k:=1000) s (t rfl) rfl (t rfl) hx5 rfl rfl fun c6 a w s=>sq s (saq (t rfl)) rfl fun a w s=>nl ?_)
   refine rg (sq s (ad (t rfl) ci) rfl fun a w s=>sq s (mv (t rfl)) rfl fun a w s=>nl ?_)
   exact ⟨_,hm,⟨c6,s.pick [0,1,2,3,7,8,9,1000]⟩⟩
  ·refine wpIn_exit ?_
   obtain rfl:=si hm
   exact ⟨z1c0,s.pick [0,1,2,3,7,8,9,1000]⟩
 ·obtain ⟨o2sc0,s⟩:=s
  replace hm:=hko2
  obtain ⟨x7,hx7,hm⟩:=bs hm
  obtain ⟨x9,hx9,hm⟩:=bs hm
  refine se (flow2 [(1,Pt (v0))] [0,1,2] [21,22,23] [] [25] [26,25] [(3,[]),(6,[26,25]),(7,[])] s (.skip (.skip (.late (.late (.skip (.cons (.cons (.cons .nil rfl rfl (mvq (t rfl))) rfl rfl (fa (f:=State.Inputs) (t rfl))) rfl rfl (ld (t rfl))) rfl) rfl rfl (fa (f:=State.Values) (t rfl))) rfl rfl (ld (t rfl))) rfl) rfl) (by kernel_rfl) (by kernel_rfl) rfl rfl (sb1 rfl sb0) rfl (by decide) rfl rfl ?_)
  refine ⟨⟨fun _=>rfl,rfl,.inr ⟨(sb1 rfl sb0),sb0,(sn2 rfl sn0)⟩⟩,by kernel_rfl,_,rfl,fun Ψ a w s=>apd (α:=Bool) (k:=1000) s (t rfl) rfl (t rfl) hx7 rfl rfl fun c8 a w s=>nl ?_⟩
  refine nxt Ψ s ?_
  refine ⟨⟨fun _=>rfl,rfl,.inr ⟨(sb1 rfl sb0),sb0,(sn2 rfl sn0)⟩⟩,by kernel_rfl,_,rfl,fun Ψ a w s=>apd (α:=Bool) (k:=1000) s (t rfl) rfl (t rfl) hx9 rfl rfl fun c10 a w s=>nl ?_⟩
  refine nxt Ψ s ?_
  refine ⟨⟨fun _=>rfl,rfl,.inl rfl⟩,by kernel_rfl,_,rfl,fun Ψ a w s=>sq s (saq (t rfl)) rfl fun a w s=>nl ?_⟩
  refine nxt Ψ s ?_
  refine ⟨⟨fun _=>rfl,rfl,.inl rfl⟩,fun a w s=>?_⟩
  replace s:St M w_0 28 [(0,Va (v0)),(1,Pt (v0)),(2,Qv c10),(3,Qv o2sc0),(7,Va ((v0).Ends)),(8,Va ((((v0).Ends).length:Int))),(9,Va (o2s.1)),(1000,Ow 4 c10 (x9))] a w:=s.pick [0,1,2,3,7,8,9,1000]
  obtain rfl:=si hm
  refine wpIn_ret ?_
  exact rz [1000] c10 hM hD s rfl (rv1 (rt rfl)) (kc rfl kn) rfl
def m299_l1 {σ:Type} (g269:Expr→(List Bool)→Option (Bool)) (gy:Bool→σ→Option (Bool×σ)) (v0:Expr) (v1:List Bool):Nat→(Int×σ)→Option (Lo (Int×σ) (σ))
 | 0,_=>none
 | n+1,z1=>(bif (decide (z1.1 < (((v0).Args).length:Int))) then (idx ((v0).Args) z1.1).bind fun x3=>(g269 x3 v1).bind fun x5=>(gy x5 z1.2).bind fun x6=>(bif (!x6.1) then some (.ret x6.2) else m299_l1 g269 gy v0 v1 n ((wr (z1.1 + (1:Int))),x6.2)) else some (.brk (z1.1,z1.2)))
def m299 {σ:Type} (gy:Bool→σ→Option (Bool×σ)) (f:Nat) (g269:Expr→(List Bool)→Option (Bool)) (v0:Expr) (v1:List Bool) (v2:σ):Option (σ):=((m299_l1 g269 gy v0 v1 f ((0:Int),v2)).bind fun o2=>match o2 with | .brk o2s=>some o2s.2 | .ret r=>some r)
set_option maxRecDepth 100000 in
theorem s299 {σ:Type} (E:σ→Ent) [hE:∀ s,Gh (E s)] (n0:Nat) (gy:Bool→σ→Option (Bool×σ)) (ihy:∀ x s r,gy x s=some r→Cy Tryz.prog n0 [Va x] [E s] (Rz (fun _:Unit=>Va r.1) fun _=>[E r.2])) (f:Nat) (g269:Expr→(List Bool)→Option (Bool)) (ih269:∀ (v0:Expr) (v1:List Bool) (r:Bool),g269 v0 v1=some r→Sp Tryz.prog 269 [Va (v0),Va (v1)] (Va (r))) (v0:Expr) (v1:List Bool) (v2:σ) (r:σ) (hm:m299 gy f g269 v0 v1 v2=some r):Cg Tryz.prog 299 [Qv (yv n0),Pt (v0),Pt (v1)] [E (v2)] (Rz (fun x:Unit=>Dd) (fun x=>[E (r)])):=by
 unfold m299 at hm
 refine eng Tryz.func299 (by kernel_rfl) rfl Tryz.ntmps299 rfl rfl fun M w_0 a hM hD s=>?_
 refine se (rg (sq s (fa (f:=Expr.Args) (t rfl)) rfl fun a w s=>sq s (ld (t rfl)) rfl fun a w s=>sq s (ln (t rfl)) rfl fun a w s=>sq s (mv ci) rfl fun a w s=>nl ?_))
 obtain ⟨o2,hoo2,hko2⟩:=bs hm
 refine lcI o2 (fun o2s a w=>St M w_0 20 [(0,Qv (yv n0)),(1,Pt (v0)),(2,Pt (v1)),(7,Va ((v0).Args)),(8,Va ((((v0).Args).length:Int))),(9,Va (o2s.1)),(1000,E (o2s.2))] a w) ?_ fun o2s a w ho s=>?_
 ·refine wpIn_block ?_
  refine loI (fun n z1=>m299_l1 g269 gy v0 v1 n z1) o2 (fun z1 a w=>St M w_0 20 [(0,Qv (yv n0)),(1,Pt (v0)),(2,Pt (v1)),(7,Va ((v0).Args)),(8,Va ((((v0).Args).length:Int))),(9,Va (z1.1)),(1000,E (z1.2))] a w) f ((0:Int),v2) (s.pick [0,1,2,7,8,9,1000]) hoo2 (fun _=>rfl) fun n z1 a w hm s=>?_
  replace hm:m299_l1 g269 gy v0 v1 (n + 1) z1=some o2:=hm
  unfold m299_l1 at hm
  refine se (rg (sq s (lt (t rfl) (t rfl)) rfl fun a w s=>nl ?_))
  refine se ?_
  refine cm s rfl hm (fun hb hm=>?_) (fun hb hm=>?_)
  ·refine wpIn_skip ?_
   refine se ?_
   refine wpIn_block ?_
   obtain ⟨x3,hx3,hm⟩:=bs hm
   refine se (rg (sq s (ix (t rfl) (t rfl) hx3) rfl fun a w s=>sq s (ld (t rfl)) rfl fun a w s=>sqr 1001 s (alr (cs:=[(.int .i64 (0:Int)),(.int .i64 (0:Int)),(.slice none 0 0)]) (z:=.agg #[(.int .i64 (0:Int)),(.int .i64 (0:Int)),(.slice none 0 0)]) (by kernel_rfl) rfl rfl) rfl rfl fun b4 a w s=>swd (K:=1001) s (t rfl) rfl (t rfl) rfl fun w s=>nl ?_))
   obtain ⟨x5,hx5,hm⟩:=bs hm
   obtain ⟨x6,hx6,hm⟩:=bs hm
   refine se (rg (sq s (mvq (t rfl)) rfl fun a w s=>sq s (lm (K:=1001) (t rfl) rfl) rfl fun a w s=>sq s (ld (t rfl)) rfl fun a w s=>sq s (cc rfl (oc (t rfl) (oc (t rfl) on)) (ih269 _ _ _ hx5)) rfl fun a w s=>cgy [1000] [1000] hM s (t rfl) rfl (oc (t rfl) on) (ihy _ _ _ hx6) (kc rfl kn) rfl (fun _=>rfl) rfl rfl rfl fun y7 a w s=>sq s (nt (t rfl)) rfl fun a w s=>nl ?_))
   refine cm s rfl hm (fun hb hm=>?_) (fun hb hm=>?_)
   ·obtain rfl:=si hm
    replace hm:=hko2
    dsimp only at hm
    obtain rfl:=si hm
    refine wpIn_ret ?_
    exact rz [1000] () hM hD s rfl rv0 (kc rfl kn) rfl
   ·refine wpIn_skip ?_
    refine rg (sq s (ad (t rfl) ci) rfl fun a w s=>sq s (mv (t rfl)) rfl fun a w s=>nl ?_)
    exact ⟨_,hm,s.pick [0,1,2,7,8,9,1000]⟩
  ·refine wpIn_exit ?_
   exact ⟨_,(si hm).symm,s.pick [0,1,2,7,8,9,1000]⟩
 ·subst ho
  replace hm:=hko2
  dsimp only at hm
  obtain rfl:=si hm
  exact rze [1000] () hM hD s rfl rv0 (kc rfl kn) rfl
def m324_r1 (g269:Expr→(List Bool)→Option (Bool)) (v0:Bool):Bool→(Unit)×Nat→Option (Bool×((Unit)×Nat)):=fun u4 z2=>match z2 with
 | (z2,0)=>(bif (u4 != v0) then some (false,((),1)) else some (true,((),0)))
 | (_,_ + 1)=>none
def m324 (f:Nat) (g269:Expr→(List Bool)→Option (Bool)) (v0:Bool) (v1:Expr) (v2:List Bool):Option (Bool):=(m299 (m324_r1 g269 v0) f g269 v1 v2 ((),0)).bind fun o5=>(bif o5.2 == 0 then some true else (bif o5.2 == 1 then some false else none))
set_option maxRecDepth 100000 in
theorem s324 (f:Nat) (g269:Expr→(List Bool)→Option (Bool)) (ih269:∀ (v0:Expr) (v1:List Bool) (r:Bool),g269 v0 v1=some r→Sp Tryz.prog 269 [Va (v0),Va (v1)] (Va (r))) (n0:Value) (n1:Value) (v0:Bool) (v1:Expr) (v2:List Bool) (r:Bool) (hm:m324 f g269 v0 v1 v2=some r):Cg Tryz.prog 324 [Qv (fv 299 [] [n0,n1]),Pt (v0)] [At n0 (Pt (v1)),At n1 (Pt (v2))] (Rz (fun x:Unit=>Va (r)) (fun x=>[At n0 (Pt (v1)),At n1 (Pt (v2))])):=by
 unfold m324 at hm
 refine eng Tryz.func324 (by kernel_rfl) rfl Tryz.ntmps324 rfl rfl fun M w_0 a hM hD s=>?_
 refine se (rg (sqb 1002 s (al (z:=false)) rfl rfl fun b1 a w s=>nl ?_))
 refine se ?_
 refine se (rg (sq s (mvq (t rfl)) rfl fun a w s=>nl ?_))
 refine wpIn_block ?_
 obtain ⟨o5,ho5,hko5⟩:=bs hm
 refine rfn (α:=Bool) (X:=Unit) (σ:=Unit) (pe:=fun x=>[Va x]) (gb:=(m324_r1 g269 v0)) (r:=o5) [(1,Pt (v0)),(3,Qv (pb b1 0))] [.ret] (fun z2 n3=>[Mg b1 (false)]) () () 1005 1003 1004 [1002] hM s (t rfl) vn (va (k:=1000) rfl (va (k:=1001) rfl vn)) (kc rfl kn) rfl (fun _ _=>rfl) (fun _ _ h=>look_pick (l:=[1,3]) h) (zs1 (zs1 zs0)) rfl rfl rfl (fun E _ l ihy=>s299 E l (m324_r1 g269 v0) ihy f g269 ih269 _ _ _ _ ho5) (fun l fn D tm htm u4 z2 r hm=>?_) (fun d6 a w n7 s=>?_)
 ·rcases z2 with ⟨z2,_ | j⟩
  ·unfold m324_r1 at hm
   dsimp only at hm
   refine Cy.mk (KL:=1003) (KT:=1004) [1002] [6] z2 htm rfl rfl rfl rfl rfl rfl (fun _=>rfl) fun M w_0 a n3 TB hM hD hTB s=>?_
   refine rg (sq s (sa (t rfl)) rfl fun a w s=>nl ?_)
   refine bgn (K:=1003) s rfl rfl fun RB w hRB s=>?_
   refine wpIn_block ?_
   refine se (rg (sq s (mv (t rfl)) rfl fun a w s=>sq s (ld (t rfl)) rfl fun a w s=>sq s (bne (t rfl) (t rfl) Tryz.underlying4) rfl fun a w s=>nl ?_))
   refine cm s rfl hm (fun hb hm=>?_) (fun hb hm=>?_)
   ·refine se (rg (sw (K:=1002) s (t rfl) rfl cb rfl fun w s=>nl ?_))
    obtain rfl:=si hm
    refine wpIn_ret ?_
    exact rde (KL:=1003) (KT:=1004) [1002] (some (.ret)) 1 false () () hM s rfl rfl hRB hTB (kc rfl kn) rfl rfl rfl rfl
   ·refine wpIn_skip ?_
    obtain rfl:=si hm
    exact rde (KL:=1003) (KT:=1004) [1002] none 0 true () () hM s rfl rfl hRB hTB (kc rfl kn) rfl rfl rfl rfl
  ·unfold m324_r1 at hm
   cases hm
 ·replace hm:=hko5
  rcases bfc hm with ⟨hj,hm⟩ | ⟨hj,hm⟩
  ·refine af0 hj ?_
   refine se (rg (sw (K:=1002) s (t rfl) rfl cb rfl fun w s=>nl ?_))
   obtain rfl:=si hm
   refine wpIn_ret ?_
   refine lvm (KD:=1005) s rfl rfl rfl fun a w ha s=>?_
   rw [← ha]
   exact rz [1000,1001] () hM hD s rfl (rv1 (rc (K:=1002) rfl rfl)) (kc rfl (kc rfl kn)) rfl
  ·rcases bfc hm with ⟨hj,hm⟩ | ⟨hj,hm⟩
   ·refine af1 (k:=0) hj rfl ?_
    obtain rfl:=si hm
    refine wpIn_ret ?_
    refine lvm (KD:=1005) s rfl rfl rfl fun a w ha s=>?_
    rw [← ha]
    exact rz [1000,1001] () hM hD s rfl (rv1 (rc (K:=1002) rfl rfl)) (kc rfl (kc rfl kn)) rfl
   ·cases hm
def m316 (f:Nat) (g269:Expr→(List Bool)→Option (Bool)) (v0:Expr) (v1:List Bool):Option (Bool):=(m315 f false).bind fun x1=>(m324 f g269 x1 v0 v1).bind fun x3=>some (!x3)
set_option maxRecDepth 100000 in
theorem s316 (f:Nat) (g269:Expr→(List Bool)→Option (Bool)) (ih269:∀ (v0:Expr) (v1:List Bool) (r:Bool),g269 v0 v1=some r→Sp Tryz.prog 269 [Va (v0),Va (v1)] (Va (r))) (n0:Value) (n1:Value) (v0:Expr) (v1:List Bool) (r:Bool) (hm:m316 f g269 v0 v1=some r):Cg Tryz.prog 316 [Qv (fv 299 [] [n0,n1])] [At n0 (Pt (v0)),At n1 (Pt (v1))] (Rz (fun x:Unit=>Va (r)) (fun x=>[At n0 (Pt (v0)),At n1 (Pt (v1))])):=by
 unfold m316 at hm
 refine eng Tryz.func316 (by kernel_rfl) rfl Tryz.ntmps316 rfl rfl fun M w_0 a hM hD s=>?_
 refine se (rg (sq s (sa cb) rfl fun a w s=>nl ?_))
 obtain ⟨x1,hx1,hm⟩:=bs hm
 obtain ⟨x3,hx3,hm⟩:=bs hm
 refine se (rg (sqz [1002] hM s (cc rfl (oc cb on) (s315 f _ _ hx1)) (fun _=>rfl) rfl rfl fun y2 a w s=>sq s (mvq (t rfl)) rfl fun a w s=>cgv [1000,1001] [1000,1001] hM s (t rfl) rfl (oc (t rfl) on) vn (va (k:=1002) rfl vn) (s324 f g269 ih269 n0 n1 _ _ _ _ hx3) (kc rfl (kc rfl kn)) rfl (fun _=>rfl) rfl rfl rfl fun y4 a w s=>sq s (nt (t rfl)) rfl fun a w s=>sq s (sa (t rfl)) rfl fun a w s=>nl ?_))
 obtain rfl:=si hm
 refine wpIn_ret ?_
 exact rz [1000,1001] () hM hD s rfl (rv1 (rt rfl)) (kc rfl (kc rfl kn)) rfl
def m269:Nat→Expr→(List Bool)→Option (Bool)
 | 0,_,_=>none
 | f+1,v0,v1=>(bif ((v0).Op == (0:Int)) then some ((v0).Index == (1:Int)) else (bif ((v0).Op == (1:Int)) then (idx v1 ((v0).Index)).bind fun x1=>some x1 else (m298 f).bind fun x4=>(idx (List.range 5) ((v0).Op)).bind fun x6=>(bif x6 == 2 then ((m324 f (m269 f) x4.2.2.2.2.2.2.2.2.2.2.1 v0 v1).bind fun x7=>some x7) else (bif x6 == 3 then ((m324 f (m269 f) x4.2.2.2.2.2.2.2.2.2.2.2 v0 v1).bind fun x7=>some x7) else (bif x6 == 4 then ((m316 f (m269 f) v0 v1).bind fun x7=>some x7) else none)))))
set_option maxRecDepth 100000 in
set_option maxHeartbeats 2000000 in
theorem s269:∀ (f:Nat) (v0:Expr) (v1:List Bool) (r:Bool),m269 f v0 v1=some r→Sp Tryz.prog 269 [Va (v0),Va (v1)] (Va (r)):=by
 intro f
 induction f with
 | zero=>intro v0 v1 r hm;cases hm
 | succ f ih=>
 intro v0 v1 r hm
 unfold m269 at hm
 refine ens Tryz.func269 (by kernel_rfl) rfl Tryz.ntmps269 rfl rfl fun M w_0 a hM hD s=>?_
 refine se (rg (sq s (bx (t rfl)) rfl fun a w s=>sq s (bx (t rfl)) rfl fun a w s=>sq s (sa cb) rfl fun a w s=>nl ?_))
 refine se ?_
 refine se (rg (sq s (fa (f:=Expr.Op) (t rfl)) rfl fun a w s=>sq s (ld (t rfl)) rfl fun a w s=>nl ?_))
 refine wpIn_block ?_
 refine se (rg (sq s (eq (t rfl) ci) rfl fun a w s=>sq s (sa (t rfl)) rfl fun a w s=>nl ?_))
 refine cm s rfl hm (fun hb hm=>?_) (fun hb hm=>?_)
 ·refine se (rg (sq s (fa (f:=Expr.Index) (t rfl)) rfl fun a w s=>sq s (ld (t rfl)) rfl fun a w s=>sq s (eq (t rfl) ci) rfl fun a w s=>sq s (sa (t rfl)) rfl fun a w s=>nl ?_))
  obtain rfl:=si hm
  refine wpIn_ret ?_
  exact rn hD s rfl (rv1 (rt rfl))
 ·refine se (rg (sq s (eq (t rfl) ci) rfl fun a w s=>sq s (sa (t rfl)) rfl fun a w s=>nl ?_))
  refine cm s rfl hm (fun hb hm=>?_) (fun hb hm=>?_)
  ·obtain ⟨x1,hx1,hm⟩:=bs hm
   refine se (rg (sq s (ld (t rfl)) rfl fun a w s=>sq s (fa (f:=Expr.Index) (t rfl)) rfl fun a w s=>sq s (ld (t rfl)) rfl fun a w s=>sq s (ix (t rfl) (t rfl) hx1) rfl fun a w s=>sq s (ld (t rfl)) rfl fun a w s=>sq s (sa (t rfl)) rfl fun a w s=>nl ?_))
   obtain rfl:=si hm
   refine wpIn_ret ?_
   exact rn hD s rfl (rv1 (rt rfl))
  ·refine wpIn_skip ?_
   obtain ⟨x4,hx4,hm⟩:=bs hm
   obtain ⟨x6,hx6,hm⟩:=bs hm
   rcases bfc hm with ⟨hj0,hm⟩ | ⟨_,hm⟩
   ·refine nmk (d:=3) 1004 s rfl rfl fun c2 s=>?_
    refine nmk (d:=2) 1007 s rfl rfl fun c3 s=>?_
    obtain ⟨x7,hx7,hm⟩:=bs hm
    refine se (flow2 [(2,Qv c3),(3,Qv c2)] [0,1,2] [19,20,21] [] [] [24] [(3,[]),(4,[]),(6,[24]),(7,[])] s (.skip (.skip (.late (.skip (.skip (.cons (.cons (.cons .nil rfl rfl (cc rfl on (s298 f _ hx4))) rfl rfl (fa (f:=Expr.Op) (ta (k:=1007) (t rfl) rfl))) rfl rfl (ld (t rfl))) rfl) rfl) rfl rfl (mkf rfl rfl qn (qc (t rfl) (qc (t rfl) qn)))) rfl) rfl) (by kernel_rfl) (by kernel_rfl) rfl rfl (sb1 rfl (sb1 rfl sb0)) rfl (by decide) rfl rfl ?_)
    refine ⟨⟨fun _=>rfl,rfl,.inr ⟨(sb1 rfl (sb1 rfl sb0)),sb0,sn0⟩⟩,by kernel_rfl,_,rfl,fun Ψ a w s=>opz (d:=19) [1008,1009] s rfl (fun _=>rfl) rfl fun y5 s=>sq s (aixA (e:=355) (len:=5) (sz:=3) (cols:=[[(.int .i64 x4.1),(.int .i64 x4.2.2.1),(.int .i64 x4.2.2.2.2.1),(.int .i64 x4.2.2.2.2.2.2.1),(.int .i64 x4.2.2.2.2.2.2.2.2.1)],[(.int .i64 x4.2.1),(.int .i64 x4.2.2.2.1),(.int .i64 x4.2.2.2.2.2.1),(.int .i64 x4.2.2.2.2.2.2.2.1),(.int .i64 x4.2.2.2.2.2.2.2.2.2.1)],[.nilFunc,.nilFunc,(fv 324 [] [y5.1]),(fv 324 [] [y5.2]),(fv 316 [] [])]]) (t rfl) (t rfl) (by kernel_rfl) (by kernel_rfl) (by kernel_rfl) rfl hx6) rfl fun a w s=>nl ?_⟩
    refine nxt Ψ s ?_
    refine ⟨⟨fun _=>rfl,rfl,.inr ⟨(sb1 rfl (sb1 rfl sb0)),sb0,sn0⟩⟩,by kernel_rfl,_,rfl,fun Ψ a w s=>sq s (fldq (off:=2) (t rfl) (by kernel_rfl) rfl) rfl fun a w s=>nl ?_⟩
    refine nxt Ψ s ?_
    refine ⟨⟨fun _=>rfl,rfl,.inr ⟨(sb1 rfl (sb1 rfl sb0)),sb0,sn0⟩⟩,by kernel_rfl,_,rfl,fun Ψ a w s=>cgv [1007,1004] [1007,1004] hM s (qsel hj0 (t rfl) rfl) rfl (oc (t rfl) on) vn (va (k:=1008) rfl vn) (s324 f (m269 f) ih c3 c2 _ _ _ _ hx7) (kc rfl (kc rfl kn)) rfl (fun _=>rfl) rfl rfl rfl fun y8 a w s=>nl ?_⟩
    refine nxt Ψ s ?_
    refine ⟨⟨fun _=>rfl,rfl,.inl rfl⟩,by kernel_rfl,_,rfl,fun Ψ a w s=>sq s (sa (t rfl)) rfl fun a w s=>nl ?_⟩
    refine nxt Ψ s ?_
    refine ⟨⟨fun _=>rfl,rfl,.inl rfl⟩,fun a w s=>?_⟩
    replace s:St M w_0 26 [(0,Va (v0)),(1,Va (v1)),(2,Qv c3),(3,Qv c2),(4,Va (x7)),(6,Va ((v0).Op)),(1007,At c3 (Pt (v0))),(1004,At c2 (Pt (v1)))] a w:=s.pick [0,1,2,3,4,6,1007,1004]
    obtain rfl:=si hm
    refine wpIn_ret ?_
    exact rn hD s rfl (rv1 (rt rfl))
   ·rcases bfc hm with ⟨hj0,hm⟩ | ⟨_,hm⟩
    ·refine nmk (d:=3) 1004 s rfl rfl fun c2 s=>?_
     refine nmk (d:=2) 1007 s rfl rfl fun c3 s=>?_
     obtain ⟨x7,hx7,hm⟩:=bs hm
     refine se (flow2 [(2,Qv c3),(3,Qv c2)] [0,1,2] [19,20,21] [] [] [24] [(3,[]),(4,[]),(6,[24]),(7,[])] s (.skip (.skip (.late (.skip (.skip (.cons (.cons (.cons .nil rfl rfl (cc rfl on (s298 f _ hx4))) rfl rfl (fa (f:=Expr.Op) (ta (k:=1007) (t rfl) rfl))) rfl rfl (ld (t rfl))) rfl) rfl) rfl rfl (mkf rfl rfl qn (qc (t rfl) (qc (t rfl) qn)))) rfl) rfl) (by kernel_rfl) (by kernel_rfl) rfl rfl (sb1 rfl (sb1 rfl sb0)) rfl (by decide) rfl rfl ?_)
     refine ⟨⟨fun _=>rfl,rfl,.inr ⟨(sb1 rfl (sb1 rfl sb0)),sb0,sn0⟩⟩,by kernel_rfl,_,rfl,fun Ψ a w s=>opz (d:=19) [1008,1009] s rfl (fun _=>rfl) rfl fun y5 s=>sq s (aixA (e:=355) (len:=5) (sz:=3) (cols:=[[(.int .i64 x4.1),(.int .i64 x4.2.2.1),(.int .i64 x4.2.2.2.2.1),(.int .i64 x4.2.2.2.2.2.2.1),(.int .i64 x4.2.2.2.2.2.2.2.2.1)],[(.int .i64 x4.2.1),(.int .i64 x4.2.2.2.1),(.int .i64 x4.2.2.2.2.2.1),(.int .i64 x4.2.2.2.2.2.2.2.1),(.int .i64 x4.2.2.2.2.2.2.2.2.2.1)],[.nilFunc,.nilFunc,(fv 324 [] [y5.1]),(fv 324 [] [y5.2]),(fv 316 [] [])]]) (t rfl) (t rfl) (by kernel_rfl) (by kernel_rfl) (by kernel_rfl) rfl hx6) rfl fun a w s=>nl ?_⟩
     refine nxt Ψ s ?_
     refine ⟨⟨fun _=>rfl,rfl,.inr ⟨(sb1 rfl (sb1 rfl sb0)),sb0,sn0⟩⟩,by kernel_rfl,_,rfl,fun Ψ a w s=>sq s (fldq (off:=2) (t rfl) (by kernel_rfl) rfl) rfl fun a w s=>nl ?_⟩
     refine nxt Ψ s ?_
     refine ⟨⟨fun _=>rfl,rfl,.inr ⟨(sb1 rfl (sb1 rfl sb0)),sb0,sn0⟩⟩,by kernel_rfl,_,rfl,fun Ψ a w s=>cgv [1007,1004] [1007,1004] hM s (qsel hj0 (t rfl) rfl) rfl (oc (t rfl) on) vn (va (k:=1009) rfl vn) (s324 f (m269 f) ih c3 c2 _ _ _ _ hx7) (kc rfl (kc rfl kn)) rfl (fun _=>rfl) rfl rfl rfl fun y8 a w s=>nl ?_⟩
     refine nxt Ψ s ?_
     refine ⟨⟨fun _=>rfl,rfl,.inl rfl⟩,by kernel_rfl,_,rfl,fun Ψ a w s=>sq s (sa (t rfl)) rfl fun a w s=>nl ?_⟩
     refine nxt Ψ s ?_
     refine ⟨⟨fun _=>rfl,rfl,.inl rfl⟩,fun a w s=>?_⟩
     replace s:St M w_0 26 [(0,Va (v0)),(1,Va (v1)),(2,Qv c3),(3,Qv c2),(4,Va (x7)),(6,Va ((v0).Op)),(1007,At c3 (Pt (v0))),(1004,At c2 (Pt (v1)))] a w:=s.pick [0,1,2,3,4,6,1007,1004]
     obtain rfl:=si hm
     refine wpIn_ret ?_
     exact rn hD s rfl (rv1 (rt rfl))
    ·rcases bfc hm with ⟨hj0,hm⟩ | ⟨_,hm⟩
     ·refine nmk (d:=3) 1004 s rfl rfl fun c2 s=>?_
      refine nmk (d:=2) 1007 s rfl rfl fun c3 s=>?_
      obtain ⟨x7,hx7,hm⟩:=bs hm
      refine se (flow2 [(2,Qv c3),(3,Qv c2)] [0,1,2] [19,20,21] [] [] [24] [(3,[]),(4,[]),(6,[24]),(7,[])] s (.skip (.skip (.late (.skip (.skip (.cons (.cons (.cons .nil rfl rfl (cc rfl on (s298 f _ hx4))) rfl rfl (fa (f:=Expr.Op) (ta (k:=1007) (t rfl) rfl))) rfl rfl (ld (t rfl))) rfl) rfl) rfl rfl (mkf rfl rfl qn (qc (t rfl) (qc (t rfl) qn)))) rfl) rfl) (by kernel_rfl) (by kernel_rfl) rfl rfl (sb1 rfl (sb1 rfl sb0)) rfl (by decide) rfl rfl ?_)
      refine ⟨⟨fun _=>rfl,rfl,.inr ⟨(sb1 rfl (sb1 rfl sb0)),sb0,sn0⟩⟩,by kernel_rfl,_,rfl,fun Ψ a w s=>opz (d:=19) [1008,1009] s rfl (fun _=>rfl) rfl fun y5 s=>sq s (aixA (e:=355) (len:=5) (sz:=3) (cols:=[[(.int .i64 x4.1),(.int .i64 x4.2.2.1),(.int .i64 x4.2.2.2.2.1),(.int .i64 x4.2.2.2.2.2.2.1),(.int .i64 x4.2.2.2.2.2.2.2.2.1)],[(.int .i64 x4.2.1),(.int .i64 x4.2.2.2.1),(.int .i64 x4.2.2.2.2.2.1),(.int .i64 x4.2.2.2.2.2.2.2.1),(.int .i64 x4.2.2.2.2.2.2.2.2.2.1)],[.nilFunc,.nilFunc,(fv 324 [] [y5.1]),(fv 324 [] [y5.2]),(fv 316 [] [])]]) (t rfl) (t rfl) (by kernel_rfl) (by kernel_rfl) (by kernel_rfl) rfl hx6) rfl fun a w s=>nl ?_⟩
      refine nxt Ψ s ?_
      refine ⟨⟨fun _=>rfl,rfl,.inr ⟨(sb1 rfl (sb1 rfl sb0)),sb0,sn0⟩⟩,by kernel_rfl,_,rfl,fun Ψ a w s=>sq s (fldq (off:=2) (t rfl) (by kernel_rfl) rfl) rfl fun a w s=>nl ?_⟩
      refine nxt Ψ s ?_
      refine ⟨⟨fun _=>rfl,rfl,.inr ⟨(sb1 rfl (sb1 rfl sb0)),sb0,sn0⟩⟩,by kernel_rfl,_,rfl,fun Ψ a w s=>cgv [1007,1004] [1007,1004] hM s (qsel hj0 (t rfl) rfl) rfl (oc (t rfl) on) vn vn (s316 f (m269 f) ih c3 c2 _ _ _ hx7) (kc rfl (kc rfl kn)) rfl (fun _=>rfl) rfl rfl rfl fun y8 a w s=>nl ?_⟩
      refine nxt Ψ s ?_
      refine ⟨⟨fun _=>rfl,rfl,.inl rfl⟩,by kernel_rfl,_,rfl,fun Ψ a w s=>sq s (sa (t rfl)) rfl fun a w s=>nl ?_⟩
      refine nxt Ψ s ?_
      refine ⟨⟨fun _=>rfl,rfl,.inl rfl⟩,fun a w s=>?_⟩
      replace s:St M w_0 26 [(0,Va (v0)),(1,Va (v1)),(2,Qv c3),(3,Qv c2),(4,Va (x7)),(6,Va ((v0).Op)),(1007,At c3 (Pt (v0))),(1004,At c2 (Pt (v1)))] a w:=s.pick [0,1,2,3,4,6,1007,1004]
      obtain rfl:=si hm
      refine wpIn_ret ?_
      exact rn hD s rfl (rv1 (rt rfl))
     ·cases hm
def m247 (f:Nat) (v0:Expr) (v1:List Bool):Option (Bool×Int):=(m260 f v0 (v1.length:Int)).bind fun x1=>(bif (x1 != (0:Int)) then some (false,x1) else (m269 f v0 v1).bind fun x2=>some (x2,(0:Int)))
set_option maxRecDepth 100000 in
theorem s247 (f:Nat) (v0:Expr) (v1:List Bool) (r:Bool×Int) (hm:m247 f v0 v1=some r):Sp Tryz.prog 247 [Va (v0),Va (v1)] (T2 (Va (r.1)) (Va (r.2))):=by
 unfold m247 at hm
 refine ens Tryz.func247 (by kernel_rfl) rfl Tryz.ntmps247 rfl rfl fun M w_0 a hM hD s=>?_
 refine se (rg (sq s (bx (t rfl)) rfl fun a w s=>sq s (sa cb) rfl fun a w s=>sq s (sa ci) rfl fun a w s=>nl ?_))
 refine se ?_
 obtain ⟨x1,hx1,hm⟩:=bs hm
 refine se (rg (sq s (ld (t rfl)) rfl fun a w s=>sq s (mv (t rfl)) rfl fun a w s=>sq s (ln (t rfl)) rfl fun a w s=>sq s (cc rfl (oc (t rfl) (oc (t rfl) on)) (s260 f _ _ _ hx1)) rfl fun a w s=>sq s (sa (t rfl)) rfl fun a w s=>nl ?_))
 refine se (rg (sq s (mv (t rfl)) rfl fun a w s=>sq s (ne (t rfl) ci) rfl fun a w s=>nl ?_))
 refine cm s rfl hm (fun hb hm=>?_) (fun hb hm=>?_)
 ·refine se (rg (sq s (mv (t rfl)) rfl fun a w s=>sq s (sa cb) rfl fun a w s=>sq s (sa (t rfl)) rfl fun a w s=>nl ?_))
  obtain rfl:=si hm
  refine wpIn_ret ?_
  exact rn hD s rfl (rv2 (rt rfl) (rt rfl))
 ·refine wpIn_skip ?_
  obtain ⟨x2,hx2,hm⟩:=bs hm
  refine se (rg (sq s (ld (t rfl)) rfl fun a w s=>sq s (mv (t rfl)) rfl fun a w s=>sq s (cc rfl (oc (t rfl) (oc (t rfl) on)) (s269 f _ _ _ hx2)) rfl fun a w s=>sq s (sa (t rfl)) rfl fun a w s=>sq s (sa ci) rfl fun a w s=>nl ?_))
  obtain rfl:=si hm
  refine wpIn_ret ?_
  exact rn hD s rfl (rv2 (rt rfl) (rt rfl))
def m202_l1 (f:Nat) (v0:Control):Nat→(Int×(List Bool)×(List Bool))→Option (Int×(List Bool)×(List Bool))
 | 0,_=>none
 | n+1,z15=>(bif (decide (z15.1 < (((v0).Signals).length:Int))) then (idx ((v0).Signals) z15.1).bind fun x17=>(bif ((x17).Kind == (0:Int)) then (m247 f ((x17).On) z15.2.2).bind fun x20=>(m248 f v0).bind fun x21=>(idx z15.2.1 z15.1).bind fun x22=>(idx z15.2.2 (wr (x21 + z15.1))).bind fun x23=>some ((z15.2.1.set z15.1.toNat x20.1),(z15.2.2.set (wr (x21 + z15.1)).toNat x20.1)) else some (z15.2.1,z15.2.2)).bind fun z19=>m202_l1 f v0 n ((wr (z15.1 + (1:Int))),z19.1,z19.2) else some (z15.1,z15.2.1,z15.2.2))
def m202 (f:Nat) (v0:Control) (v1:State):Option (State):=(m128 f ((v1).Ends)).bind fun x2=>(m129 f ((v1).Valves)).bind fun x3=>(m129 f ((v1).Inputs)).bind fun x4=>(m129 f ((v1).Values)).bind fun x5=>(m128 f ((v1).Timers)).bind fun x6=>(m246 f (⟨x2,x3,x4,x5,x6⟩:State)).bind fun x13=>(m202_l1 f v0 f ((0:Int),x5,x13)).bind fun o16s=>some (⟨x2,x3,x4,o16s.2.1,x6⟩:State)
set_option maxRecDepth 100000 in
set_option maxHeartbeats 2000000 in
theorem s202 (f:Nat) (v0:Control) (v1:State) (r:State) (hm:m202 f v0 v1=some r):Sp Tryz.prog 202 [Va (v0),Va (v1)] (Va (r)):=by
 unfold m202 at hm
 refine ens Tryz.func202 (by kernel_rfl) rfl Tryz.ntmps202 rfl rfl fun M w_0 a hM hD s=>?_
 refine se (rg (sq s (bx (t rfl)) rfl fun a w s=>sq s (bx (t rfl)) rfl fun a w s=>sqr 1000 s (alr (cs:=[(.slice none 0 0),(.slice none 0 0),(.slice none 0 0),(.slice none 0 0),(.slice none 0 0)]) (z:=.agg #[(.slice none 0 0),(.slice none 0 0),(.slice none 0 0),(.slice none 0 0),(.slice none 0 0)]) (by kernel_rfl) rfl rfl) rfl rfl fun b1 a w s=>nl ?_))
 obtain ⟨x2,hx2,hm⟩:=bs hm
 obtain ⟨x3,hx3,hm⟩:=bs hm
 obtain ⟨x4,hx4,hm⟩:=bs hm
 obtain ⟨x5,hx5,hm⟩:=bs hm
 obtain ⟨x6,hx6,hm⟩:=bs hm
 refine se (flow2 [] [0,1,2,3,4,5,6,7,8,9,10,11,12,13,14] [11,12,13,14,15,16,17,18,19,20,21,22,23,24,25] [] [] [5] [(15,[]),(17,[5])] s (.skip (.late (.skip (.cons (.cons (.cons (.cons (.cons (.cons (.cons (.cons (.cons (.cons (.cons (.cons (.cons (.cons (.cons .nil rfl rfl (fa (f:=State.Ends) (t rfl))) rfl rfl (ld (t rfl))) rfl rfl (cc rfl (oc (t rfl) on) (s128 f _ _ hx2))) rfl rfl (fa (f:=State.Valves) (t rfl))) rfl rfl (ld (t rfl))) rfl rfl (cc rfl (oc (t rfl) on) (s129 f _ _ hx3))) rfl rfl (fa (f:=State.Inputs) (t rfl))) rfl rfl (ld (t rfl))) rfl rfl (cc rfl (oc (t rfl) on) (s129 f _ _ hx4))) rfl rfl (fa (f:=State.Values) (t rfl))) rfl rfl (ld (t rfl))) rfl rfl (cc rfl (oc (t rfl) on) (s129 f _ _ hx5))) rfl rfl (fa (f:=State.Timers) (t rfl))) rfl rfl (ld (t rfl))) rfl rfl (cc rfl (oc (t rfl) on) (s128 f _ _ hx6))) rfl) rfl rfl (alr (cs:=[(.slice none 0 0),(.slice none 0 0),(.slice none 0 0),(.slice none 0 0),(.slice none 0 0)]) (z:=.agg #[(.slice none 0 0),(.slice none 0 0),(.slice none 0 0),(.slice none 0 0),(.slice none 0 0)]) (by kernel_rfl) rfl rfl)) rfl) (by kernel_rfl) (by kernel_rfl) rfl rfl sb0 rfl (by decide) rfl rfl ?_)
 refine ⟨⟨fun _=>rfl,rfl,.inr ⟨sb0,sb0,sn0⟩⟩,by kernel_rfl,_,rfl,fun Ψ a w s=>opz (d:=13) [1006] s rfl (fun _=>rfl) rfl fun y8 s=>opz (d:=16) [1007] s rfl (fun _=>rfl) rfl fun y9 s=>opz (d:=19) [1008] s rfl (fun _=>rfl) rfl fun y10 s=>opz (d:=22) [1009] s rfl (fun _=>rfl) rfl fun y11 s=>opz (d:=25) [1010] s rfl (fun _=>rfl) rfl fun y12 s=>sq s (bla (L:=[(0,1),(1,1),(2,1),(3,1),(4,1)]) (z:=[(.slice none 0 0),(.slice none 0 0),(.slice none 0 0),(.slice none 0 0),(.slice none 0 0)]) (res:=[y8,y9,y10,y11,y12]) rfl (by kernel_rfl) (by kernel_rfl) (pdq (t rfl) (oco (k:=1006) rfl) (pdq (t rfl) (oco (k:=1007) rfl) (pdq (t rfl) (oco (k:=1008) rfl) (pdq (t rfl) (oco (k:=1009) rfl) (pdq (t rfl) (oco (k:=1010) rfl) pdn))))) rfl rfl) rfl fun a w s=>nl ?_⟩
 refine nxt Ψ s ?_
 refine ⟨⟨fun _=>rfl,rfl,.inr ⟨sb0,sb0,sn0⟩⟩,by kernel_rfl,_,rfl,fun Ψ a w s=>opr (d:=5) 1011 s rfl rfl fun b7 s=>sra (K:=1011) (m:=[y8,y9,y10,y11,y12]) (cs':=[y8,y9,y10,y11,y12]) s (t rfl) rfl (t rfl) (by kernel_rfl) rfl rfl rfl fun w s=>nl ?_⟩
 refine nxt Ψ s ?_
 refine ⟨⟨fun _=>rfl,rfl,.inl rfl⟩,fun a w s=>?_⟩
 replace s:St M w_0 61 [(0,Va (v0)),(1,Va (v1)),(2,Pt (v0)),(3,Pt (v1)),(4,Qv (pb b1 0)),(5,Qv (pb b7 0)),(1000,Mr b1 [(.slice none 0 0),(.slice none 0 0),(.slice none 0 0),(.slice none 0 0),(.slice none 0 0)]),(1011,Mr b7 [y8,y9,y10,y11,y12]),(1006,Ow 3 y8 (x2)),(1007,Ow 4 y9 (x3)),(1008,Ow 4 y10 (x4)),(1009,Ow 4 y11 (x5)),(1010,Ow 3 y12 (x6))] a w:=s.pick [0,1,2,3,4,5,1000,1011,1006,1007,1008,1009,1010]
 obtain ⟨x13,hx13,hm⟩:=bs hm
 refine se (rg (sq s (lra (K:=1011) (ds:=[y8,y9,y10,y11,y12]) State (t rfl) rfl rfl rfl rfl) rfl fun a w s=>sqz [1012] hM s (tfg (k:=1010) (flz (fun _=>flq) (fun _=>(flc flo fln))) rfl (tfg (k:=1009) (flz (fun _=>flq) (fun _=>(flc flo fln))) rfl (tfg (k:=1008) (flz (fun _=>flq) (fun _=>(flc flo fln))) rfl (tfg (k:=1007) (flz (fun _=>flq) (fun _=>(flc flo fln))) rfl (tfg (k:=1006) (flz (fun _=>flq) (fun _=>(flc flo fln))) rfl (cc rfl (oc (qad (y:=(⟨x2,x3,x4,x5,x6⟩:State)) (t rfl) (rpS30 (l:=([y8],[y9],[y10],[y11],[y12])) (rpz (k:=1006) rfl) (rpz (k:=1007) rfl) (rpz (k:=1008) rfl) (rpz (k:=1009) rfl) (rpz (k:=1010) rfl)) rfl) on) (s246 f _ _ hx13))))))) (fun _=>rfl) rfl rfl fun y14 a w s=>sq s (saq (t rfl)) rfl fun a w s=>nl ?_))
 refine se ?_
 refine se (rg (sq s (fa (f:=Control.Signals) (t rfl)) rfl fun a w s=>sq s (ld (t rfl)) rfl fun a w s=>sq s (ln (t rfl)) rfl fun a w s=>sq s (mv ci) rfl fun a w s=>nl ?_))
 obtain ⟨o16s,hoo16,hko16⟩:=bs hm
 refine cpI (fun a w=>St M w_0 61 [(0,Va (v0)),(1,Va (v1)),(2,Pt (v0)),(3,Pt (v1)),(4,Qv (pb b1 0)),(5,Qv (pb b7 0)),(6,Qv y14),(30,Va ((v0).Signals)),(31,Va ((((v0).Signals).length:Int))),(32,Va (o16s.1)),(1000,Mr b1 [(.slice none 0 0),(.slice none 0 0),(.slice none 0 0),(.slice none 0 0),(.slice none 0 0)]),(1011,Mr b7 [y8,y9,y10,y11,y12]),(1006,Ow 3 y8 (x2)),(1007,Ow 4 y9 (x3)),(1008,Ow 4 y10 (x4)),(1009,Ow 4 y11 (o16s.2.1)),(1010,Ow 3 y12 (x6)),(1012,Ow 4 y14 (o16s.2.2))] a w) ?_ fun a w s=>?_
 ·refine wpIn_block ?_
  refine loI (fun n z15=>m202_l1 f v0 n z15) o16s (fun z15 a w=>St M w_0 61 [(0,Va (v0)),(1,Va (v1)),(2,Pt (v0)),(3,Pt (v1)),(4,Qv (pb b1 0)),(5,Qv (pb b7 0)),(6,Qv y14),(30,Va ((v0).Signals)),(31,Va ((((v0).Signals).length:Int))),(32,Va (z15.1)),(1000,Mr b1 [(.slice none 0 0),(.slice none 0 0),(.slice none 0 0),(.slice none 0 0),(.slice none 0 0)]),(1011,Mr b7 [y8,y9,y10,y11,y12]),(1006,Ow 3 y8 (x2)),(1007,Ow 4 y9 (x3)),(1008,Ow 4 y10 (x4)),(1009,Ow 4 y11 (z15.2.1)),(1010,Ow 3 y12 (x6)),(1012,Ow 4 y14 (z15.2.2))] a w) f ((0:Int),x5,x13) (s.pick [0,1,2,3,4,5,6,30,31,32,1000,1011,1006,1007,1008,1009,1010,1012]) hoo16 (fun _=>rfl) fun n z15 a w hm s=>?_
  replace hm:m202_l1 f v0 (n + 1) z15=some o16s:=hm
  unfold m202_l1 at hm
  refine se (rg (sq s (lt (t rfl) (t rfl)) rfl fun a w s=>nl ?_))
  refine se ?_
  refine cm s rfl hm (fun hb hm=>?_) (fun hb hm=>?_)
  ·refine wpIn_skip ?_
   refine se ?_
   refine wpIn_block ?_
   obtain ⟨x17,hx17,hm⟩:=bs hm
   refine se (rg (sq s (mv (t rfl)) rfl fun a w s=>sq s (ix (t rfl) (t rfl) hx17) rfl fun a w s=>sq s (ld (t rfl)) rfl fun a w s=>sqr 1013 s (alr (cs:=[(.string ByteArray.empty),(.int .i64 (0:Int)),(.int .i64 (0:Int)),(.int .i64 (0:Int)),(.slice none 0 0),(.int .i64 (0:Int)),(.int .i64 (0:Int)),(.slice none 0 0),(.int .i64 (0:Int)),(.bool false)]) (z:=.agg #[(.string ByteArray.empty),(.int .i64 (0:Int)),(.int .i64 (0:Int)),(.int .i64 (0:Int)),(.slice none 0 0),(.int .i64 (0:Int)),(.int .i64 (0:Int)),(.slice none 0 0),(.int .i64 (0:Int)),(.bool false)]) (by kernel_rfl) rfl rfl) rfl rfl fun b18 a w s=>sq s (sa (t rfl)) rfl fun a w s=>swd (K:=1013) s (t rfl) rfl (t rfl) rfl fun w s=>nl ?_))
   refine se (rg (sq s (fm_ (off:=1) (m:=0) (q:=1) (t rfl) (by kernel_rfl) rfl) rfl fun a w s=>sq s (lf (K:=1013) (f:=Signal.Kind) (t rfl) rfl) rfl fun a w s=>sq s (eq (t rfl) ci) rfl fun a w s=>nl ?_))
   obtain ⟨z19,hz19,hkz19⟩:=bs hm
   refine cpI (fun a w=>St M w_0 61 [(0,Va (v0)),(1,Va (v1)),(2,Pt (v0)),(3,Pt (v1)),(4,Qv (pb b1 0)),(5,Qv (pb b7 0)),(6,Qv y14),(7,Va (z15.1)),(8,Qv (pb b18 0)),(30,Va ((v0).Signals)),(31,Va ((((v0).Signals).length:Int))),(32,Va (z15.1)),(1000,Mr b1 [(.slice none 0 0),(.slice none 0 0),(.slice none 0 0),(.slice none 0 0),(.slice none 0 0)]),(1011,Mr b7 [y8,y9,y10,y11,y12]),(1006,Ow 3 y8 (x2)),(1007,Ow 4 y9 (x3)),(1008,Ow 4 y10 (x4)),(1009,Ow 4 y11 (z19.1)),(1010,Ow 3 y12 (x6)),(1012,Ow 4 y14 (z19.2)),(1013,Mg b18 (x17))] a w) ?_ fun a w s=>?_
   ·refine cm s rfl hz19 (fun hb hm=>?_) (fun hb hm=>?_)
    ·obtain ⟨x20,hx20,hm⟩:=bs hm
     refine se (rg (sq s (fm_ (off:=2) (m:=2) (q:=2) (t rfl) (by kernel_rfl) rfl) rfl fun a w s=>sq s (lf (K:=1013) (f:=Signal.On) (t rfl) rfl) rfl fun a w s=>sq s (mvq (t rfl)) rfl fun a w s=>sq s (tfg (k:=1012) (fl2 fl1 fl1) rfl (cc rfl (oc (t rfl) (oc (ta (k:=1012) (t rfl) rfl) on)) (s247 f _ _ _ hx20))) rfl fun a w s=>sq s (mve (t rfl)) rfl fun a w s=>sq s (Pn.x20 (t rfl)) rfl fun a w s=>sq s (Pn.x21 (t rfl)) rfl fun a w s=>sq s (sa (t rfl)) rfl fun a w s=>sq s (sa (t rfl)) rfl fun a w s=>nl ?_))
     obtain ⟨x21,hx21,hm⟩:=bs hm
     obtain ⟨x22,hx22,hm⟩:=bs hm
     obtain ⟨x23,hx23,hm⟩:=bs hm
     refine flow2 [(6,Qv y14),(7,Va (z15.1)),(9,Va (x20.1))] [0,1,2,4,5,8,10] [47,48,49,51,52,55,57] [52] [53] [56,54,53,50] [(11,[]),(12,[56,54,53,50]),(13,[])] s (.skip (.skip (.skip (.cons (.late (.cons (.late (.late (.cons (.cons (.late (.cons (.cons (.cons .nil rfl rfl (fm_ (off:=3) (m:=0) (q:=3) (t rfl) (by kernel_rfl) rfl)) rfl rfl (lrc (K:=1011) (List Bool) (t rfl) rfl rfl rfl rfl)) rfl rfl (mv (t rfl))) rfl rfl (mvq (t rfl))) rfl rfl (ld (t rfl))) rfl rfl (cc rfl (oc (t rfl) on) (s248 f _ _ hx21))) rfl rfl (mv (t rfl))) rfl rfl (ad (t rfl) (t rfl))) rfl rfl (mv (t rfl))) rfl rfl (mv (t rfl))) rfl rfl (ixq (α:=Bool) (k:=1009) (t rfl) rfl (t rfl) hx22)) rfl) rfl) rfl) (by kernel_rfl) (by kernel_rfl) rfl rfl (sb1 rfl (sb1 rfl (sb1 rfl sb0))) rfl (by decide) rfl rfl ?_
     refine ⟨⟨fun _=>rfl,rfl,.inr ⟨(sb1 rfl (sb1 rfl (sb1 rfl sb0))),(sb1 rfl sb0),(sn2 rfl sn0)⟩⟩,by kernel_rfl,_,rfl,fun Ψ a w s=>stq (k:=1009) s (t rfl) rfl (idxg hx22) (t rfl) fun w s=>nl ?_⟩
     refine nxt Ψ s ?_
     refine ⟨⟨fun _=>rfl,rfl,.inr ⟨(sb1 rfl (sb1 rfl (sb1 rfl sb0))),(sb1 rfl sb0),(sn2 rfl sn0)⟩⟩,by kernel_rfl,_,rfl,fun Ψ a w s=>sq s (ixq (α:=Bool) (k:=1012) (t rfl) rfl (t rfl) hx23) rfl fun a w s=>nl ?_⟩
     refine nxt Ψ s ?_
     refine ⟨⟨fun _=>rfl,rfl,.inl rfl⟩,by kernel_rfl,_,rfl,fun Ψ a w s=>stq (k:=1012) s (t rfl) rfl (idxg hx23) (t rfl) fun w s=>nl ?_⟩
     refine nxt Ψ s ?_
     refine ⟨⟨fun _=>rfl,rfl,.inl rfl⟩,fun a w s=>?_⟩
     replace s:St M w_0 61 [(0,Va (v0)),(1,Va (v1)),(2,Pt (v0)),(3,Pt (v1)),(4,Qv (pb b1 0)),(5,Qv (pb b7 0)),(6,Qv y14),(7,Va (z15.1)),(8,Qv (pb b18 0)),(9,Va (x20.1)),(30,Va ((v0).Signals)),(31,Va ((((v0).Signals).length:Int))),(32,Va (z15.1)),(1000,Mr b1 [(.slice none 0 0),(.slice none 0 0),(.slice none 0 0),(.slice none 0 0),(.slice none 0 0)]),(1011,Mr b7 [y8,y9,y10,y11,y12]),(1006,Ow 3 y8 (x2)),(1007,Ow 4 y9 (x3)),(1008,Ow 4 y10 (x4)),(1009,Ow 4 y11 ((z15.2.1.set z15.1.toNat x20.1))),(1010,Ow 3 y12 (x6)),(1012,Ow 4 y14 ((z15.2.2.set (wr (x21 + z15.1)).toNat x20.1))),(1013,Mg b18 (x17))] a w:=s.pick [0,1,2,3,4,5,6,7,8,9,30,31,32,1000,1011,1006,1007,1008,1009,1010,1012,1013]
     obtain rfl:=si hm
     exact s.pick [0,1,2,3,4,5,6,7,8,30,31,32,1000,1011,1006,1007,1008,1009,1010,1012,1013]
    ·refine wpIn_skip ?_
     obtain rfl:=si hm
     exact s.pick [0,1,2,3,4,5,6,7,8,30,31,32,1000,1011,1006,1007,1008,1009,1010,1012,1013]
   ·replace hm:=hkz19
    refine rg (sq s (ad (t rfl) ci) rfl fun a w s=>sq s (mv (t rfl)) rfl fun a w s=>nl ?_)
    exact ⟨_,hm,s.pick [0,1,2,3,4,5,6,30,31,32,1000,1011,1006,1007,1008,1009,1010,1012]⟩
  ·refine wpIn_exit ?_
   obtain rfl:=si hm
   exact s.pick [0,1,2,3,4,5,6,30,31,32,1000,1011,1006,1007,1008,1009,1010,1012]
 ·replace hm:=hko16
  refine se (rg (sq s (lra (K:=1011) (ds:=[y8,y9,y10,y11,y12]) State (t rfl) rfl rfl rfl rfl) rfl fun a w s=>sra (K:=1000) (m:=[y8,y9,y10,y11,y12]) (cs':=[y8,y9,y10,y11,y12]) s (t rfl) rfl (t rfl) (by kernel_rfl) rfl rfl rfl fun w s=>nl ?_))
  obtain rfl:=si hm
  refine fzk (α:=Int) (k:=1006) hM s rfl fun s=>?_
  refine fzk (α:=Bool) (k:=1007) hM s rfl fun s=>?_
  refine fzk (α:=Bool) (k:=1008) hM s rfl fun s=>?_
  refine fzk (α:=Bool) (k:=1009) hM s rfl fun s=>?_
  refine fzk (α:=Int) (k:=1010) hM s rfl fun s=>?_
  refine shut (k:=1000) (x:=(⟨x2,x3,x4,o16s.2.1,x6⟩:State)) s rfl (rpS30 (l:=([y8],[y9],[y10],[y11],[y12])) (rpz (k:=1006) rfl) (rpz (k:=1007) rfl) (rpz (k:=1008) rfl) (rpz (k:=1009) rfl) (rpz (k:=1010) rfl)) fun s=>?_
  refine wpIn_ret ?_
  exact rn hD s rfl (rv1 (rc (K:=1000) rfl rfl))
def m133_l1 (v0:Control):Nat→(Int×(List Bool))→Option (Int×(List Bool))
 | 0,_=>none
 | n+1,z14=>(bif (decide (z14.1 < (((v0).Signals).length:Int))) then (idx ((v0).Signals) z14.1).bind fun x16=>(idx z14.2 z14.1).bind fun x18=>m133_l1 v0 n ((wr (z14.1 + (1:Int))),(z14.2.set z14.1.toNat ((x16).Init))) else some (z14.1,z14.2))
def m133 (f:Nat) (v0:Control):Option (State×Int):=(m82 f v0).bind fun x2=>(bif (x2 != (0:Int)) then some ((⟨([]:List Int),([]:List Bool),([]:List Bool),([]:List Bool),([]:List Int)⟩:State),x2) else (mks (0:Int) ((v0).Actuators)).bind fun x3=>(mks false ((v0).Actuators)).bind fun x5=>(mks false (((v0).Inputs).length:Int)).bind fun x7=>(mks false (((v0).Signals).length:Int)).bind fun x9=>(mks (0:Int) (((v0).Signals).length:Int)).bind fun x11=>(m133_l1 v0 f ((0:Int),x9)).bind fun o15s=>(m202 f v0 (⟨x3,x5,x7,o15s.2,x11⟩:State)).bind fun x19=>some (x19,(0:Int)))
set_option maxRecDepth 100000 in
set_option maxHeartbeats 2000000 in
theorem s133 (f:Nat) (v0:Control) (r:State×Int) (hm:m133 f v0=some r):Sp Tryz.prog 133 [Va (v0)] (T2 (Va (r.1)) (Va (r.2))):=by
 unfold m133 at hm
 refine ens Tryz.func133 (by kernel_rfl) rfl Tryz.ntmps133 rfl rfl fun M w_0 a hM hD s=>?_
 refine se (rg (sq s (bx (t rfl)) rfl fun a w s=>sqr 1000 s (alr (cs:=[(.slice none 0 0),(.slice none 0 0),(.slice none 0 0),(.slice none 0 0),(.slice none 0 0)]) (z:=.agg #[(.slice none 0 0),(.slice none 0 0),(.slice none 0 0),(.slice none 0 0),(.slice none 0 0)]) (by kernel_rfl) rfl rfl) rfl rfl fun b1 a w s=>sq s (sa ci) rfl fun a w s=>nl ?_))
 refine se ?_
 obtain ⟨x2,hx2,hm⟩:=bs hm
 refine se (rg (sq s (ld (t rfl)) rfl fun a w s=>sq s (cc rfl (oc (t rfl) on) (s82 f _ _ hx2)) rfl fun a w s=>sq s (sa (t rfl)) rfl fun a w s=>nl ?_))
 refine se (rg (sq s (mv (t rfl)) rfl fun a w s=>sq s (ne (t rfl) ci) rfl fun a w s=>nl ?_))
 refine cm s rfl hm (fun hb hm=>?_) (fun hb hm=>?_)
 ·refine se (rg (sq s (bl31_ ) rfl fun a w s=>sq s (mv (t rfl)) rfl fun a w s=>swd (K:=1000) s (t rfl) rfl (t rfl) rfl fun w s=>sq s (sa (t rfl)) rfl fun a w s=>nl ?_))
  obtain rfl:=si hm
  refine wpIn_ret ?_
  exact rn hD s rfl (rv2 (rc (K:=1000) rfl rfl) (rt rfl))
 ·refine wpIn_skip ?_
  refine se (rg (sq s (fa (f:=Control.Signals) (t rfl)) rfl fun a w s=>sq s (ld (t rfl)) rfl fun a w s=>sq s (ln (t rfl)) rfl fun a w s=>sq s (sa (t rfl)) rfl fun a w s=>nl ?_))
  obtain ⟨x3,hx3,hm⟩:=bs hm
  obtain ⟨x5,hx5,hm⟩:=bs hm
  obtain ⟨x7,hx7,hm⟩:=bs hm
  obtain ⟨x9,hx9,hm⟩:=bs hm
  obtain ⟨x11,hx11,hm⟩:=bs hm
  refine se (flow2 [] [0,1,2,3,4,5,6,7,8,9,10,11,12,13] [18,19,20,21,22,23,24,25,26,27,28,29,30,31] [] [] [6] [(14,[]),(16,[6])] s (.skip (.late (.skip (.cons (.cons (.cons (.cons (.cons (.cons (.cons (.cons (.cons (.cons (.cons (.cons (.cons (.cons .nil rfl rfl (fa (f:=Control.Actuators) (t rfl))) rfl rfl (ld (t rfl))) rfl rfl (mkS (t rfl) (t rfl) hx3)) rfl rfl (fa (f:=Control.Actuators) (t rfl))) rfl rfl (ld (t rfl))) rfl rfl (mkS (t rfl) (t rfl) hx5)) rfl rfl (fa (f:=Control.Inputs) (t rfl))) rfl rfl (ld (t rfl))) rfl rfl (ln (t rfl))) rfl rfl (mkS (t rfl) (t rfl) hx7)) rfl rfl (mv (t rfl))) rfl rfl (mkS (t rfl) (t rfl) hx9)) rfl rfl (mv (t rfl))) rfl rfl (mkS (t rfl) (t rfl) hx11)) rfl) rfl rfl (alr (cs:=[(.slice none 0 0),(.slice none 0 0),(.slice none 0 0),(.slice none 0 0),(.slice none 0 0)]) (z:=.agg #[(.slice none 0 0),(.slice none 0 0),(.slice none 0 0),(.slice none 0 0),(.slice none 0 0)]) (by kernel_rfl) rfl rfl)) rfl) (by kernel_rfl) (by kernel_rfl) rfl rfl sb0 rfl (by decide) rfl rfl ?_)
  refine ⟨⟨fun _=>rfl,rfl,.inr ⟨sb0,sb0,sn0⟩⟩,by kernel_rfl,_,rfl,fun Ψ a w s=>opo (d:=20) 1006 s rfl rfl fun c4 s=>opo (d:=23) 1007 s rfl rfl fun c6 s=>opo (d:=27) 1008 s rfl rfl fun c8 s=>opo (d:=29) 1009 s rfl rfl fun c10 s=>opo (d:=31) 1010 s rfl rfl fun c12 s=>sq s (bla (L:=[(0,1),(1,1),(2,1),(3,1),(4,1)]) (z:=[(.slice none 0 0),(.slice none 0 0),(.slice none 0 0),(.slice none 0 0),(.slice none 0 0)]) (res:=[c4,c6,c8,c10,c12]) rfl (by kernel_rfl) (by kernel_rfl) (pdq (t rfl) (oco (k:=1006) rfl) (pdq (t rfl) (oco (k:=1007) rfl) (pdq (t rfl) (oco (k:=1008) rfl) (pdq (t rfl) (oco (k:=1009) rfl) (pdq (t rfl) (oco (k:=1010) rfl) pdn))))) rfl rfl) rfl fun a w s=>nl ?_⟩
  refine nxt Ψ s ?_
  refine ⟨⟨fun _=>rfl,rfl,.inr ⟨sb0,sb0,sn0⟩⟩,by kernel_rfl,_,rfl,fun Ψ a w s=>opr (d:=6) 1011 s rfl rfl fun b13 s=>sra (K:=1011) (m:=[c4,c6,c8,c10,c12]) (cs':=[c4,c6,c8,c10,c12]) s (t rfl) rfl (t rfl) (by kernel_rfl) rfl rfl rfl fun w s=>nl ?_⟩
  refine nxt Ψ s ?_
  refine ⟨⟨fun _=>rfl,rfl,.inl rfl⟩,fun a w s=>?_⟩
  replace s:St M w_0 51 [(0,Va (v0)),(1,Pt (v0)),(2,Qv (pb b1 0)),(3,Va ((0:Int))),(4,Va (x2)),(5,Va ((((v0).Signals).length:Int))),(6,Qv (pb b13 0)),(1000,Mr b1 [(.slice none 0 0),(.slice none 0 0),(.slice none 0 0),(.slice none 0 0),(.slice none 0 0)]),(1011,Mr b13 [c4,c6,c8,c10,c12]),(1006,Ow 3 c4 (x3)),(1007,Ow 4 c6 (x5)),(1008,Ow 4 c8 (x7)),(1009,Ow 4 c10 (x9)),(1010,Ow 3 c12 (x11))] a w:=s.pick [0,1,2,3,4,5,6,1000,1011,1006,1007,1008,1009,1010]
  refine se ?_
  refine se (rg (sq s (fa (f:=Control.Signals) (t rfl)) rfl fun a w s=>sq s (ld (t rfl)) rfl fun a w s=>sq s (ln (t rfl)) rfl fun a w s=>sq s (mv ci) rfl fun a w s=>nl ?_))
  obtain ⟨o15s,hoo15,hko15⟩:=bs hm
  refine cpI (fun a w=>St M w_0 51 [(0,Va (v0)),(1,Pt (v0)),(2,Qv (pb b1 0)),(3,Va ((0:Int))),(4,Va (x2)),(5,Va ((((v0).Signals).length:Int))),(6,Qv (pb b13 0)),(34,Va ((v0).Signals)),(35,Va ((((v0).Signals).length:Int))),(36,Va (o15s.1)),(1000,Mr b1 [(.slice none 0 0),(.slice none 0 0),(.slice none 0 0),(.slice none 0 0),(.slice none 0 0)]),(1011,Mr b13 [c4,c6,c8,c10,c12]),(1006,Ow 3 c4 (x3)),(1007,Ow 4 c6 (x5)),(1008,Ow 4 c8 (x7)),(1009,Ow 4 c10 (o15s.2)),(1010,Ow 3 c12 (x11))] a w) ?_ fun a w s=>?_
  ·refine wpIn_block ?_
   refine loI (fun n z14=>m133_l1 v0 n z14) o15s (fun z14 a w=>St M w_0 51 [(0,Va (v0)),(1,Pt (v0)),(2,Qv (pb b1 0)),(3,Va ((0:Int))),(4,Va (x2)),(5,Va ((((v0).Signals).length:Int))),(6,Qv (pb b13 0)),(34,Va ((v0).Signals)),(35,Va ((((v0).Signals).length:Int))),(36,Va (z14.1)),(1000,Mr b1 [(.slice none 0 0),(.slice none 0 0),(.slice none 0 0),(.slice none 0 0),(.slice none 0 0)]),(1011,Mr b13 [c4,c6,c8,c10,c12]),(1006,Ow 3 c4 (x3)),(1007,Ow 4 c6 (x5)),(1008,Ow 4 c8 (x7)),(1009,Ow 4 c10 (z14.2)),(1010,Ow 3 c12 (x11))] a w) f ((0:Int),x9) (s.pick [0,1,2,3,4,5,6,34,35,36,1000,1011,1006,1007,1008,1009,1010]) hoo15 (fun _=>rfl) fun n z14 a w hm s=>?_
   replace hm:m133_l1 v0 (n + 1) z14=some o15s:=hm
   unfold m133_l1 at hm
   refine se (rg (sq s (lt (t rfl) (t rfl)) rfl fun a w s=>nl ?_))
   refine se ?_
   refine cm s rfl hm (fun hb hm=>?_) (fun hb hm=>?_)
   ·refine wpIn_skip ?_
    refine se ?_
    refine wpIn_block ?_
    obtain ⟨x16,hx16,hm⟩:=bs hm
    refine se (rg (sq s (mv (t rfl)) rfl fun a w s=>sq s (ix (t rfl) (t rfl) hx16) rfl fun a w s=>sq s (ld (t rfl)) rfl fun a w s=>sqr 1012 s (alr (cs:=[(.string ByteArray.empty),(.int .i64 (0:Int)),(.int .i64 (0:Int)),(.int .i64 (0:Int)),(.slice none 0 0),(.int .i64 (0:Int)),(.int .i64 (0:Int)),(.slice none 0 0),(.int .i64 (0:Int)),(.bool false)]) (z:=.agg #[(.string ByteArray.empty),(.int .i64 (0:Int)),(.int .i64 (0:Int)),(.int .i64 (0:Int)),(.slice none 0 0),(.int .i64 (0:Int)),(.int .i64 (0:Int)),(.slice none 0 0),(.int .i64 (0:Int)),(.bool false)]) (by kernel_rfl) rfl rfl) rfl rfl fun b17 a w s=>sq s (sa (t rfl)) rfl fun a w s=>swd (K:=1012) s (t rfl) rfl (t rfl) rfl fun w s=>nl ?_))
    obtain ⟨x18,hx18,hm⟩:=bs hm
    refine rg (sq s (fm_ (off:=3) (m:=0) (q:=3) (t rfl) (by kernel_rfl) rfl) rfl fun a w s=>sq s (lrc (K:=1011) (List Bool) (t rfl) rfl rfl rfl rfl) rfl fun a w s=>sq s (mv (t rfl)) rfl fun a w s=>sq s (fm_ (off:=9) (m:=0) (q:=9) (t rfl) (by kernel_rfl) rfl) rfl fun a w s=>sq s (lf (K:=1012) (f:=Signal.Init) (t rfl) rfl) rfl fun a w s=>sq s (ixq (α:=Bool) (k:=1009) (t rfl) rfl (t rfl) hx18) rfl fun a w s=>stq (k:=1009) s (t rfl) rfl (idxg hx18) (t rfl) fun w s=>nl ?_)
    refine rg (sq s (ad (t rfl) ci) rfl fun a w s=>sq s (mv (t rfl)) rfl fun a w s=>nl ?_)
    exact ⟨_,hm,s.pick [0,1,2,3,4,5,6,34,35,36,1000,1011,1006,1007,1008,1009,1010]⟩
   ·refine wpIn_exit ?_
    obtain rfl:=si hm
    exact s.pick [0,1,2,3,4,5,6,34,35,36,1000,1011,1006,1007,1008,1009,1010]
  ·replace hm:=hko15
   obtain ⟨x19,hx19,hm⟩:=bs hm
   refine se (rg (sq s (ld (t rfl)) rfl fun a w s=>sq s (lra (K:=1011) (ds:=[c4,c6,c8,c10,c12]) State (t rfl) rfl rfl rfl rfl) rfl fun a w s=>fzk (α:=Int) (k:=1006) hM s rfl fun s=>fzk (α:=Bool) (k:=1007) hM s rfl fun s=>fzk (α:=Bool) (k:=1008) hM s rfl fun s=>fzk (α:=Bool) (k:=1009) hM s rfl fun s=>fzk (α:=Int) (k:=1010) hM s rfl fun s=>sq s (cc rfl (oc (t rfl) (oc (qad (y:=(⟨x3,x5,x7,o15s.2,x11⟩:State)) (t rfl) (rpS30 (l:=([c4],[c6],[c8],[c10],[c12])) (rpz (k:=1006) rfl) (rpz (k:=1007) rfl) (rpz (k:=1008) rfl) (rpz (k:=1009) rfl) (rpz (k:=1010) rfl)) rfl) on)) (s202 f _ _ _ hx19)) rfl fun a w s=>swd (K:=1000) s (t rfl) rfl (t rfl) rfl fun w s=>sq s (sa ci) rfl fun a w s=>nl ?_))
   obtain rfl:=si hm
   refine wpIn_ret ?_
   exact rn hD s rfl (rv2 (rc (K:=1000) rfl rfl) (rt rfl))
def m71 (f:Nat) (v0:Control):Option (State×(List Int)×Int):=(m133 f v0).bind fun x2=>(bif (x2.2 != (0:Int)) then some ((⟨([]:List Int),([]:List Bool),([]:List Bool),([]:List Bool),([]:List Int)⟩:State),([]:List Int),x2.2) else (m134 f v0 x2.1).bind fun x4=>some (x4.1,x4.2.2,x4.2.1))
set_option maxRecDepth 100000 in
theorem s71 (f:Nat) (v0:Control) (r:State×(List Int)×Int) (hm:m71 f v0=some r):Sp Tryz.prog 71 [Va (v0)] (T3 (Va (r.1)) (Va (r.2.1)) (Va (r.2.2))):=by
 unfold m71 at hm
 refine ens Tryz.func71 (by kernel_rfl) rfl Tryz.ntmps71 rfl rfl fun M w_0 a hM hD s=>?_
 refine se (rg (sq s (bx (t rfl)) rfl fun a w s=>sqr 1000 s (alr (cs:=[(.slice none 0 0),(.slice none 0 0),(.slice none 0 0),(.slice none 0 0),(.slice none 0 0)]) (z:=.agg #[(.slice none 0 0),(.slice none 0 0),(.slice none 0 0),(.slice none 0 0),(.slice none 0 0)]) (by kernel_rfl) rfl rfl) rfl rfl fun b1 a w s=>sq s (saq cq) rfl fun a w s=>sq s (sa ci) rfl fun a w s=>nl ?_))
 obtain ⟨x2,hx2,hm⟩:=bs hm
 refine se (rg (sq s (ld (t rfl)) rfl fun a w s=>sq s (cc rfl (oc (t rfl) on) (s133 f _ _ hx2)) rfl fun a w s=>sq s (mve (t rfl)) rfl fun a w s=>sq s (Pn.x20 (t rfl)) rfl fun a w s=>sq s (Pn.x21 (t rfl)) rfl fun a w s=>sqr 1001 s (alr (cs:=[(.slice none 0 0),(.slice none 0 0),(.slice none 0 0),(.slice none 0 0),(.slice none 0 0)]) (z:=.agg #[(.slice none 0 0),(.slice none 0 0),(.slice none 0 0),(.slice none 0 0),(.slice none 0 0)]) (by kernel_rfl) rfl rfl) rfl rfl fun b3 a w s=>swd (K:=1001) s (t rfl) rfl (t rfl) rfl fun w s=>sq s (sa (t rfl)) rfl fun a w s=>nl ?_))
 refine se ?_
 refine se (rg (sq s (mv (t rfl)) rfl fun a w s=>sq s (ne (t rfl) ci) rfl fun a w s=>nl ?_))
 refine cm s rfl hm (fun hb hm=>?_) (fun hb hm=>?_)
 ·refine se (rg (sq s (bl31_ ) rfl fun a w s=>sq s (mv (t rfl)) rfl fun a w s=>swd (K:=1000) s (t rfl) rfl (t rfl) rfl fun w s=>sq s (saq cq) rfl fun a w s=>sq s (sa (t rfl)) rfl fun a w s=>nl ?_))
  obtain rfl:=si hm
  refine wpIn_ret ?_
  exact rn hD s rfl (rv3 (rc (K:=1000) rfl rfl) (ro (qns (α:=Int) (t rfl))) (rt rfl))
 ·refine wpIn_skip ?_
  obtain ⟨x4,hx4,hm⟩:=bs hm
  refine se (rg (sq s (ld (t rfl)) rfl fun a w s=>sq s (lm (K:=1001) (t rfl) rfl) rfl fun a w s=>sqz [1002] hM s (cc rfl (oc (t rfl) (oc (t rfl) on)) (s134 f _ _ _ hx4)) (fun _=>rfl) rfl rfl fun y5 a w s=>sq s (Pn.x30 (t rfl)) rfl fun a w s=>sq s (Pn.x31 (t rfl)) rfl fun a w s=>sq s (Pn.x32 (t rfl)) rfl fun a w s=>swd (K:=1000) s (t rfl) rfl (t rfl) rfl fun w s=>sq s (saq (t rfl)) rfl fun a w s=>sq s (sa (t rfl)) rfl fun a w s=>nl ?_))
  obtain rfl:=si hm
  refine fzk (α:=Int) (k:=1002) hM s rfl fun s=>?_
  refine wpIn_ret ?_
  exact rn hD s rfl (rv3 (rc (K:=1000) rfl rfl) (ro (ta (k:=1002) (t rfl) rfl)) (rt rfl))
def m21_l1 (f:Nat) (v0:Control) (v1:List Bool):Nat→(Int×Int×State)→Option (Int×Int×State)
 | 0,_=>none
 | n+1,z5=>(bif (decide (z5.2.1 < (v1.length:Int))) then (idx v1 z5.2.1).bind fun x7=>(bif ((z5.1 == (0:Int)) && x7) then (m46 f v0 z5.2.2 (⟨(2:Int),z5.2.1,true⟩:Event)).bind fun x9=>some (x9.2.2,x9.1) else some (z5.1,z5.2.2)).bind fun z8=>m21_l1 f v0 v1 n (z8.1,(wr (z5.2.1 + (1:Int))),z8.2) else some (z5.1,z5.2.1,z5.2.2))
def m21 (f:Nat) (v0:Control) (v1:List Bool):Option (State×Int):=(m82 f v0).bind fun x2=>(bif (x2 != (0:Int)) then some ((⟨([]:List Int),([]:List Bool),([]:List Bool),([]:List Bool),([]:List Int)⟩:State),x2) else (bif ((v1.length:Int) != (((v0).Inputs).length:Int)) then some ((⟨([]:List Int),([]:List Bool),([]:List Bool),([]:List Bool),([]:List Int)⟩:State),(8:Int)) else (m71 f v0).bind fun x3=>(m21_l1 f v0 v1 f (x3.2.2,(0:Int),x3.1)).bind fun o6s=>(bif (o6s.1 != (0:Int)) then some ((⟨([]:List Int),([]:List Bool),([]:List Bool),([]:List Bool),([]:List Int)⟩:State),o6s.1) else some (o6s.2.2,(0:Int)))))
set_option maxRecDepth 100000 in
theorem s21 (f:Nat) (v0:Control) (v1:List Bool) (r:State×Int) (hm:m21 f v0 v1=some r):Sp Tryz.prog 21 [Va (v0),Va (v1)] (T2 (Va (r.1)) (Va (r.2))):=by
 unfold m21 at hm
 refine ens Tryz.func21 (by kernel_rfl) rfl Tryz.ntmps21 rfl rfl fun M w_0 a hM hD s=>?_
 refine se (rg (sq s (bx (t rfl)) rfl fun a w s=>sqr 1000 s (alr (cs:=[(.slice none 0 0),(.slice none 0 0),(.slice none 0 0),(.slice none 0 0),(.slice none 0 0)]) (z:=.agg #[(.slice none 0 0),(.slice none 0 0),(.slice none 0 0),(.slice none 0 0),(.slice none 0 0)]) (by kernel_rfl) rfl rfl) rfl rfl fun b1 a w s=>sq s (sa ci) rfl fun a w s=>nl ?_))
 refine se ?_
 obtain ⟨x2,hx2,hm⟩:=bs hm
 refine se (rg (sq s (ld (t rfl)) rfl fun a w s=>sq s (cc rfl (oc (t rfl) on) (s82 f _ _ hx2)) rfl fun a w s=>sq s (sa (t rfl)) rfl fun a w s=>nl ?_))
 refine se (rg (sq s (mv (t rfl)) rfl fun a w s=>sq s (ne (t rfl) ci) rfl fun a w s=>nl ?_))
 refine cm s rfl hm (fun hb hm=>?_) (fun hb hm=>?_)
 ·refine se (rg (sq s (bl31_ ) rfl fun a w s=>sq s (mv (t rfl)) rfl fun a w s=>swd (K:=1000) s (t rfl) rfl (t rfl) rfl fun w s=>sq s (sa (t rfl)) rfl fun a w s=>nl ?_))
  obtain rfl:=si hm
  refine wpIn_ret ?_
  exact rn hD s rfl (rv2 (rc (K:=1000) rfl rfl) (rt rfl))
 ·refine wpIn_skip ?_
  refine se ?_
  refine se (rg (sq s (mv (t rfl)) rfl fun a w s=>sq s (ln (t rfl)) rfl fun a w s=>sq s (fa (f:=Control.Inputs) (t rfl)) rfl fun a w s=>sq s (ld (t rfl)) rfl fun a w s=>sq s (ln (t rfl)) rfl fun a w s=>sq s (ne (t rfl) (t rfl)) rfl fun a w s=>nl ?_))
  refine cm s rfl hm (fun hb hm=>?_) (fun hb hm=>?_)
  ·refine se (rg (sq s (bl31_ ) rfl fun a w s=>swd (K:=1000) s (t rfl) rfl (t rfl) rfl fun w s=>sq s (sa ci) rfl fun a w s=>nl ?_))
   obtain rfl:=si hm
   refine wpIn_ret ?_
   exact rn hD s rfl (rv2 (rc (K:=1000) rfl rfl) (rt rfl))
  ·refine wpIn_skip ?_
   obtain ⟨x3,hx3,hm⟩:=bs hm
   refine se (rg (sq s (ld (t rfl)) rfl fun a w s=>sq s (cc rfl (oc (t rfl) on) (s71 f _ _ hx3)) rfl fun a w s=>sq s (mve (t rfl)) rfl fun a w s=>sq s (Pn.x30 (t rfl)) rfl fun a w s=>sq s (Pn.x31 (t rfl)) rfl fun a w s=>sq s (Pn.x32 (t rfl)) rfl fun a w s=>sqr 1001 s (alr (cs:=[(.slice none 0 0),(.slice none 0 0),(.slice none 0 0),(.slice none 0 0),(.slice none 0 0)]) (z:=.agg #[(.slice none 0 0),(.slice none 0 0),(.slice none 0 0),(.slice none 0 0),(.slice none 0 0)]) (by kernel_rfl) rfl rfl) rfl rfl fun b4 a w s=>swd (K:=1001) s (t rfl) rfl (t rfl) rfl fun w s=>sq s (sa (t rfl)) rfl fun a w s=>sq s (sa (t rfl)) rfl fun a w s=>nl ?_))
   refine se ?_
   refine se (rg (sq s (mv (t rfl)) rfl fun a w s=>sq s (ln (t rfl)) rfl fun a w s=>sq s (mv ci) rfl fun a w s=>nl ?_))
   obtain ⟨o6s,hoo6,hko6⟩:=bs hm
   refine cpI (fun a w=>St M w_0 58 [(0,Va (v0)),(1,Va (v1)),(2,Pt (v0)),(4,Qv (pb b1 0)),(5,Va ((0:Int))),(6,Va (x2)),(7,Qv (pb b4 0)),(9,Va (o6s.1)),(31,Va (v1)),(32,Va ((v1.length:Int))),(33,Va (o6s.2.1)),(1000,Mr b1 [(.slice none 0 0),(.slice none 0 0),(.slice none 0 0),(.slice none 0 0),(.slice none 0 0)]),(1001,Mg b4 (o6s.2.2))] a w) ?_ fun a w s=>?_
   ·refine wpIn_block ?_
    refine loI (fun n z5=>m21_l1 f v0 v1 n z5) o6s (fun z5 a w=>St M w_0 58 [(0,Va (v0)),(1,Va (v1)),(2,Pt (v0)),(4,Qv (pb b1 0)),(5,Va ((0:Int))),(6,Va (x2)),(7,Qv (pb b4 0)),(9,Va (z5.1)),(31,Va (v1)),(32,Va ((v1.length:Int))),(33,Va (z5.2.1)),(1000,Mr b1 [(.slice none 0 0),(.slice none 0 0),(.slice none 0 0),(.slice none 0 0),(.slice none 0 0)]),(1001,Mg b4 (z5.2.2))] a w) f (x3.2.2,(0:Int),x3.1) (s.pick [0,1,2,4,5,6,7,9,31,32,33,1000,1001]) hoo6 (fun _=>rfl) fun n z5 a w hm s=>?_
    replace hm:m21_l1 f v0 v1 (n + 1) z5=some o6s:=hm
    unfold m21_l1 at hm
    refine se (rg (sq s (lt (t rfl) (t rfl)) rfl fun a w s=>nl ?_))
    refine se ?_
    refine cm s rfl hm (fun hb hm=>?_) (fun hb hm=>?_)
    ·refine wpIn_skip ?_
     refine se ?_
     refine wpIn_block ?_
     obtain ⟨x7,hx7,hm⟩:=bs hm
     refine se (rg (sq s (mv (t rfl)) rfl fun a w s=>sq s (ix (t rfl) (t rfl) hx7) rfl fun a w s=>sq s (ld (t rfl)) rfl fun a w s=>sq s (sa (t rfl)) rfl fun a w s=>sq s (sa (t rfl)) rfl fun a w s=>nl ?_))
     refine se (rg (sq s (mv (t rfl)) rfl fun a w s=>sq s (eq (t rfl) ci) rfl fun a w s=>sq s (mv (t rfl)) rfl fun a w s=>sg s rfl rfl (fun hb=>(mv (t rfl))) rfl fun a w s=>sq s (paP (t rfl) rfl) rfl fun a w s=>nl ?_))
     obtain ⟨z8,hz8,hkz8⟩:=bs hm
     refine cpI (fun a w=>St M w_0 58 [(0,Va (v0)),(1,Va (v1)),(2,Pt (v0)),(4,Qv (pb b1 0)),(5,Va ((0:Int))),(6,Va (x2)),(7,Qv (pb b4 0)),(9,Va (z8.1)),(10,Va (z5.2.1)),(11,Va (x7)),(31,Va (v1)),(32,Va ((v1.length:Int))),(33,Va (z5.2.1)),(1000,Mr b1 [(.slice none 0 0),(.slice none 0 0),(.slice none 0 0),(.slice none 0 0),(.slice none 0 0)]),(1001,Mg b4 (z8.2))] a w) ?_ fun a w s=>?_
     ·refine cm s rfl hz8 (fun hb hm=>?_) (fun hb hm=>?_)
      ·obtain ⟨x9,hx9,hm⟩:=bs hm
       refine rg (sq s (ld (t rfl)) rfl fun a w s=>sq s (lm (K:=1001) (t rfl) rfl) rfl fun a w s=>sq s (mv (t rfl)) rfl fun a w s=>sq s (bl79_0_1_2 ci (t rfl) cb) rfl fun a w s=>sq s (cc rfl (oc (t rfl) (oc (t rfl) (oc (t rfl) on))) (s46 f _ _ _ _ hx9)) rfl fun a w s=>sq s (mve (t rfl)) rfl fun a w s=>sq s (Pn.x30 (t rfl)) rfl fun a w s=>sq s (Pn.x31 (t rfl)) rfl fun a w s=>sq s (Pn.x32 (t rfl)) rfl fun a w s=>sw (K:=1001) s (t rfl) rfl (t rfl) rfl fun w s=>sq s (sa (t rfl)) rfl fun a w s=>nl ?_)
       obtain rfl:=si hm
       exact s.pick [0,1,2,4,5,6,7,9,10,11,31,32,33,1000,1001]
      ·refine wpIn_skip ?_
       obtain rfl:=si hm
       exact s.pick [0,1,2,4,5,6,7,9,10,11,31,32,33,1000,1001]
     ·replace hm:=hkz8
      refine rg (sq s (ad (t rfl) ci) rfl fun a w s=>sq s (mv (t rfl)) rfl fun a w s=>nl ?_)
      exact ⟨_,hm,s.pick [0,1,2,4,5,6,7,9,31,32,33,1000,1001]⟩
    ·refine wpIn_exit ?_
     obtain rfl:=si hm
     exact s.pick [0,1,2,4,5,6,7,9,31,32,33,1000,1001]
   ·replace hm:=hko6
    refine se ?_
    refine se (rg (sq s (mv (t rfl)) rfl fun a w s=>sq s (ne (t rfl) ci) rfl fun a w s=>nl ?_))
    refine cm s rfl hm (fun hb hm=>?_) (fun hb hm=>?_)
    ·refine se (rg (sq s (bl31_ ) rfl fun a w s=>sq s (mv (t rfl)) rfl fun a w s=>swd (K:=1000) s (t rfl) rfl (t rfl) rfl fun w s=>sq s (sa (t rfl)) rfl fun a w s=>nl ?_))
     obtain rfl:=si hm
     refine wpIn_ret ?_
     exact rn hD s rfl (rv2 (rc (K:=1000) rfl rfl) (rt rfl))
    ·refine wpIn_skip ?_
     refine se (rg (sq s (lm (K:=1001) (t rfl) rfl) rfl fun a w s=>swd (K:=1000) s (t rfl) rfl (t rfl) rfl fun w s=>sq s (sa ci) rfl fun a w s=>nl ?_))
     obtain rfl:=si hm
     refine wpIn_ret ?_
     exact rn hD s rfl (rv2 (rc (K:=1000) rfl rfl) (rt rfl))
def m90_3 (f:Nat) (v0:State) (v1:List (Key×Int)) (v2:List State) (v3:List (List Int)) (v4:List Int):Option (Int×(List (Key×Int))×(List State)×(List Int)):=(m88 f v0).bind fun x1=>(bif (!(mat eqq144 v1 x1).isSome) then (bif ((v2.length:Int) == (16384:Int)) then some ((12:Int),v1,v2,v4) else (app v2 ([v0]:List State)).bind fun x3=>(app v4 ([(v2.length:Int)]:List Int)).bind fun x5=>some ((0:Int),(mput eqq144 v1 x1 (v2.length:Int)),x3,x5)) else (app v4 ([((mat eqq144 v1 x1).getD (0:Int))]:List Int)).bind fun x7=>some ((0:Int),v1,v2,x7))
set_option maxRecDepth 100000 in
theorem s90_3 (f:Nat) (n0:Nat) (n1:Nat) (n2:Nat) (n3:Nat) (n4:Value) (n5:Value) (n6:Value) (v0:State) (v1:List (Key×Int)) (v2:List State) (v3:List (List Int)) (v4:List Int) (r:Int×(List (Key×Int))×(List State)×(List Int)) (hm:m90_3 f v0 v1 v2 v3 v4=some r):Cg Tryz.prog 90 [Va (v0),Qv (pb n0 0),Qv (pb n1 0),Qv (pb n2 0)] [Mr n0 [(.map (some n3))],Om n3 (v1:List (Key×Int)),Mr n1 [n4,n5],Ow 31 n4 (v2),Ow 24 n5 (v3),Mr n2 [n6],Ow 3 n6 (v4)] (Rz (fun x:Value×Value=>Va (r.1)) (fun x=>[Mr n0 [(.map (some n3))],Om n3 (r.2.1:List (Key×Int)),Mr n1 [x.1,n5],Ow 31 x.1 (r.2.2.1),Ow 24 n5 (v3),Mr n2 [x.2],Ow 3 x.2 (r.2.2.2)])):=by
 unfold m90_3 at hm
 refine eng Tryz.func90 (by kernel_rfl) rfl Tryz.ntmps90 rfl rfl fun M w_0 a hM hD s=>?_
 refine se (rg (sq s (bx (t rfl)) rfl fun a w s=>sq s (sa ci) rfl fun a w s=>nl ?_))
 obtain ⟨x1,hx1,hm⟩:=bs hm
 refine se (rg (sq s (ld (t rfl)) rfl fun a w s=>sq s (cc rfl (oc (t rfl) on) (s88 f _ _ hx1)) rfl fun a w s=>sqb 1007 s (al (z:=(⟨ByteArray.empty,ByteArray.empty,ByteArray.empty,ByteArray.empty,ByteArray.empty⟩:Key))) rfl rfl fun b2 a w s=>sw (K:=1007) s (t rfl) rfl (t rfl) rfl fun w s=>nl ?_))
 refine se (rg (sq s (lrp (K:=1000) (t rfl) rfl rfl (by kernel_rfl)) rfl fun a w s=>sq s (lm (K:=1007) (t rfl) rfl) rfl fun a w s=>sq s (lko (K:=144) (E:=3) (KK:=1001) (z:=(0:Int)) (t rfl) rfl (t rfl) (by kernel_rfl) (by kernel_rfl)) rfl fun a w s=>sq s (mve (t rfl)) rfl fun a w s=>sq s (Pn.x20 (t rfl)) rfl fun a w s=>sq s (Pn.x21 (t rfl)) rfl fun a w s=>sq s (sa (t rfl)) rfl fun a w s=>sq s (sa (t rfl)) rfl fun a w s=>nl ?_))
 refine se ?_
 refine se (rg (sq s (mv (t rfl)) rfl fun a w s=>sq s (nt (t rfl)) rfl fun a w s=>nl ?_))
 refine cm s rfl hm (fun hb hm=>?_) (fun hb hm=>?_)
 ·refine se ?_
  refine se (rg (sq s (fm_ (off:=0) (m:=0) (q:=0) (t rfl) (by kernel_rfl) rfl) rfl fun a w s=>sq s (lrc (K:=1002) (List State) (t rfl) rfl rfl rfl rfl) rfl fun a w s=>sq s (lnq (α:=State) (k:=1003) (t rfl) rfl) rfl fun a w s=>sq s (eq (t rfl) ci) rfl fun a w s=>nl ?_))
  refine cm s rfl hm (fun hb hm=>?_) (fun hb hm=>?_)
  ·refine se (rg (sq s (sa ci) rfl fun a w s=>nl ?_))
   obtain rfl:=si hm
   refine wpIn_ret ?_
   exact rz [1000,1001,1002,1003,1004,1005,1006] (n4,n6) hM hD s rfl (rv1 (rt rfl)) (kc rfl (kc rfl (kc rfl (kc rfl (kc rfl (kc rfl (kc rfl kn))))))) rfl
  ·refine wpIn_skip ?_
   refine se (rg (sq s (fm_ (off:=0) (m:=0) (q:=0) (t rfl) (by kernel_rfl) rfl) rfl fun a w s=>sq s (lrc (K:=1002) (List State) (t rfl) rfl rfl rfl rfl) rfl fun a w s=>sq s (lnq (α:=State) (k:=1003) (t rfl) rfl) rfl fun a w s=>sq s (sa (t rfl)) rfl fun a w s=>nl ?_))
   refine se (rg (sq s (lrp (K:=1000) (t rfl) rfl rfl (by kernel_rfl)) rfl fun a w s=>sq s (lm (K:=1007) (t rfl) rfl) rfl fun a w s=>sq s (mv (t rfl)) rfl fun a w s=>stm (K:=144) (E:=3) (KK:=1001) s (t rfl) rfl (t rfl) (t rfl) (by kernel_rfl) fun w s=>nl ?_))
   obtain ⟨x3,hx3,hm⟩:=bs hm
   refine rg (sq s (fm_ (off:=0) (m:=0) (q:=0) (t rfl) (by kernel_rfl) rfl) rfl fun a w s=>sq s (lrc (K:=1002) (List State) (t rfl) rfl rfl rfl rfl) rfl fun a w s=>sq s (ld (t rfl)) rfl fun a w s=>sq s (bsv (o1 (t rfl) o0) rfl rfl (by kernel_rfl)) rfl fun a w s=>apd (α:=State) (k:=1003) s (t rfl) rfl (t rfl) hx3 rfl rfl fun c4 a w s=>sq s (fm_ (off:=0) (m:=0) (q:=0) (t rfl) (by kernel_rfl) rfl) rfl fun a w s=>srq (K:=1002) (cs':=[c4,n5]) s (t rfl) rfl (t rfl) (by kernel_rfl) (oco (k:=1003) rfl) rfl rfl fun w s=>nl ?_)
   obtain ⟨x5,hx5,hm⟩:=bs hm
   refine se (rg (sq s (lrc (K:=1005) (List Int) (t rfl) rfl rfl rfl rfl) rfl fun a w s=>sq s (mv (t rfl)) rfl fun a w s=>sq s (bsv (o1 (t rfl) o0) rfl rfl (by kernel_rfl)) rfl fun a w s=>apd (α:=Int) (k:=1006) s (t rfl) rfl (t rfl) hx5 rfl rfl fun c6 a w s=>srq (K:=1005) (cs':=[c6]) s (t rfl) rfl (t rfl) (by kernel_rfl) (oco (k:=1006) rfl) rfl rfl fun w s=>nl ?_))
   refine se (rg (sq s (sa ci) rfl fun a w s=>nl ?_))
   obtain rfl:=si hm
   refine wpIn_ret ?_
   exact rz [1000,1001,1002,1003,1004,1005,1006] (c4,c6) hM hD s rfl (rv1 (rt rfl)) (kc rfl (kc rfl (kc rfl (kc rfl (kc rfl (kc rfl (kc rfl kn))))))) rfl
 ·refine wpIn_skip ?_
  obtain ⟨x7,hx7,hm⟩:=bs hm
  refine se (rg (sq s (lrc (K:=1005) (List Int) (t rfl) rfl rfl rfl rfl) rfl fun a w s=>sq s (mv (t rfl)) rfl fun a w s=>sq s (bsv (o1 (t rfl) o0) rfl rfl (by kernel_rfl)) rfl fun a w s=>apd (α:=Int) (k:=1006) s (t rfl) rfl (t rfl) hx7 rfl rfl fun c8 a w s=>srq (K:=1005) (cs':=[c8]) s (t rfl) rfl (t rfl) (by kernel_rfl) (oco (k:=1006) rfl) rfl rfl fun w s=>nl ?_))
  refine se (rg (sq s (sa ci) rfl fun a w s=>nl ?_))
  obtain rfl:=si hm
  refine wpIn_ret ?_
  exact rz [1000,1001,1002,1003,1004,1005,1006] (n4,c8) hM hD s rfl (rv1 (rt rfl)) (kc rfl (kc rfl (kc rfl (kc rfl (kc rfl (kc rfl (kc rfl kn))))))) rfl
def m89_1_l1 (f:Nat) (v0:Control) (v1:State) (v4:List (List Int)) (x1:Int×(List Event)):Nat→(Int×(List (Key×Int))×(List State)×(List Int))→Option (Lo (Int×(List (Key×Int))×(List State)×(List Int)) (Int×(List (Key×Int))×(List State)×(List Int)))
 | 0,_=>none
 | n+1,z4=>(bif (decide (z4.1 < (x1.2.length:Int))) then (idx x1.2 z4.1).bind fun x7=>(m46 f v0 v1 x7).bind fun x9=>(bif (x9.2.2 != (0:Int)) then some (.ret (x9.2.2,z4.2.1,z4.2.2.1,z4.2.2.2)) else (m90_3 f x9.1 z4.2.1 z4.2.2.1 v4 z4.2.2.2).bind fun x11=>(bif (x11.1 != (0:Int)) then some (.ret (x11.1,x11.2.1,x11.2.2.1,x11.2.2.2)) else m89_1_l1 f v0 v1 v4 x1 n ((wr (z4.1 + (1:Int))),x11.2.1,x11.2.2.1,x11.2.2.2))) else some (.brk (z4.1,z4.2.1,z4.2.2.1,z4.2.2.2)))
def m89_1 (f:Nat) (v0:Control) (v1:State) (v2:List (Key×Int)) (v3:List State) (v4:List (List Int)):Option (Int×(List (Key×Int))×(List State)×(List Int)):=(m45 f v0 v1).bind fun x1=>(bif (x1.1 != (0:Int)) then some (x1.1,v2,v3,([]:List Int)) else ((m89_1_l1 f v0 v1 v4 x1 f ((0:Int),v2,v3,([]:List Int))).bind fun o5=>match o5 with | .brk o5s=>some ((0:Int),o5s.2.1,o5s.2.2.1,o5s.2.2.2) | .ret r=>some r))
set_option maxRecDepth 100000 in
set_option maxHeartbeats 2000000 in
theorem s89_1 (f:Nat) (n0:Nat) (n1:Nat) (n2:Nat) (n3:Nat) (n4:Value) (n5:Value) (v0:Control) (v1:State) (v2:List (Key×Int)) (v3:List State) (v4:List (List Int)) (r:Int×(List (Key×Int))×(List State)×(List Int)) (hm:m89_1 f v0 v1 v2 v3 v4=some r):Cg Tryz.prog 89 [Va (v0),Va (v1),Qv (fv 90 [] [(pb n0 0),(pb n1 0),(pb n2 0)])] [Mr n0 [(.map (some n3))],Om n3 (v2:List (Key×Int)),Mr n1 [n4,n5],Ow 31 n4 (v3),Ow 24 n5 (v4),Mr n2 [(.slice none 0 0)]] (Rz (fun x:Value×Value=>Va (r.1)) (fun x=>[Mr n0 [(.map (some n3))],Om n3 (r.2.1:List (Key×Int)),Mr n1 [x.1,n5],Ow 31 x.1 (r.2.2.1),Ow 24 n5 (v4),Mr n2 [x.2],Ow 3 x.2 (r.2.2.2)])):=by
 unfold m89_1 at hm
 refine eng Tryz.func89 (by kernel_rfl) rfl Tryz.ntmps89 rfl rfl fun M w_0 a hM hD s=>?_
 refine se (rg (sq s (bx (t rfl)) rfl fun a w s=>sq s (bx (t rfl)) rfl fun a w s=>sq s (sa ci) rfl fun a w s=>nl ?_))
 obtain ⟨x1,hx1,hm⟩:=bs hm
 refine se (rg (sq s (ld (t rfl)) rfl fun a w s=>sq s (ld (t rfl)) rfl fun a w s=>sqz [1006] hM s (cc rfl (oc (t rfl) (oc (t rfl) on)) (s45 f _ _ _ hx1)) (fun _=>rfl) rfl rfl fun y2 a w s=>sq s (mve (t rfl)) rfl fun a w s=>sq s (Pn.x20 (t rfl)) rfl fun a w s=>sq s (Pn.x21 (t rfl)) rfl fun a w s=>sq s (saq (t rfl)) rfl fun a w s=>sq s (sa (t rfl)) rfl fun a w s=>nl ?_))
 refine se ?_
 refine se (rg (sq s (mv (t rfl)) rfl fun a w s=>sq s (ne (t rfl) ci) rfl fun a w s=>nl ?_))
 refine cm s rfl hm (fun hb hm=>?_) (fun hb hm=>?_)
 ·refine se (rg (sq s (mv (t rfl)) rfl fun a w s=>sq s (sa (t rfl)) rfl fun a w s=>nl ?_))
  obtain rfl:=si hm
  refine nilc (α:=Int) (k:=1005) (cs':=fun c3=>[c3]) 1007 3 s rfl (fun _=>rfl) rfl fun c3 s=>?_
  refine wpIn_ret ?_
  exact rz [1000,1001,1002,1003,1004,1005,1007] (n4,c3) hM hD s rfl (rv1 (rt rfl)) (kc rfl (kc rfl (kc rfl (kc rfl (kc rfl (kc rfl (kc rfl kn))))))) rfl
 ·refine wpIn_skip ?_
  refine se ?_
  refine se (rg (sq s (mvq (t rfl)) rfl fun a w s=>sq s (lnq (α:=Event) (k:=1006) (t rfl) rfl) rfl fun a w s=>sq s (mv ci) rfl fun a w s=>nl ?_))
  refine nilc (α:=Int) (k:=1005) (cs':=fun c6=>[c6]) 1008 3 s rfl (fun _=>rfl) rfl fun c6 s=>?_
  obtain ⟨o5,hoo5,hko5⟩:=bs hm
  refine lcI o5 (fun o5s a w=>∃ (o5sc0:Value) (o5sc1:Value),St M w_0 48 [(0,Va (v0)),(1,Va (v1)),(2,Qv (fv 90 [] [(pb n0 0),(pb n1 0),(pb n2 0)])),(3,Pt (v0)),(4,Pt (v1)),(6,Va ((0:Int))),(7,Qv y2),(8,Va (x1.1)),(24,Qv y2),(25,Va ((x1.2.length:Int))),(26,Va (o5s.1)),(1000,Mr n0 [(.map (some n3))]),(1001,Om n3 (o5s.2.1:List (Key×Int))),(1002,Mr n1 [o5sc0,n5]),(1003,Ow 31 o5sc0 (o5s.2.2.1)),(1004,Ow 24 n5 (v4)),(1005,Mr n2 [o5sc1]),(1008,Ow 3 o5sc1 (o5s.2.2.2)),(1006,Ow 79 y2 (x1.2))] a w) ?_ fun o5s a w ho s=>?_
  ·refine wpIn_block ?_
   refine loI (fun n z4=>m89_1_l1 f v0 v1 v4 x1 n z4) o5 (fun z4 a w=>∃ (z4c0:Value) (z4c1:Value),St M w_0 48 [(0,Va (v0)),(1,Va (v1)),(2,Qv (fv 90 [] [(pb n0 0),(pb n1 0),(pb n2 0)])),(3,Pt (v0)),(4,Pt (v1)),(6,Va ((0:Int))),(7,Qv y2),(8,Va (x1.1)),(24,Qv y2),(25,Va ((x1.2.length:Int))),(26,Va (z4.1)),(1000,Mr n0 [(.map (some n3))]),(1001,Om n3 (z4.2.1:List (Key×Int))),(1002,Mr n1 [z4c0,n5]),(1003,Ow 31 z4c0 (z4.2.2.1)),(1004,Ow 24 n5 (v4)),(1005,Mr n2 [z4c1]),(1008,Ow 3 z4c1 (z4.2.2.2)),(1006,Ow 79 y2 (x1.2))] a w) f ((0:Int),v2,v3,([]:List Int)) ⟨n4,c6,s.pick [0,1,2,3,4,6,7,8,24,25,26,1000,1001,1002,1003,1004,1005,1008,1006]⟩ hoo5 (fun _=>rfl) fun n z4 a w hm s=>?_
   obtain ⟨z4c0,z4c1,s⟩:=s
   replace hm:m89_1_l1 f v0 v1 v4 x1 (n + 1) z4=some o5:=hm
   unfold m89_1_l1 at hm
   refine se (rg (sq s (lt (t rfl) (t rfl)) rfl fun a w s=>nl ?_))
   refine se ?_
   refine cm s rfl hm (fun hb hm=>?_) (fun hb hm=>?_)
   ·refine wpIn_skip ?_
    refine se ?_
    refine wpIn_block ?_
    obtain ⟨x7,hx7,hm⟩:=bs hm
    refine se (rg (sq s (ixq (α:=Event) (k:=1006) (t rfl) rfl (t rfl) hx7) rfl fun a w s=>sq s (lq (k:=1006) (t rfl) rfl (idxg hx7)) rfl fun a w s=>sqb 1009 s (al (z:=(⟨(0:Int),(0:Int),false⟩:Event))) rfl rfl fun b8 a w s=>sw (K:=1009) s (t rfl) rfl (t rfl) rfl fun w s=>nl ?_))
    obtain ⟨x9,hx9,hm⟩:=bs hm
    refine se (rg (sq s (ld (t rfl)) rfl fun a w s=>sq s (ld (t rfl)) rfl fun a w s=>sq s (lm (K:=1009) (t rfl) rfl) rfl fun a w s=>sq s (cc rfl (oc (t rfl) (oc (t rfl) (oc (t rfl) on))) (s46 f _ _ _ _ hx9)) rfl fun a w s=>sq s (mve (t rfl)) rfl fun a w s=>sq s (Pn.x30 (t rfl)) rfl fun a w s=>sq s (Pn.x31 (t rfl)) rfl fun a w s=>sq s (Pn.x32 (t rfl)) rfl fun a w s=>sqr 1010 s (alr (cs:=[(.slice none 0 0),(.slice none 0 0),(.slice none 0 0),(.slice none 0 0),(.slice none 0 0)]) (z:=.agg #[(.slice none 0 0),(.slice none 0 0),(.slice none 0 0),(.slice none 0 0),(.slice none 0 0)]) (by kernel_rfl) rfl rfl) rfl rfl fun b10 a w s=>swd (K:=1010) s (t rfl) rfl (t rfl) rfl fun w s=>sq s (sa (t rfl)) rfl fun a w s=>sq s (sa (t rfl)) rfl fun a w s=>nl ?_))
    refine se ?_
    refine se (rg (sq s (mv (t rfl)) rfl fun a w s=>sq s (ne (t rfl) ci) rfl fun a w s=>nl ?_))
    refine cm s rfl hm (fun hb hm=>?_) (fun hb hm=>?_)
    ·refine se (rg (sq s (mv (t rfl)) rfl fun a w s=>sq s (sa (t rfl)) rfl fun a w s=>nl ?_))
     obtain rfl:=si hm
     replace hm:=hko5
     dsimp only at hm
     obtain rfl:=si hm
     refine wpIn_ret ?_
     exact rz [1000,1001,1002,1003,1004,1005,1008] (z4c0,z4c1) hM hD s rfl (rv1 (rt rfl)) (kc rfl (kc rfl (kc rfl (kc rfl (kc rfl (kc rfl (kc rfl kn))))))) rfl
    ·refine wpIn_skip ?_
     obtain ⟨x11,hx11,hm⟩:=bs hm
     refine se (rg (sq s (mvq (t rfl)) rfl fun a w s=>sq s (lm (K:=1010) (t rfl) rfl) rfl fun a w s=>cgv [1000,1001,1002,1003,1004,1005,1008] [1000,1001,1002,1003,1004,1005,1008] hM s (t rfl) rfl (oc (t rfl) on) vn (vq (vq (vq vn))) (s90_3 f n0 n1 n2 n3 z4c0 n5 z4c1 _ _ _ _ _ _ hx11) (kc rfl (kc rfl (kc rfl (kc rfl (kc rfl (kc rfl (kc rfl kn))))))) rfl (fun _=>rfl) rfl rfl rfl fun y12 a w s=>sq s (sa (t rfl)) rfl fun a w s=>nl ?_))
     refine se (rg (sq s (mv (t rfl)) rfl fun a w s=>sq s (ne (t rfl) ci) rfl fun a w s=>nl ?_))
     refine cm s rfl hm (fun hb hm=>?_) (fun hb hm=>?_)
     ·refine se (rg (sq s (mv (t rfl)) rfl fun a w s=>sq s (sa (t rfl)) rfl fun a w s=>nl ?_))
      obtain rfl:=si hm
      replace hm:=hko5
      dsimp only at hm
      obtain rfl:=si hm
      refine wpIn_ret ?_
      exact rz [1000,1001,1002,1003,1004,1005,1008] (y12.1,y12.2) hM hD s rfl (rv1 (rt rfl)) (kc rfl (kc rfl (kc rfl (kc rfl (kc rfl (kc rfl (kc rfl kn))))))) rfl
     ·refine wpIn_skip ?_
      refine rg (sq s (ad (t rfl) ci) rfl fun a w s=>sq s (mv (t rfl)) rfl fun a w s=>nl ?_)
      exact ⟨_,hm,⟨y12.1,y12.2,s.pick [0,1,2,3,4,6,7,8,24,25,26,1000,1001,1002,1003,1004,1005,1008,1006]⟩⟩
   ·refine wpIn_exit ?_
    exact ⟨_,(si hm).symm,⟨z4c0,z4c1,s.pick [0,1,2,3,4,6,7,8,24,25,26,1000,1001,1002,1003,1004,1005,1008,1006]⟩⟩
  ·obtain ⟨o5sc0,o5sc1,s⟩:=s
   subst ho
   replace hm:=hko5
   dsimp only at hm
   refine se (rg (sq s (sa ci) rfl fun a w s=>nl ?_))
   obtain rfl:=si hm
   refine wpIn_ret ?_
   exact rz [1000,1001,1002,1003,1004,1005,1008] (o5sc0,o5sc1) hM hD s rfl (rv1 (rt rfl)) (kc rfl (kc rfl (kc rfl (kc rfl (kc rfl (kc rfl (kc rfl kn))))))) rfl
def m25_l1 (f:Nat) (v0:Control):Nat→(Int×(List State)×(List (List Int))×(List (Key×Int)))→Option (Lo (Int×(List State)×(List (List Int))×(List (Key×Int))) (Space×Int))
 | 0,_=>none
 | n+1,z9=>(bif (decide (z9.1 < (z9.2.1.length:Int))) then (idx z9.2.1 z9.1).bind fun x13=>(m89_1 f v0 x13 z9.2.2.2 z9.2.1 z9.2.2.1).bind fun x14=>(bif (x14.1 != (0:Int)) then some (.ret ((⟨([]:List State),([]:List (List Int))⟩:Space),x14.1)) else (app z9.2.2.1 ([x14.2.2.2]:List (List Int))).bind fun x16=>m25_l1 f v0 n ((wr (z9.1 + (1:Int))),x14.2.2.1,x16,x14.2.1)) else some (.brk (z9.1,z9.2.1,z9.2.2.1,z9.2.2.2)))
def m25 (f:Nat) (v0:Control) (v1:List Bool):Option (Space×Int):=(m21 f v0 v1).bind fun x2=>(bif (x2.2 != (0:Int)) then some ((⟨([]:List State),([]:List (List Int))⟩:Space),x2.2) else (m88 f x2.1).bind fun x7=>((m25_l1 f v0 f ((0:Int),([x2.1]:List State),([]:List (List Int)),(mput eqq144 ([]:List (Key×Int)) x7 (0:Int)))).bind fun o10=>match o10 with | .brk o10s=>some ((⟨o10s.2.1,o10s.2.2.1⟩:Space),(0:Int)) | .ret r=>some r))
set_option maxRecDepth 100000 in
set_option maxHeartbeats 2000000 in
theorem s25 (f:Nat) (v0:Control) (v1:List Bool) (r:Space×Int) (hm:m25 f v0 v1=some r):Sp Tryz.prog 25 [Va (v0),Va (v1)] (T2 (Va (r.1)) (Va (r.2))):=by
 unfold m25 at hm
 refine ens Tryz.func25 (by kernel_rfl) rfl Tryz.ntmps25 rfl rfl fun M w_0 a hM hD s=>?_
 refine se (rg (sq s (bx (t rfl)) rfl fun a w s=>sqr 1000 s (alr (cs:=[(.slice none 0 0),(.slice none 0 0)]) (z:=.agg #[(.slice none 0 0),(.slice none 0 0)]) (by kernel_rfl) rfl rfl) rfl rfl fun b1 a w s=>sq s (sa ci) rfl fun a w s=>nl ?_))
 obtain ⟨x2,hx2,hm⟩:=bs hm
 refine se (rg (sq s (ld (t rfl)) rfl fun a w s=>sq s (mv (t rfl)) rfl fun a w s=>sq s (cc rfl (oc (t rfl) (oc (t rfl) on)) (s21 f _ _ _ hx2)) rfl fun a w s=>sq s (mve (t rfl)) rfl fun a w s=>sq s (Pn.x20 (t rfl)) rfl fun a w s=>sq s (Pn.x21 (t rfl)) rfl fun a w s=>sqr 1001 s (alr (cs:=[(.slice none 0 0),(.slice none 0 0),(.slice none 0 0),(.slice none 0 0),(.slice none 0 0)]) (z:=.agg #[(.slice none 0 0),(.slice none 0 0),(.slice none 0 0),(.slice none 0 0),(.slice none 0 0)]) (by kernel_rfl) rfl rfl) rfl rfl fun b3 a w s=>swd (K:=1001) s (t rfl) rfl (t rfl) rfl fun w s=>sq s (sa (t rfl)) rfl fun a w s=>nl ?_))
 refine se ?_
 refine se (rg (sq s (mv (t rfl)) rfl fun a w s=>sq s (ne (t rfl) ci) rfl fun a w s=>nl ?_))
 refine cm s rfl hm (fun hb hm=>?_) (fun hb hm=>?_)
 ·refine se (rg (sq s (bl42_ ) rfl fun a w s=>sq s (mv (t rfl)) rfl fun a w s=>swd (K:=1000) s (t rfl) rfl (t rfl) rfl fun w s=>sq s (sa (t rfl)) rfl fun a w s=>nl ?_))
  obtain rfl:=si hm
  refine wpIn_ret ?_
  exact rn hD s rfl (rv2 (rc (K:=1000) rfl rfl) (rt rfl))
 ·refine wpIn_skip ?_
  refine se (rg (sq s (lm (K:=1001) (t rfl) rfl) rfl fun a w s=>sqo 1002 s (bso (o1 (t rfl) o0) rfl rfl (by kernel_rfl)) rfl rfl fun c4 a w s=>sq s (bla (L:=[(0,1),(1,1)]) (z:=[(.slice none 0 0),(.slice none 0 0)]) (res:=[c4,(.slice none 0 0)]) rfl (by kernel_rfl) (by kernel_rfl) (pdq (t rfl) (oco (k:=1002) rfl) pdn) rfl rfl) rfl fun a w s=>sqr 1003 s (alr (cs:=[(.slice none 0 0),(.slice none 0 0)]) (z:=.agg #[(.slice none 0 0),(.slice none 0 0)]) (by kernel_rfl) rfl rfl) rfl rfl fun b5 a w s=>sra (K:=1003) (m:=[c4,(.slice none 0 0)]) (cs':=[c4,(.slice none 0 0)]) s (t rfl) rfl (t rfl) (by kernel_rfl) rfl rfl rfl fun w s=>nl ?_))
  obtain ⟨x7,hx7,hm⟩:=bs hm
  refine se (rg (sqm 1004 s (mkm (κ:=Key) (ν:=Int)) rfl rfl fun b6 a w s=>sq s (lm (K:=1001) (t rfl) rfl) rfl fun a w s=>sq s (cc rfl (oc (t rfl) on) (s88 f _ _ hx7)) rfl fun a w s=>stmi (K:=144) (E:=3) (KK:=1004) s (t rfl) rfl (t rfl) ci (by kernel_rfl) fun w s=>sq s (mvq (t rfl)) rfl fun a w s=>sqr 1005 s (alr (cs:=[(.map none)]) (z:=(.map none)) (by kernel_rfl) rfl rfl) rfl rfl fun b8 a w s=>srq (K:=1005) (cs':=[(.map (some b6))]) s (t rfl) rfl (t rfl) (by kernel_rfl) (ocr rfl) rfl rfl fun w s=>nl ?_))
  refine se ?_
  refine se (rg (sq s (sa ci) rfl fun a w s=>nl ?_))
  refine nilc (α:=List Int) (k:=1003) (cs':=fun c11=>[c4,c11]) 1006 24 s rfl (fun _=>rfl) rfl fun c11 s=>?_
  obtain ⟨o10,hoo10,hko10⟩:=bs hm
  refine lcI o10 (fun o10s a w=>∃ (o10sc0:Value) (o10sc1:Value),St M w_0 56 [(0,Va (v0)),(1,Va (v1)),(2,Pt (v0)),(4,Qv (pb b1 0)),(5,Va ((0:Int))),(6,Qv (pb b3 0)),(7,Va (x2.2)),(8,Qv (pb b5 0)),(9,Qv (pb b8 0)),(10,Va (o10s.1)),(1000,Mr b1 [(.slice none 0 0),(.slice none 0 0)]),(1001,Mg b3 (x2.1)),(1003,Mr b5 [o10sc0,o10sc1]),(1002,Ow 31 o10sc0 (o10s.2.1)),(1006,Ow 24 o10sc1 (o10s.2.2.1)),(1005,Mr b8 [(.map (some b6))]),(1004,Om b6 (o10s.2.2.2:List (Key×Int)))] a w) ?_ fun o10s a w ho s=>?_
  ·refine wpIn_block ?_
   refine loI (fun n z9=>m25_l1 f v0 n z9) o10 (fun z9 a w=>∃ (z9c0:Value) (z9c1:Value),St M w_0 56 [(0,Va (v0)),(1,Va (v1)),(2,Pt (v0)),(4,Qv (pb b1 0)),(5,Va ((0:Int))),(6,Qv (pb b3 0)),(7,Va (x2.2)),(8,Qv (pb b5 0)),(9,Qv (pb b8 0)),(10,Va (z9.1)),(1000,Mr b1 [(.slice none 0 0),(.slice none 0 0)]),(1001,Mg b3 (x2.1)),(1003,Mr b5 [z9c0,z9c1]),(1002,Ow 31 z9c0 (z9.2.1)),(1006,Ow 24 z9c1 (z9.2.2.1)),(1005,Mr b8 [(.map (some b6))]),(1004,Om b6 (z9.2.2.2:List (Key×Int)))] a w) f ((0:Int),([x2.1]:List State),([]:List (List Int)),(mput eqq144 ([]:List (Key×Int)) x7 (0:Int))) ⟨c4,c11,s.pick [0,1,2,4,5,6,7,8,9,10,1000,1001,1003,1002,1006,1005,1004]⟩ hoo10 (fun _=>rfl) fun n z9 a w hm s=>?_
   obtain ⟨z9c0,z9c1,s⟩:=s
   replace hm:m25_l1 f v0 (n + 1) z9=some o10:=hm
   unfold m25_l1 at hm
   refine se ?_
   refine se (rg (sq s (mv (t rfl)) rfl fun a w s=>sq s (fm_ (off:=0) (m:=0) (q:=0) (t rfl) (by kernel_rfl) rfl) rfl fun a w s=>sq s (lrc (K:=1003) (List State) (t rfl) rfl rfl rfl rfl) rfl fun a w s=>sq s (lnq (α:=State) (k:=1002) (t rfl) rfl) rfl fun a w s=>sq s (lt (t rfl) (t rfl)) rfl fun a w s=>nl ?_))
   refine cm s rfl hm (fun hb hm=>?_) (fun hb hm=>?_)
   ·refine wpIn_skip ?_
    refine se ?_
    refine wpIn_block ?_
    refine se (rg (sqr 1007 s (alr (cs:=[(.slice none 0 0)]) (z:=(.slice none 0 0)) (by kernel_rfl) rfl rfl) rfl rfl fun b12 a w s=>nl ?_))
    obtain ⟨x13,hx13,hm⟩:=bs hm
    obtain ⟨x14,hx14,hm⟩:=bs hm
    refine se (flow s (m:=7) (.cons (.cons (.cons (.cons (.cons (.cons (.cons .nil rfl (ld (t rfl))) rfl (fm_ (off:=0) (m:=0) (q:=0) (t rfl) (by kernel_rfl) rfl)) rfl (lrc (K:=1003) (List State) (t rfl) rfl rfl rfl rfl)) rfl (mv (t rfl))) rfl (ixq (α:=State) (k:=1002) (t rfl) rfl (t rfl) hx13)) rfl (lq (k:=1002) (t rfl) rfl (idxg hx13))) rfl (mkf rfl rfl qn (qc (t rfl) (qc (t rfl) (qc (t rfl) qn))))) (by kernel_rfl) rfl rfl fun a w s=>cgv [1005,1004,1003,1002,1006,1007] [1005,1004,1003,1002,1006,1007,1008] hM s qf rfl (oc (t rfl) (oc (t rfl) (oc (t rfl) on))) vn vn (s89_1 f b8 b5 b12 b6 z9c0 z9c1 _ _ _ _ _ _ hx14) (kc rfl (kc rfl (kc rfl (kc rfl (kc rfl (kc rfl kn)))))) rfl (fun _=>rfl) rfl rfl rfl fun y15 a w s=>sq s (sa (t rfl)) rfl fun a w s=>nl ?_)
    refine se ?_
    refine se (rg (sq s (mv (t rfl)) rfl fun a w s=>sq s (ne (t rfl) ci) rfl fun a w s=>nl ?_))
    refine cm s rfl hm (fun hb hm=>?_) (fun hb hm=>?_)
    ·refine se (rg (sq s (bl42_ ) rfl fun a w s=>sq s (mv (t rfl)) rfl fun a w s=>swd (K:=1000) s (t rfl) rfl (t rfl) rfl fun w s=>sq s (sa (t rfl)) rfl fun a w s=>nl ?_))
     obtain rfl:=si hm
     replace hm:=hko10
     dsimp only at hm
     obtain rfl:=si hm
     refine wpIn_ret ?_
     exact rn hD s rfl (rv2 (rc (K:=1000) rfl rfl) (rt rfl))
    ·refine wpIn_skip ?_
     obtain ⟨x16,hx16,hm⟩:=bs hm
     refine rg (sq s (fm_ (off:=1) (m:=0) (q:=1) (t rfl) (by kernel_rfl) rfl) rfl fun a w s=>sq s (lrc (K:=1003) (List (List Int)) (t rfl) rfl rfl rfl rfl) rfl fun a w s=>sq s (lrc (K:=1007) (List Int) (t rfl) rfl rfl rfl rfl) rfl fun a w s=>sq s (bsw (β:=Int) (cd1 (t rfl) (oco (k:=1008) rfl) cd0) rfl rfl (by kernel_rfl)) rfl fun a w s=>fzk (α:=Int) (k:=1008) hM s rfl fun s=>apd (α:=List Int) (k:=1006) s (t rfl) rfl (rwd (t rfl) (rl1 (rpz (k:=1008) rfl) rl0)) hx16 rfl rfl fun c17 a w s=>sq s (fm_ (off:=1) (m:=0) (q:=1) (t rfl) (by kernel_rfl) rfl) rfl fun a w s=>srq (K:=1003) (cs':=[y15.1,c17]) s (t rfl) rfl (t rfl) (by kernel_rfl) (oco (k:=1006) rfl) rfl rfl fun w s=>nl ?_)
     refine rg (sq s (mv (t rfl)) rfl fun a w s=>sq s (ad (t rfl) ci) rfl fun a w s=>sq s (sa (t rfl)) rfl fun a w s=>nl ?_)
     exact ⟨_,hm,⟨y15.1,c17,s.pick [0,1,2,4,5,6,7,8,9,10,1000,1001,1003,1002,1006,1005,1004]⟩⟩
   ·refine wpIn_exit ?_
    exact ⟨_,(si hm).symm,⟨z9c0,z9c1,s.pick [0,1,2,4,5,6,7,8,9,10,1000,1001,1003,1002,1006,1005,1004]⟩⟩
  ·obtain ⟨o10sc0,o10sc1,s⟩:=s
   subst ho
   replace hm:=hko10
   dsimp only at hm
   refine se (rg (sq s (lra (K:=1003) (ds:=[o10sc0,o10sc1]) Space (t rfl) rfl rfl rfl rfl) rfl fun a w s=>sra (K:=1000) (m:=[o10sc0,o10sc1]) (cs':=[o10sc0,o10sc1]) s (t rfl) rfl (t rfl) (by kernel_rfl) rfl rfl rfl fun w s=>sq s (sa ci) rfl fun a w s=>nl ?_))
   obtain rfl:=si hm
   refine fzk (α:=State) (k:=1002) hM s rfl fun s=>?_
   refine fzk (α:=List Int) (k:=1006) hM s rfl fun s=>?_
   refine shut (k:=1000) (x:=(⟨o10s.2.1,o10s.2.2.1⟩:Space)) s rfl (rpS41 (l:=([o10sc0],[o10sc1])) (rpz (k:=1002) rfl) (rpz (k:=1006) rfl)) fun s=>?_
   refine wpIn_ret ?_
   exact rn hD s rfl (rv2 (rc (K:=1000) rfl rfl) (rt rfl))
def m123 (f:Nat) (v0:Int) (v1:List Int) (v2:Int):Option (Bool):=(idx v1 v0).bind fun x1=>(idx v1 v2).bind fun x2=>some (x1 == (wr (x2 - (1:Int))))
set_option maxRecDepth 100000 in
theorem s123 (f:Nat) (n0:Nat) (n1:Nat) (n2:Value) (v0:Int) (v1:List Int) (v2:Int) (r:Bool) (hm:m123 f v0 v1 v2=some r):Cg Tryz.prog 123 [Va (v0),Qv (pb n0 0),Qv (pb n1 0)] [Mr n0 [n2],Ow 3 n2 (v1),Mg n1 (v2)] (Rz (fun x:Unit=>Va (r)) (fun x=>[Mr n0 [n2],Ow 3 n2 (v1),Mg n1 (v2)])):=by
 unfold m123 at hm
 refine eng Tryz.func123 (by kernel_rfl) rfl Tryz.ntmps123 rfl rfl fun M w_0 a hM hD s=>?_
 refine se (rg (sq s (sa cb) rfl fun a w s=>nl ?_))
 obtain ⟨x1,hx1,hm⟩:=bs hm
 obtain ⟨x2,hx2,hm⟩:=bs hm
 refine se (flow s (m:=10) (.cons (.cons (.cons (.cons (.cons (.cons (.cons (.cons (.cons (.cons .nil rfl (lrc (K:=1000) (List Int) (t rfl) rfl rfl rfl rfl)) rfl (mv (t rfl))) rfl (ixq (α:=Int) (k:=1001) (t rfl) rfl (t rfl) hx1)) rfl (lq (k:=1001) (t rfl) rfl (idxg hx1))) rfl (lrc (K:=1000) (List Int) (t rfl) rfl rfl rfl rfl)) rfl (lm (K:=1002) (t rfl) rfl)) rfl (ixq (α:=Int) (k:=1001) (t rfl) rfl (t rfl) hx2)) rfl (lq (k:=1001) (t rfl) rfl (idxg hx2))) rfl (sb (t rfl) ci)) rfl (eq (t rfl) (t rfl))) (by kernel_rfl) rfl rfl fun a w s=>sq s (sa (t rfl)) rfl fun a w s=>nl ?_)
 obtain rfl:=si hm
 refine wpIn_ret ?_
 exact rz [1000,1001,1002] () hM hD s rfl (rv1 (rt rfl)) (kc rfl (kc rfl (kc rfl kn))) rfl
def m122_3_l1 (f:Nat) (v0:List Int) (v1:List Int) (v2:Int):Nat→Int→Option (Lo (Int) (Int))
 | 0,_=>none
 | n+1,z1=>(bif (decide (z1 < (v0.length:Int))) then (idx v0 z1).bind fun x3=>(m123 f x3 v1 v2).bind fun x4=>(bif x4 then some (.ret z1) else m122_3_l1 f v0 v1 v2 n (wr (z1 + (1:Int)))) else some (.brk z1))
def m122_3 (f:Nat) (v0:List Int) (v1:List Int) (v2:Int):Option (Int):=((m122_3_l1 f v0 v1 v2 f (0:Int)).bind fun o2=>match o2 with | .brk o2s=>some (-1:Int) | .ret r=>some r)
set_option maxRecDepth 100000 in
theorem s122_3 (f:Nat) (n0:Nat) (n1:Nat) (n2:Value) (v0:List Int) (v1:List Int) (v2:Int) (r:Int) (hm:m122_3 f v0 v1 v2=some r):Cg Tryz.prog 122 [Va (v0),Qv (fv 123 [] [(pb n0 0),(pb n1 0)])] [Mr n0 [n2],Ow 3 n2 (v1),Mg n1 (v2)] (Rz (fun x:Unit=>Va (r)) (fun x=>[Mr n0 [n2],Ow 3 n2 (v1),Mg n1 (v2)])):=by
 unfold m122_3 at hm
 refine eng Tryz.func122 (by kernel_rfl) rfl Tryz.ntmps122 rfl rfl fun M w_0 a hM hD s=>?_
 refine se (rg (sq s (sa ci) rfl fun a w s=>nl ?_))
 refine se ?_
 refine se (rg (sq s (mv (t rfl)) rfl fun a w s=>sq s (ln (t rfl)) rfl fun a w s=>sq s (mv ci) rfl fun a w s=>nl ?_))
 obtain ⟨o2,hoo2,hko2⟩:=bs hm
 refine lcI o2 (fun o2s a w=>St M w_0 19 [(0,Va (v0)),(1,Qv (fv 123 [] [(pb n0 0),(pb n1 0)])),(4,Va ((0:Int))),(7,Va ((v0.length:Int))),(8,Va (o2s)),(1000,Mr n0 [n2]),(1001,Ow 3 n2 (v1)),(1002,Mg n1 (v2))] a w) ?_ fun o2s a w ho s=>?_
 ·refine wpIn_block ?_
  refine loI (fun n z1=>m122_3_l1 f v0 v1 v2 n z1) o2 (fun z1 a w=>St M w_0 19 [(0,Va (v0)),(1,Qv (fv 123 [] [(pb n0 0),(pb n1 0)])),(4,Va ((0:Int))),(7,Va ((v0.length:Int))),(8,Va (z1)),(1000,Mr n0 [n2]),(1001,Ow 3 n2 (v1)),(1002,Mg n1 (v2))] a w) f (0:Int) (s.pick [0,1,4,7,8,1000,1001,1002]) hoo2 (fun _=>rfl) fun n z1 a w hm s=>?_
  replace hm:m122_3_l1 f v0 v1 v2 (n + 1) z1=some o2:=hm
  unfold m122_3_l1 at hm
  refine se (rg (sq s (lt (t rfl) (t rfl)) rfl fun a w s=>nl ?_))
  refine se ?_
  refine cm s rfl hm (fun hb hm=>?_) (fun hb hm=>?_)
  ·refine wpIn_skip ?_
   refine se ?_
   refine wpIn_block ?_
   refine se (rg (sq s (mv (t rfl)) rfl fun a w s=>sq s (sa (t rfl)) rfl fun a w s=>nl ?_))
   obtain ⟨x3,hx3,hm⟩:=bs hm
   obtain ⟨x4,hx4,hm⟩:=bs hm
   refine se (rg (sq s (mvq (t rfl)) rfl fun a w s=>sq s (mv (t rfl)) rfl fun a w s=>sq s (mv (t rfl)) rfl fun a w s=>sq s (ix (t rfl) (t rfl) hx3) rfl fun a w s=>sq s (ld (t rfl)) rfl fun a w s=>cgv [1000,1001,1002] [1000,1001,1002] hM s (t rfl) rfl (oc (t rfl) on) vn (vq (vq vn)) (s123 f n0 n1 n2 _ _ _ _ hx4) (kc rfl (kc rfl (kc rfl kn))) rfl (fun _=>rfl) rfl rfl rfl fun y5 a w s=>nl ?_))
   refine cm s rfl hm (fun hb hm=>?_) (fun hb hm=>?_)
   ·refine se (rg (sq s (mv (t rfl)) rfl fun a w s=>sq s (sa (t rfl)) rfl fun a w s=>nl ?_))
    obtain rfl:=si hm
    replace hm:=hko2
    dsimp only at hm
    obtain rfl:=si hm
    refine wpIn_ret ?_
    exact rz [1000,1001,1002] () hM hD s rfl (rv1 (rt rfl)) (kc rfl (kc rfl (kc rfl kn))) rfl
   ·refine wpIn_skip ?_
    refine rg (sq s (ad (t rfl) ci) rfl fun a w s=>sq s (mv (t rfl)) rfl fun a w s=>nl ?_)
    exact ⟨_,hm,s.pick [0,1,4,7,8,1000,1001,1002]⟩
  ·refine wpIn_exit ?_
   exact ⟨_,(si hm).symm,s.pick [0,1,4,7,8,1000,1001,1002]⟩
 ·subst ho
  replace hm:=hko2
  dsimp only at hm
  refine se (rg (sq s (sa ci) rfl fun a w s=>nl ?_))
  obtain rfl:=si hm
  refine wpIn_ret ?_
  exact rz [1000,1001,1002] () hM hD s rfl (rv1 (rt rfl)) (kc rfl (kc rfl (kc rfl kn))) rfl
def m57_l1 (f:Nat) (v0:Space) (v1:Int) (x3:(List Int)):Nat→((List Int)×Int)→Option (Lo ((List Int)×Int) ((List Int)×Int))
 | 0,_=>none
 | n+1,z8=>(bif (z8.2 != v1) then (idx ((v0).Moves) z8.2).bind fun x11=>(m122_3 f x11 x3 z8.2).bind fun x12=>(bif (decide (x12 < (0:Int))) then some (.ret (([]:List Int),(6:Int))) else (app z8.1 ([x12]:List Int)).bind fun x14=>(idx ((v0).Moves) z8.2).bind fun x16=>(idx x16 x12).bind fun x17=>m57_l1 f v0 v1 x3 n (x14,x17)) else some (.brk (z8.1,z8.2)))
def m57 (f:Nat) (v0:Space) (v1:Int):Option ((List Int)×Int):=(m114 f v0).bind fun x1=>(bif (x1 != (0:Int)) then some (([]:List Int),x1) else (bif ((decide (v1 < (0:Int))) || (decide (v1≥(((v0).States).length:Int)))) then some (([]:List Int),(2:Int)) else (m116 f ((v0).Moves)).bind fun x2=>(m115 f x2 v1).bind fun x3=>(idx x3 (0:Int)).bind fun x6=>(bif (decide (x6 < (0:Int))) then some (([]:List Int),(6:Int)) else ((m57_l1 f v0 v1 x3 f (([]:List Int),(0:Int))).bind fun o9=>match o9 with | .brk o9s=>some (o9s.1,(0:Int)) | .ret r=>some r))))
set_option maxRecDepth 100000 in
set_option maxHeartbeats 2000000 in
theorem s57 (f:Nat) (v0:Space) (v1:Int) (r:(List Int)×Int) (hm:m57 f v0 v1=some r):Sp Tryz.prog 57 [Va (v0),Va (v1)] (T2 (Va (r.1)) (Va (r.2))):=by
 unfold m57 at hm
 refine ens Tryz.func57 (by kernel_rfl) rfl Tryz.ntmps57 rfl rfl fun M w_0 a hM hD s=>?_
 refine se (rg (sq s (bx (t rfl)) rfl fun a w s=>sq s (saq cq) rfl fun a w s=>sq s (sa ci) rfl fun a w s=>nl ?_))
 refine se ?_
 obtain ⟨x1,hx1,hm⟩:=bs hm
 refine se (rg (sq s (ld (t rfl)) rfl fun a w s=>sq s (cc rfl (oc (t rfl) on) (s114 f _ _ hx1)) rfl fun a w s=>sq s (sa (t rfl)) rfl fun a w s=>nl ?_))
 refine se (rg (sq s (mv (t rfl)) rfl fun a w s=>sq s (ne (t rfl) ci) rfl fun a w s=>nl ?_))
 refine cm s rfl hm (fun hb hm=>?_) (fun hb hm=>?_)
 ·refine se (rg (sq s (mv (t rfl)) rfl fun a w s=>sq s (saq cq) rfl fun a w s=>sq s (sa (t rfl)) rfl fun a w s=>nl ?_))
  obtain rfl:=si hm
  refine wpIn_ret ?_
  exact rn hD s rfl (rv2 (ro (qns (α:=Int) (t rfl))) (rt rfl))
 ·refine wpIn_skip ?_
  refine se ?_
  refine se (rg (sq s (mv (t rfl)) rfl fun a w s=>sq s (lt (t rfl) ci) rfl fun a w s=>sq s (mv (t rfl)) rfl fun a w s=>sg s rfl rfl (fun hb=>(mv (t rfl))) rfl fun a w s=>sg s rfl rfl (fun hb=>(fa (f:=Space.States) (t rfl))) rfl fun a w s=>sg s rfl rfl (fun hb=>(ld (tg rfl hb))) rfl fun a w s=>sg s rfl rfl (fun hb=>(ln (tg rfl hb))) rfl fun a w s=>sg s rfl rfl (fun hb=>(ge (tg rfl hb) (tg rfl hb))) rfl fun a w s=>sq s (poP (t rfl) rfl) rfl fun a w s=>nl ?_))
  refine cm s rfl hm (fun hb hm=>?_) (fun hb hm=>?_)
  ·refine se (rg (sq s (saq cq) rfl fun a w s=>sq s (sa ci) rfl fun a w s=>nl ?_))
   obtain rfl:=si hm
   refine wpIn_ret ?_
   exact rn hD s rfl (rv2 (ro (qns (α:=Int) (t rfl))) (rt rfl))
  ·refine wpIn_skip ?_
   obtain ⟨x2,hx2,hm⟩:=bs hm
   obtain ⟨x3,hx3,hm⟩:=bs hm
   refine se (rg (sq s (fa (f:=Space.Moves) (t rfl)) rfl fun a w s=>sq s (ld (t rfl)) rfl fun a w s=>sq s (cc rfl (oc (t rfl) on) (s116 f _ _ hx2)) rfl fun a w s=>sq s (mv (t rfl)) rfl fun a w s=>sqz [1000] hM s (cc rfl (oc (t rfl) (oc (t rfl) on)) (s115 f _ _ _ hx3)) (fun _=>rfl) rfl rfl fun y4 a w s=>sqr 1001 s (alr (cs:=[(.slice none 0 0)]) (z:=(.slice none 0 0)) (by kernel_rfl) rfl rfl) rfl rfl fun b5 a w s=>srq (K:=1001) (cs':=[y4]) s (t rfl) rfl (t rfl) (by kernel_rfl) (oco (k:=1000) rfl) rfl rfl fun w s=>nl ?_))
   refine se ?_
   obtain ⟨x6,hx6,hm⟩:=bs hm
   refine se (rg (sq s (lrc (K:=1001) (List Int) (t rfl) rfl rfl rfl rfl) rfl fun a w s=>sq s (ixq (α:=Int) (k:=1000) (t rfl) rfl ci hx6) rfl fun a w s=>sq s (lq (k:=1000) (t rfl) rfl (idxg hx6)) rfl fun a w s=>sq s (lt (t rfl) ci) rfl fun a w s=>nl ?_))
   refine cm s rfl hm (fun hb hm=>?_) (fun hb hm=>?_)
   ·refine se (rg (sq s (saq cq) rfl fun a w s=>sq s (sa ci) rfl fun a w s=>nl ?_))
    obtain rfl:=si hm
    refine wpIn_ret ?_
    exact rn hD s rfl (rv2 (ro (qns (α:=Int) (t rfl))) (rt rfl))
   ·refine wpIn_skip ?_
    refine se (rg (sq s (saq cq) rfl fun a w s=>nl ?_))
    refine se ?_
    refine se (rg (sqb 1002 s (al (z:=(0:Int))) rfl rfl fun b7 a w s=>sw (K:=1002) s (t rfl) rfl ci rfl fun w s=>nl ?_))
    refine nilt (α:=Int) (d:=8) 1003 3 s rfl rfl fun c10 s=>?_
    obtain ⟨o9,hoo9,hko9⟩:=bs hm
    refine lcI o9 (fun o9s a w=>∃ (o9sc0:Value) (o9sc1:Nat),St M w_0 60 [(0,Va (v0)),(1,Va (v1)),(2,Pt (v0)),(4,Qv (.slice none 0 0)),(5,Va ((0:Int))),(6,Va (x1)),(7,Qv (pb b5 0)),(8,Qv o9sc0),(9,Qv (pb o9sc1 0)),(1001,Mr b5 [y4]),(1000,Ow 3 y4 (x3)),(1003,Ow 3 o9sc0 (o9s.1)),(1002,Mg o9sc1 (o9s.2))] a w) ?_ fun o9s a w ho s=>?_
    ·refine wpIn_block ?_
     refine loI (fun n z8=>m57_l1 f v0 v1 x3 n z8) o9 (fun z8 a w=>∃ (z8c0:Value) (z8c1:Nat),St M w_0 60 [(0,Va (v0)),(1,Va (v1)),(2,Pt (v0)),(4,Qv (.slice none 0 0)),(5,Va ((0:Int))),(6,Va (x1)),(7,Qv (pb b5 0)),(8,Qv z8c0),(9,Qv (pb z8c1 0)),(1001,Mr b5 [y4]),(1000,Ow 3 y4 (x3)),(1003,Ow 3 z8c0 (z8.1)),(1002,Mg z8c1 (z8.2))] a w) f (([]:List Int),(0:Int)) ⟨c10,b7,s.pick [0,1,2,4,5,6,7,8,9,1001,1000,1003,1002]⟩ hoo9 (fun _=>rfl) fun n z8 a w hm s=>?_
     obtain ⟨z8c0,z8c1,s⟩:=s
     replace hm:m57_l1 f v0 v1 x3 (n + 1) z8=some o9:=hm
     unfold m57_l1 at hm
     refine se ?_
     refine se (rg (sq s (lm (K:=1002) (t rfl) rfl) rfl fun a w s=>sq s (mv (t rfl)) rfl fun a w s=>sq s (ne (t rfl) (t rfl)) rfl fun a w s=>nl ?_))
     refine cm s rfl hm (fun hb hm=>?_) (fun hb hm=>?_)
     ·refine wpIn_skip ?_
      refine se ?_
      refine wpIn_block ?_
      obtain ⟨x11,hx11,hm⟩:=bs hm
      obtain ⟨x12,hx12,hm⟩:=bs hm
      refine se (rg (sq s (fa (f:=Space.Moves) (t rfl)) rfl fun a w s=>sq s (ld (t rfl)) rfl fun a w s=>sq s (lm (K:=1002) (t rfl) rfl) rfl fun a w s=>sq s (ix (t rfl) (t rfl) hx11) rfl fun a w s=>sq s (ld (t rfl)) rfl fun a w s=>sq s (mkf rfl rfl qn (qc (t rfl) (qc (t rfl) qn))) rfl fun a w s=>cgv [1001,1000,1002] [1001,1000,1002] hM s qf rfl (oc (t rfl) (oc (t rfl) on)) vn vn (s122_3 f b5 z8c1 y4 _ _ _ _ hx12) (kc rfl (kc rfl (kc rfl kn))) rfl (fun _=>rfl) rfl rfl rfl fun y13 a w s=>sq s (sa (t rfl)) rfl fun a w s=>nl ?_))
      refine se ?_
      refine se (rg (sq s (mv (t rfl)) rfl fun a w s=>sq s (lt (t rfl) ci) rfl fun a w s=>nl ?_))
      refine cm s rfl hm (fun hb hm=>?_) (fun hb hm=>?_)
      ·refine se (rg (sq s (saq cq) rfl fun a w s=>sq s (sa ci) rfl fun a w s=>nl ?_))
       obtain rfl:=si hm
       replace hm:=hko9
       dsimp only at hm
       obtain rfl:=si hm
       refine wpIn_ret ?_
       exact rn hD s rfl (rv2 (ro (qns (α:=Int) (t rfl))) (rt rfl))
      ·refine wpIn_skip ?_
       obtain ⟨x14,hx14,hm⟩:=bs hm
       refine se (rg (sq s (mvq (t rfl)) rfl fun a w s=>sq s (mv (t rfl)) rfl fun a w s=>sq s (bsv (o1 (t rfl) o0) rfl rfl (by kernel_rfl)) rfl fun a w s=>apd (α:=Int) (k:=1003) s (t rfl) rfl (t rfl) hx14 rfl rfl fun c15 a w s=>sq s (saq (t rfl)) rfl fun a w s=>nl ?_))
       obtain ⟨x16,hx16,hm⟩:=bs hm
       obtain ⟨x17,hx17,hm⟩:=bs hm
       refine rg (sq s (fa (f:=Space.Moves) (t rfl)) rfl fun a w s=>sq s (ld (t rfl)) rfl fun a w s=>sq s (lm (K:=1002) (t rfl) rfl) rfl fun a w s=>sq s (ix (t rfl) (t rfl) hx16) rfl fun a w s=>sq s (ld (t rfl)) rfl fun a w s=>sq s (mv (t rfl)) rfl fun a w s=>sq s (ix (t rfl) (t rfl) hx17) rfl fun a w s=>sq s (ld (t rfl)) rfl fun a w s=>sw (K:=1002) s (t rfl) rfl (t rfl) rfl fun w s=>nl ?_)
       refine se (rg (sq s (lm (K:=1002) (t rfl) rfl) rfl fun a w s=>nl ?_))
       refine rg (sqb 1004 s (al (z:=(0:Int))) rfl rfl fun b18 a w s=>sw (K:=1004) s (t rfl) rfl (t rfl) rfl fun w s=>nl ?_)
       exact ⟨_,hm,⟨c15,b18,s.rekey (l:=[(0,0),(1,1),(2,2),(4,4),(5,5),(6,6),(7,7),(8,8),(9,9),(1001,1001),(1000,1000),(1003,1003),(1004,1002)]) (.same rfl (.same rfl (.same rfl (.same rfl (.same rfl (.same rfl (.same rfl (.same rfl (.same rfl (.same rfl (.same rfl (.same rfl (.key (t:=1004) (u:=1002) rfl .nil))))))))))))) rfl rfl⟩⟩
     ·refine wpIn_exit ?_
      exact ⟨_,(si hm).symm,⟨z8c0,z8c1,s.pick [0,1,2,4,5,6,7,8,9,1001,1000,1003,1002]⟩⟩
    ·obtain ⟨o9sc0,o9sc1,s⟩:=s
     subst ho
     replace hm:=hko9
     dsimp only at hm
     refine se (rg (sq s (mvq (t rfl)) rfl fun a w s=>sq s (saq (t rfl)) rfl fun a w s=>sq s (sa ci) rfl fun a w s=>nl ?_))
     obtain rfl:=si hm
     refine fzk (α:=Int) (k:=1003) hM s rfl fun s=>?_
     refine wpIn_ret ?_
     exact rn hD s rfl (rv2 (ro (ta (k:=1003) (t rfl) rfl)) (rt rfl))
def m20 (f:Nat) :Option (Bool):=(m79 f).bind fun x1=>(m25 f x1 ([true]:List Bool)).bind fun x2=>(m79 f).bind fun x4=>(m25 f x4 ([false]:List Bool)).bind fun x5=>(bif (((((wr (x2.2 + x5.2)) != (0:Int)) || ((((x2.1).States).length:Int) != (2:Int))) || ((((x5.1).States).length:Int) != (1:Int))) || ((((x2.1).Moves).length:Int) != (2:Int))) then some true else (idx ((x2.1).Moves) (0:Int)).bind fun x7=>(m53 f x7 ([(1:Int)]:List Int)).bind fun x8=>some (!x8)).bind fun r9=>(bif r9 then some true else (idx ((x2.1).Moves) (1:Int)).bind fun x10=>(m53 f x10 ([(0:Int)]:List Int)).bind fun x11=>some (!x11)).bind fun r12=>(bif r12 then some false else (m80 f (⟨#[65,43,32,66,43,59,32,65,45,32,66,45]⟩:ByteArray)).bind fun x13=>(m81 f x13.1).bind fun x15=>(m25 f x15 ([true]:List Bool)).bind fun x16=>(m51 f x16.1).bind fun x18=>(m49 f x5.1).bind fun x19=>(m57 f x16.1 (3:Int)).bind fun x20=>(bif ((((wr ((wr ((wr (x16.2 + x18.2)) + x19.2)) + x20.2)) == (0:Int)) && ((((x16.1).States).length:Int) == (6:Int))) && ((x18.1.length:Int) == (6:Int))) then (m53 f x19.1 ([(0:Int)]:List Int)).bind fun x21=>some x21 else some false).bind fun r22=>(bif r22 then (m53 f x20.1 ([(0:Int),(0:Int)]:List Int)).bind fun x23=>some x23 else some false).bind fun r24=>some r24)
set_option maxRecDepth 100000 in
set_option maxHeartbeats 2000000 in
theorem s20 (f:Nat) (r:Bool) (hm:m20 f =some r):Sp Tryz.prog 20 [] (Va (r)):=by
 unfold m20 at hm
 refine ens Tryz.func20 (by kernel_rfl) rfl Tryz.ntmps20 rfl rfl fun M w_0 a hM hD s=>?_
 refine se (rg (sq s (sa cb) rfl fun a w s=>nl ?_))
 obtain ⟨x1,hx1,hm⟩:=bs hm
 obtain ⟨x2,hx2,hm⟩:=bs hm
 refine se (rg (sq s (cc rfl on (s79 f _ hx1)) rfl fun a w s=>sq s (bsv (o1 cb o0) rfl rfl (by kernel_rfl)) rfl fun a w s=>sq s (cc rfl (oc (t rfl) (oc (t rfl) on)) (s25 f _ _ _ hx2)) rfl fun a w s=>sq s (mve (t rfl)) rfl fun a w s=>sq s (Pn.x20 (t rfl)) rfl fun a w s=>sq s (Pn.x21 (t rfl)) rfl fun a w s=>sqr 1000 s (alr (cs:=[(.slice none 0 0),(.slice none 0 0)]) (z:=.agg #[(.slice none 0 0),(.slice none 0 0)]) (by kernel_rfl) rfl rfl) rfl rfl fun b3 a w s=>swd (K:=1000) s (t rfl) rfl (t rfl) rfl fun w s=>sq s (sa (t rfl)) rfl fun a w s=>nl ?_))
 obtain ⟨x4,hx4,hm⟩:=bs hm
 obtain ⟨x5,hx5,hm⟩:=bs hm
 refine se (rg (sq s (cc rfl on (s79 f _ hx4)) rfl fun a w s=>sq s (bsv (o1 cb o0) rfl rfl (by kernel_rfl)) rfl fun a w s=>sq s (cc rfl (oc (t rfl) (oc (t rfl) on)) (s25 f _ _ _ hx5)) rfl fun a w s=>sq s (mve (t rfl)) rfl fun a w s=>sq s (Pn.x20 (t rfl)) rfl fun a w s=>sq s (Pn.x21 (t rfl)) rfl fun a w s=>sqr 1001 s (alr (cs:=[(.slice none 0 0),(.slice none 0 0)]) (z:=.agg #[(.slice none 0 0),(.slice none 0 0)]) (by kernel_rfl) rfl rfl) rfl rfl fun b6 a w s=>swd (K:=1001) s (t rfl) rfl (t rfl) rfl fun w s=>sq s (sa (t rfl)) rfl fun a w s=>nl ?_))
 refine se ?_
 obtain ⟨r9,hr9,hm⟩:=bs hm
 have gr9:=gF hr9
 have er9:=gT hr9
 obtain ⟨x7,hx7,gr9⟩:=gx gr9
 obtain ⟨x8,hx8,gr9⟩:=gx gr9
 obtain ⟨r12,hr12,hm⟩:=bs hm
 have gr12:=gF hr12
 have er12:=gT hr12
 obtain ⟨x10,hx10,gr12⟩:=gx gr12
 obtain ⟨x11,hx11,gr12⟩:=gx gr12
 refine se (rg (sq s (mv (t rfl)) rfl fun a w s=>sq s (mv (t rfl)) rfl fun a w s=>sq s (ad (t rfl) (t rfl)) rfl fun a w s=>sq s (ne (t rfl) ci) rfl fun a w s=>sq s (mv (t rfl)) rfl fun a w s=>sg s rfl rfl (fun hb=>(fm_ (off:=0) (m:=0) (q:=0) (t rfl) (by kernel_rfl) rfl)) rfl fun a w s=>sg s rfl rfl (fun hb=>(lf (K:=1000) (f:=Space.States) (tg rfl hb) rfl)) rfl fun a w s=>sg s rfl rfl (fun hb=>(ln (tg rfl hb))) rfl fun a w s=>sg s rfl rfl (fun hb=>(ne (tg rfl hb) ci)) rfl fun a w s=>sq s (poP (t rfl) rfl) rfl fun a w s=>sq s (mv (t rfl)) rfl fun a w s=>sg s rfl rfl (fun hb=>(fm_ (off:=0) (m:=0) (q:=0) (t rfl) (by kernel_rfl) rfl)) rfl fun a w s=>sg s rfl rfl (fun hb=>(lf (K:=1001) (f:=Space.States) (tg rfl hb) rfl)) rfl fun a w s=>sg s rfl rfl (fun hb=>(ln (tg rfl hb))) rfl fun a w s=>sg s rfl rfl (fun hb=>(ne (tg rfl hb) ci)) rfl fun a w s=>sq s (poP (t rfl) rfl) rfl fun a w s=>sq s (mv (t rfl)) rfl fun a w s=>sg s rfl rfl (fun hb=>(fm_ (off:=1) (m:=0) (q:=1) (t rfl) (by kernel_rfl) rfl)) rfl fun a w s=>sg s rfl rfl (fun hb=>(lf (K:=1000) (f:=Space.Moves) (tg rfl hb) rfl)) rfl fun a w s=>sg s rfl rfl (fun hb=>(ln (tg rfl hb))) rfl fun a w s=>sg s rfl rfl (fun hb=>(ne (tg rfl hb) ci)) rfl fun a w s=>sq s (poP (t rfl) rfl) rfl fun a w s=>sq s (mv (t rfl)) rfl fun a w s=>sg s rfl rfl (fun hb=>(fm_ (off:=1) (m:=0) (q:=1) (t rfl) (by kernel_rfl) rfl)) rfl fun a w s=>sg s rfl rfl (fun hb=>(lf (K:=1000) (f:=Space.Moves) (tg rfl hb) rfl)) rfl fun a w s=>sg s rfl rfl (fun hb=>(ix (tg rfl hb) ci (hx7 hb))) rfl fun a w s=>sg s rfl rfl (fun hb=>(ld (tg rfl hb))) rfl fun a w s=>sg s rfl rfl (fun hb=>(bsv (o1 ci o0) rfl rfl (by kernel_rfl))) rfl fun a w s=>sg s rfl rfl (fun hb=>(cc rfl (oc (tg rfl hb) (oc (tg rfl hb) on)) (s53 f _ _ _ (hx8 hb)))) rfl fun a w s=>sg s rfl rfl (fun hb=>(nt (tg rfl hb))) rfl fun a w s=>sq s (po (t rfl) rfl (fun h=>si (gr9 h)) (fun h=>(si (er9 h)).symm)) rfl fun a w s=>sq s (mv (t rfl)) rfl fun a w s=>sg s rfl rfl (fun hb=>(fm_ (off:=1) (m:=0) (q:=1) (t rfl) (by kernel_rfl) rfl)) rfl fun a w s=>sg s rfl rfl (fun hb=>(lf (K:=1000) (f:=Space.Moves) (tg rfl hb) rfl)) rfl fun a w s=>sg s rfl rfl (fun hb=>(ix (tg rfl hb) ci (hx10 hb))) rfl fun a w s=>sg s rfl rfl (fun hb=>(ld (tg rfl hb))) rfl fun a w s=>sg s rfl rfl (fun hb=>(bsv (o1 ci o0) rfl rfl (by kernel_rfl))) rfl fun a w s=>sg s rfl rfl (fun hb=>(cc rfl (oc (tg rfl hb) (oc (tg rfl hb) on)) (s53 f _ _ _ (hx11 hb)))) rfl fun a w s=>sg s rfl rfl (fun hb=>(nt (tg rfl hb))) rfl fun a w s=>sq s (po (t rfl) rfl (fun h=>si (gr12 h)) (fun h=>(si (er12 h)).symm)) rfl fun a w s=>nl ?_))
 refine cm s rfl hm (fun hb hm=>?_) (fun hb hm=>?_)
 ·refine se (rg (sq s (sa cb) rfl fun a w s=>nl ?_))
  obtain rfl:=si hm
  refine wpIn_ret ?_
  exact rn hD s rfl (rv1 (rt rfl))
 ·refine wpIn_skip ?_
  obtain ⟨x13,hx13,hm⟩:=bs hm
  refine se (rg (sq s (cc rfl (oc cs on) (s80 f _ _ hx13)) rfl fun a w s=>sq s (mve (t rfl)) rfl fun a w s=>sq s (Pn.x30 (t rfl)) rfl fun a w s=>sq s (Pn.x31 (t rfl)) rfl fun a w s=>sq s (Pn.x32 (t rfl)) rfl fun a w s=>sqr 1002 s (alr (cs:=[(.int .i64 (0:Int)),(.slice none 0 0)]) (z:=.agg #[(.int .i64 (0:Int)),(.slice none 0 0)]) (by kernel_rfl) rfl rfl) rfl rfl fun b14 a w s=>swd (K:=1002) s (t rfl) rfl (t rfl) rfl fun w s=>sq s (sa (t rfl)) rfl fun a w s=>sq s (sa (t rfl)) rfl fun a w s=>nl ?_))
  obtain ⟨x15,hx15,hm⟩:=bs hm
  obtain ⟨x16,hx16,hm⟩:=bs hm
  refine se (rg (sq s (lm (K:=1002) (t rfl) rfl) rfl fun a w s=>sq s (cc rfl (oc (t rfl) on) (s81 f _ _ hx15)) rfl fun a w s=>sq s (bsv (o1 cb o0) rfl rfl (by kernel_rfl)) rfl fun a w s=>sq s (cc rfl (oc (t rfl) (oc (t rfl) on)) (s25 f _ _ _ hx16)) rfl fun a w s=>sq s (mve (t rfl)) rfl fun a w s=>sq s (Pn.x20 (t rfl)) rfl fun a w s=>sq s (Pn.x21 (t rfl)) rfl fun a w s=>sqr 1003 s (alr (cs:=[(.slice none 0 0),(.slice none 0 0)]) (z:=.agg #[(.slice none 0 0),(.slice none 0 0)]) (by kernel_rfl) rfl rfl) rfl rfl fun b17 a w s=>swd (K:=1003) s (t rfl) rfl (t rfl) rfl fun w s=>sq s (sa (t rfl)) rfl fun a w s=>nl ?_))
  obtain ⟨x18,hx18,hm⟩:=bs hm
  refine se (rg (sq s (lm (K:=1003) (t rfl) rfl) rfl fun a w s=>sq s (cc rfl (oc (t rfl) on) (s51 f _ _ hx18)) rfl fun a w s=>sq s (mve (t rfl)) rfl fun a w s=>sq s (Pn.x20 (t rfl)) rfl fun a w s=>sq s (Pn.x21 (t rfl)) rfl fun a w s=>sq s (sa (t rfl)) rfl fun a w s=>sq s (sa (t rfl)) rfl fun a w s=>nl ?_))
  obtain ⟨x19,hx19,hm⟩:=bs hm
  refine se (rg (sq s (lm (K:=1001) (t rfl) rfl) rfl fun a w s=>sq s (cc rfl (oc (t rfl) on) (s49 f _ _ hx19)) rfl fun a w s=>sq s (mve (t rfl)) rfl fun a w s=>sq s (Pn.x20 (t rfl)) rfl fun a w s=>sq s (Pn.x21 (t rfl)) rfl fun a w s=>sq s (sa (t rfl)) rfl fun a w s=>sq s (sa (t rfl)) rfl fun a w s=>nl ?_))
  obtain ⟨x20,hx20,hm⟩:=bs hm
  refine se (rg (sq s (lm (K:=1003) (t rfl) rfl) rfl fun a w s=>sq s (cc rfl (oc (t rfl) (oc ci on)) (s57 f _ _ _ hx20)) rfl fun a w s=>sq s (mve (t rfl)) rfl fun a w s=>sq s (Pn.x20 (t rfl)) rfl fun a w s=>sq s (Pn.x21 (t rfl)) rfl fun a w s=>sq s (sa (t rfl)) rfl fun a w s=>sq s (sa (t rfl)) rfl fun a w s=>nl ?_))
  obtain ⟨r22,hr22,hm⟩:=bs hm
  have gr22:=gT hr22
  have er22:=gF hr22
  obtain ⟨x21,hx21,gr22⟩:=gx gr22
  obtain ⟨r24,hr24,hm⟩:=bs hm
  have gr24:=gT hr24
  have er24:=gF hr24
  obtain ⟨x23,hx23,gr24⟩:=gx gr24
  refine se (rg (sq s (mv (t rfl)) rfl fun a w s=>sq s (mv (t rfl)) rfl fun a w s=>sq s (ad (t rfl) (t rfl)) rfl fun a w s=>sq s (mv (t rfl)) rfl fun a w s=>sq s (ad (t rfl) (t rfl)) rfl fun a w s=>sq s (mv (t rfl)) rfl fun a w s=>sq s (ad (t rfl) (t rfl)) rfl fun a w s=>sq s (eq (t rfl) ci) rfl fun a w s=>sq s (mv (t rfl)) rfl fun a w s=>sg s rfl rfl (fun hb=>(fm_ (off:=0) (m:=0) (q:=0) (t rfl) (by kernel_rfl) rfl)) rfl fun a w s=>sg s rfl rfl (fun hb=>(lf (K:=1003) (f:=Space.States) (tg rfl hb) rfl)) rfl fun a w s=>sg s rfl rfl (fun hb=>(ln (tg rfl hb))) rfl fun a w s=>sg s rfl rfl (fun hb=>(eq (tg rfl hb) ci)) rfl fun a w s=>sq s (paP (t rfl) rfl) rfl fun a w s=>sq s (mv (t rfl)) rfl fun a w s=>sg s rfl rfl (fun hb=>(mv (t rfl))) rfl fun a w s=>sg s rfl rfl (fun hb=>(ln (tg rfl hb))) rfl fun a w s=>sg s rfl rfl (fun hb=>(eq (tg rfl hb) ci)) rfl fun a w s=>sq s (paP (t rfl) rfl) rfl fun a w s=>sq s (mv (t rfl)) rfl fun a w s=>sg s rfl rfl (fun hb=>(mv (t rfl))) rfl fun a w s=>sg s rfl rfl (fun hb=>(bsv (o1 ci o0) rfl rfl (by kernel_rfl))) rfl fun a w s=>sg s rfl rfl (fun hb=>(cc rfl (oc (tg rfl hb) (oc (tg rfl hb) on)) (s53 f _ _ _ (hx21 hb)))) rfl fun a w s=>sq s (pa (t rfl) rfl (fun h=>si (gr22 h)) (fun h=>(si (er22 h)).symm)) rfl fun a w s=>sq s (mv (t rfl)) rfl fun a w s=>sg s rfl rfl (fun hb=>(mv (t rfl))) rfl fun a w s=>sg s rfl rfl (fun hb=>(bsv (o1 ci (o1 ci o0)) rfl rfl (by kernel_rfl))) rfl fun a w s=>sg s rfl rfl (fun hb=>(cc rfl (oc (tg rfl hb) (oc (tg rfl hb) on)) (s53 f _ _ _ (hx23 hb)))) rfl fun a w s=>sq s (pa (t rfl) rfl (fun h=>si (gr24 h)) (fun h=>(si (er24 h)).symm)) rfl fun a w s=>sq s (sa (t rfl)) rfl fun a w s=>nl ?_))
  obtain rfl:=si hm
  refine wpIn_ret ?_
  exact rn hD s rfl (rv1 (rt rfl))
def m85_l1 (v0:List Int) (v1:List Int):Nat→Int→Option (Lo (Int) (Bool))
 | 0,_=>none
 | n+1,z1=>(bif (decide (z1 < (v0.length:Int))) then (idx v0 z1).bind fun x3=>(idx v1 z1).bind fun x4=>(bif (x3 != x4) then some (.ret false) else m85_l1 v0 v1 n (wr (z1 + (1:Int)))) else some (.brk z1))
def m85 (f:Nat) (v0:List Int) (v1:List Int):Option (Bool):=(bif ((v0.length:Int) != (v1.length:Int)) then some false else ((m85_l1 v0 v1 f (0:Int)).bind fun o2=>match o2 with | .brk o2s=>some true | .ret r=>some r))
set_option maxRecDepth 100000 in
theorem s85 (f:Nat) (v0:List Int) (v1:List Int) (r:Bool) (hm:m85 f v0 v1=some r):Sp Tryz.prog 85 [Va (v0),Va (v1)] (Va (r)):=by
 unfold m85 at hm
 refine ens Tryz.func85 (by kernel_rfl) rfl Tryz.ntmps85 rfl rfl fun M w_0 a hM hD s=>?_
 refine se (rg (sq s (sa cb) rfl fun a w s=>nl ?_))
 refine se ?_
 refine se (rg (sq s (mv (t rfl)) rfl fun a w s=>sq s (ln (t rfl)) rfl fun a w s=>sq s (mv (t rfl)) rfl fun a w s=>sq s (ln (t rfl)) rfl fun a w s=>sq s (ne (t rfl) (t rfl)) rfl fun a w s=>nl ?_))
 refine cm s rfl hm (fun hb hm=>?_) (fun hb hm=>?_)
 ·refine se (rg (sq s (sa cb) rfl fun a w s=>nl ?_))
  obtain rfl:=si hm
  refine wpIn_ret ?_
  exact rn hD s rfl (rv1 (rt rfl))
 ·refine wpIn_skip ?_
  refine se ?_
  refine se (rg (sq s (sa ci) rfl fun a w s=>nl ?_))
  obtain ⟨o2,hoo2,hko2⟩:=bs hm
  refine lcI o2 (fun o2s a w=>St M w_0 26 [(0,Va (v0)),(1,Va (v1)),(4,Va (false)),(5,Va (o2s))] a w) ?_ fun o2s a w ho s=>?_
  ·refine wpIn_block ?_
   refine loI (fun n z1=>m85_l1 v0 v1 n z1) o2 (fun z1 a w=>St M w_0 26 [(0,Va (v0)),(1,Va (v1)),(4,Va (false)),(5,Va (z1))] a w) f (0:Int) (s.pick [0,1,4,5]) hoo2 (fun _=>rfl) fun n z1 a w hm s=>?_
   replace hm:m85_l1 v0 v1 (n + 1) z1=some o2:=hm
   unfold m85_l1 at hm
   refine se ?_
   refine se (rg (sq s (mv (t rfl)) rfl fun a w s=>sq s (mv (t rfl)) rfl fun a w s=>sq s (ln (t rfl)) rfl fun a w s=>sq s (lt (t rfl) (t rfl)) rfl fun a w s=>nl ?_))
   refine cm s rfl hm (fun hb hm=>?_) (fun hb hm=>?_)
   ·refine wpIn_skip ?_
    refine se ?_
    refine wpIn_block ?_
    obtain ⟨x3,hx3,hm⟩:=bs hm
    obtain ⟨x4,hx4,hm⟩:=bs hm
    refine se (flow s (m:=9) (.cons (.cons (.cons (.cons (.cons (.cons (.cons (.cons (.cons .nil rfl (mv (t rfl))) rfl (mv (t rfl))) rfl (ix (t rfl) (t rfl) hx3)) rfl (ld (t rfl))) rfl (mv (t rfl))) rfl (mv (t rfl))) rfl (ix (t rfl) (t rfl) hx4)) rfl (ld (t rfl))) rfl (ne (t rfl) (t rfl))) (by kernel_rfl) rfl rfl fun a w s=>nl ?_)
    refine cm s rfl hm (fun hb hm=>?_) (fun hb hm=>?_)
    ·refine se (rg (sq s (sa cb) rfl fun a w s=>nl ?_))
     obtain rfl:=si hm
     replace hm:=hko2
     dsimp only at hm
     obtain rfl:=si hm
     refine wpIn_ret ?_
     exact rn hD s rfl (rv1 (rt rfl))
    ·refine wpIn_skip ?_
     refine rg (sq s (mv (t rfl)) rfl fun a w s=>sq s (ad (t rfl) ci) rfl fun a w s=>sq s (sa (t rfl)) rfl fun a w s=>nl ?_)
     exact ⟨_,hm,s.pick [0,1,4,5]⟩
   ·refine wpIn_exit ?_
    exact ⟨_,(si hm).symm,s.pick [0,1,4,5]⟩
  ·subst ho
   replace hm:=hko2
   dsimp only at hm
   refine se (rg (sq s (sa cb) rfl fun a w s=>nl ?_))
   obtain rfl:=si hm
   refine wpIn_ret ?_
   exact rn hD s rfl (rv1 (rt rfl))
def m86_l1 (v0:List Bool) (v1:List Bool):Nat→Int→Option (Lo (Int) (Bool))
 | 0,_=>none
 | n+1,z1=>(bif (decide (z1 < (v0.length:Int))) then (idx v0 z1).bind fun x3=>(idx v1 z1).bind fun x4=>(bif (x3 != x4) then some (.ret false) else m86_l1 v0 v1 n (wr (z1 + (1:Int)))) else some (.brk z1))
def m86 (f:Nat) (v0:List Bool) (v1:List Bool):Option (Bool):=(bif ((v0.length:Int) != (v1.length:Int)) then some false else ((m86_l1 v0 v1 f (0:Int)).bind fun o2=>match o2 with | .brk o2s=>some true | .ret r=>some r))
set_option maxRecDepth 100000 in
theorem s86 (f:Nat) (v0:List Bool) (v1:List Bool) (r:Bool) (hm:m86 f v0 v1=some r):Sp Tryz.prog 86 [Va (v0),Va (v1)] (Va (r)):=by
 unfold m86 at hm
 refine ens Tryz.func86 (by kernel_rfl) rfl Tryz.ntmps86 rfl rfl fun M w_0 a hM hD s=>?_
 refine se (rg (sq s (sa cb) rfl fun a w s=>nl ?_))
 refine se ?_
 refine se (rg (sq s (mv (t rfl)) rfl fun a w s=>sq s (ln (t rfl)) rfl fun a w s=>sq s (mv (t rfl)) rfl fun a w s=>sq s (ln (t rfl)) rfl fun a w s=>sq s (ne (t rfl) (t rfl)) rfl fun a w s=>nl ?_))
 refine cm s rfl hm (fun hb hm=>?_) (fun hb hm=>?_)
 ·refine se (rg (sq s (sa cb) rfl fun a w s=>nl ?_))
  obtain rfl:=si hm
  refine wpIn_ret ?_
  exact rn hD s rfl (rv1 (rt rfl))
 ·refine wpIn_skip ?_
  refine se ?_
  refine se (rg (sq s (sa ci) rfl fun a w s=>nl ?_))
  obtain ⟨o2,hoo2,hko2⟩:=bs hm
  refine lcI o2 (fun o2s a w=>St M w_0 26 [(0,Va (v0)),(1,Va (v1)),(4,Va (false)),(5,Va (o2s))] a w) ?_ fun o2s a w ho s=>?_
  ·refine wpIn_block ?_
   refine loI (fun n z1=>m86_l1 v0 v1 n z1) o2 (fun z1 a w=>St M w_0 26 [(0,Va (v0)),(1,Va (v1)),(4,Va (false)),(5,Va (z1))] a w) f (0:Int) (s.pick [0,1,4,5]) hoo2 (fun _=>rfl) fun n z1 a w hm s=>?_
   replace hm:m86_l1 v0 v1 (n + 1) z1=some o2:=hm
   unfold m86_l1 at hm
   refine se ?_
   refine se (rg (sq s (mv (t rfl)) rfl fun a w s=>sq s (mv (t rfl)) rfl fun a w s=>sq s (ln (t rfl)) rfl fun a w s=>sq s (lt (t rfl) (t rfl)) rfl fun a w s=>nl ?_))
   refine cm s rfl hm (fun hb hm=>?_) (fun hb hm=>?_)
   ·refine wpIn_skip ?_
    refine se ?_
    refine wpIn_block ?_
    obtain ⟨x3,hx3,hm⟩:=bs hm
    obtain ⟨x4,hx4,hm⟩:=bs hm
    refine se (flow s (m:=9) (.cons (.cons (.cons (.cons (.cons (.cons (.cons (.cons (.cons .nil rfl (mv (t rfl))) rfl (mv (t rfl))) rfl (ix (t rfl) (t rfl) hx3)) rfl (ld (t rfl))) rfl (mv (t rfl))) rfl (mv (t rfl))) rfl (ix (t rfl) (t rfl) hx4)) rfl (ld (t rfl))) rfl (bne (t rfl) (t rfl) Tryz.underlying4)) (by kernel_rfl) rfl rfl fun a w s=>nl ?_)
    refine cm s rfl hm (fun hb hm=>?_) (fun hb hm=>?_)
    ·refine se (rg (sq s (sa cb) rfl fun a w s=>nl ?_))
     obtain rfl:=si hm
     replace hm:=hko2
     dsimp only at hm
     obtain rfl:=si hm
     refine wpIn_ret ?_
     exact rn hD s rfl (rv1 (rt rfl))
    ·refine wpIn_skip ?_
     refine rg (sq s (mv (t rfl)) rfl fun a w s=>sq s (ad (t rfl) ci) rfl fun a w s=>sq s (sa (t rfl)) rfl fun a w s=>nl ?_)
     exact ⟨_,hm,s.pick [0,1,4,5]⟩
   ·refine wpIn_exit ?_
    exact ⟨_,(si hm).symm,s.pick [0,1,4,5]⟩
  ·subst ho
   replace hm:=hko2
   dsimp only at hm
   refine se (rg (sq s (sa cb) rfl fun a w s=>nl ?_))
   obtain rfl:=si hm
   refine wpIn_ret ?_
   exact rn hD s rfl (rv1 (rt rfl))
def m23 (f:Nat) (v0:State) (v1:State):Option (Bool):=(m85 f ((v0).Ends) ((v1).Ends)).bind fun x1=>(bif x1 then (m86 f ((v0).Valves) ((v1).Valves)).bind fun x2=>some x2 else some false).bind fun r3=>(bif r3 then (m86 f ((v0).Inputs) ((v1).Inputs)).bind fun x4=>some x4 else some false).bind fun r5=>(bif r5 then (m86 f ((v0).Values) ((v1).Values)).bind fun x6=>some x6 else some false).bind fun r7=>(bif r7 then (m85 f ((v0).Timers) ((v1).Timers)).bind fun x8=>some x8 else some false).bind fun r9=>some r9
set_option maxRecDepth 100000 in
theorem s23 (f:Nat) (v0:State) (v1:State) (r:Bool) (hm:m23 f v0 v1=some r):Sp Tryz.prog 23 [Va (v0),Va (v1)] (Va (r)):=by
 unfold m23 at hm
 refine ens Tryz.func23 (by kernel_rfl) rfl Tryz.ntmps23 rfl rfl fun M w_0 a hM hD s=>?_
 refine se (rg (sq s (bx (t rfl)) rfl fun a w s=>sq s (bx (t rfl)) rfl fun a w s=>sq s (sa cb) rfl fun a w s=>nl ?_))
 obtain ⟨x1,hx1,hm⟩:=bs hm
 obtain ⟨r3,hr3,hm⟩:=bs hm
 have gr3:=gT hr3
 have er3:=gF hr3
 obtain ⟨x2,hx2,gr3⟩:=gx gr3
 obtain ⟨r5,hr5,hm⟩:=bs hm
 have gr5:=gT hr5
 have er5:=gF hr5
 obtain ⟨x4,hx4,gr5⟩:=gx gr5
 obtain ⟨r7,hr7,hm⟩:=bs hm
 have gr7:=gT hr7
 have er7:=gF hr7
 obtain ⟨x6,hx6,gr7⟩:=gx gr7
 obtain ⟨r9,hr9,hm⟩:=bs hm
 have gr9:=gT hr9
 have er9:=gF hr9
 obtain ⟨x8,hx8,gr9⟩:=gx gr9
 refine se (rg (sq s (fa (f:=State.Ends) (t rfl)) rfl fun a w s=>sq s (ld (t rfl)) rfl fun a w s=>sq s (fa (f:=State.Ends) (t rfl)) rfl fun a w s=>sq s (ld (t rfl)) rfl fun a w s=>sq s (cc rfl (oc (t rfl) (oc (t rfl) on)) (s85 f _ _ _ hx1)) rfl fun a w s=>sq s (mv (t rfl)) rfl fun a w s=>sg s rfl rfl (fun hb=>(fa (f:=State.Valves) (t rfl))) rfl fun a w s=>sg s rfl rfl (fun hb=>(ld (tg rfl hb))) rfl fun a w s=>sg s rfl rfl (fun hb=>(fa (f:=State.Valves) (t rfl))) rfl fun a w s=>sg s rfl rfl (fun hb=>(ld (tg rfl hb))) rfl fun a w s=>sg s rfl rfl (fun hb=>(cc rfl (oc (tg rfl hb) (oc (tg rfl hb) on)) (s86 f _ _ _ (hx2 hb)))) rfl fun a w s=>sq s (pa (t rfl) rfl (fun h=>si (gr3 h)) (fun h=>(si (er3 h)).symm)) rfl fun a w s=>sq s (mv (t rfl)) rfl fun a w s=>sg s rfl rfl (fun hb=>(fa (f:=State.Inputs) (t rfl))) rfl fun a w s=>sg s rfl rfl (fun hb=>(ld (tg rfl hb))) rfl fun a w s=>sg s rfl rfl (fun hb=>(fa (f:=State.Inputs) (t rfl))) rfl fun a w s=>sg s rfl rfl (fun hb=>(ld (tg rfl hb))) rfl fun a w s=>sg s rfl rfl (fun hb=>(cc rfl (oc (tg rfl hb) (oc (tg rfl hb) on)) (s86 f _ _ _ (hx4 hb)))) rfl fun a w s=>sq s (pa (t rfl) rfl (fun h=>si (gr5 h)) (fun h=>(si (er5 h)).symm)) rfl fun a w s=>sq s (mv (t rfl)) rfl fun a w s=>sg s rfl rfl (fun hb=>(fa (f:=State.Values) (t rfl))) rfl fun a w s=>sg s rfl rfl (fun hb=>(ld (tg rfl hb))) rfl fun a w s=>sg s rfl rfl (fun hb=>(fa (f:=State.Values) (t rfl))) rfl fun a w s=>sg s rfl rfl (fun hb=>(ld (tg rfl hb))) rfl fun a w s=>sg s rfl rfl (fun hb=>(cc rfl (oc (tg rfl hb) (oc (tg rfl hb) on)) (s86 f _ _ _ (hx6 hb)))) rfl fun a w s=>sq s (pa (t rfl) rfl (fun h=>si (gr7 h)) (fun h=>(si (er7 h)).symm)) rfl fun a w s=>sq s (mv (t rfl)) rfl fun a w s=>sg s rfl rfl (fun hb=>(fa (f:=State.Timers) (t rfl))) rfl fun a w s=>sg s rfl rfl (fun hb=>(ld (tg rfl hb))) rfl fun a w s=>sg s rfl rfl (fun hb=>(fa (f:=State.Timers) (t rfl))) rfl fun a w s=>sg s rfl rfl (fun hb=>(ld (tg rfl hb))) rfl fun a w s=>sg s rfl rfl (fun hb=>(cc rfl (oc (tg rfl hb) (oc (tg rfl hb) on)) (s85 f _ _ _ (hx8 hb)))) rfl fun a w s=>sq s (pa (t rfl) rfl (fun h=>si (gr9 h)) (fun h=>(si (er9 h)).symm)) rfl fun a w s=>sq s (sa (t rfl)) rfl fun a w s=>nl ?_))
 obtain rfl:=si hm
 refine wpIn_ret ?_
 exact rn hD s rfl (rv1 (rt rfl))
def m121_l1 (f:Nat) (v0:List State) (v1:State):Nat→Int→Option (Lo (Int) (Int))
 | 0,_=>none
 | n+1,z1=>(bif (decide (z1 < (v0.length:Int))) then (idx v0 z1).bind fun x3=>(m23 f x3 v1).bind fun x4=>(bif x4 then some (.ret z1) else m121_l1 f v0 v1 n (wr (z1 + (1:Int)))) else some (.brk z1))
def m121 (f:Nat) (v0:List State) (v1:State):Option (Int):=((m121_l1 f v0 v1 f (0:Int)).bind fun o2=>match o2 with | .brk o2s=>some (-1:Int) | .ret r=>some r)
set_option maxRecDepth 100000 in
theorem s121 (f:Nat) (v0:List State) (v1:State) (r:Int) (hm:m121 f v0 v1=some r):Sp Tryz.prog 121 [Va (v0),Va (v1)] (Va (r)):=by
 unfold m121 at hm
 refine ens Tryz.func121 (by kernel_rfl) rfl Tryz.ntmps121 rfl rfl fun M w_0 a hM hD s=>?_
 refine se (rg (sq s (bx (t rfl)) rfl fun a w s=>sq s (sa ci) rfl fun a w s=>nl ?_))
 refine se ?_
 refine se (rg (sq s (sa ci) rfl fun a w s=>nl ?_))
 obtain ⟨o2,hoo2,hko2⟩:=bs hm
 refine lcI o2 (fun o2s a w=>St M w_0 19 [(0,Va (v0)),(1,Va (v1)),(3,Pt (v1)),(4,Va ((0:Int))),(5,Va (o2s))] a w) ?_ fun o2s a w ho s=>?_
 ·refine wpIn_block ?_
  refine loI (fun n z1=>m121_l1 f v0 v1 n z1) o2 (fun z1 a w=>St M w_0 19 [(0,Va (v0)),(1,Va (v1)),(3,Pt (v1)),(4,Va ((0:Int))),(5,Va (z1))] a w) f (0:Int) (s.pick [0,1,3,4,5]) hoo2 (fun _=>rfl) fun n z1 a w hm s=>?_
  replace hm:m121_l1 f v0 v1 (n + 1) z1=some o2:=hm
  unfold m121_l1 at hm
  refine se ?_
  refine se (rg (sq s (mv (t rfl)) rfl fun a w s=>sq s (mv (t rfl)) rfl fun a w s=>sq s (ln (t rfl)) rfl fun a w s=>sq s (lt (t rfl) (t rfl)) rfl fun a w s=>nl ?_))
  refine cm s rfl hm (fun hb hm=>?_) (fun hb hm=>?_)
  ·refine wpIn_skip ?_
   refine se ?_
   refine wpIn_block ?_
   obtain ⟨x3,hx3,hm⟩:=bs hm
   obtain ⟨x4,hx4,hm⟩:=bs hm
   refine se (flow s (m:=6) (.cons (.cons (.cons (.cons (.cons (.cons .nil rfl (mv (t rfl))) rfl (mv (t rfl))) rfl (ix (t rfl) (t rfl) hx3)) rfl (ld (t rfl))) rfl (ld (t rfl))) rfl (cc rfl (oc (t rfl) (oc (t rfl) on)) (s23 f _ _ _ hx4))) (by kernel_rfl) rfl rfl fun a w s=>nl ?_)
   refine cm s rfl hm (fun hb hm=>?_) (fun hb hm=>?_)
   ·refine se (rg (sq s (mv (t rfl)) rfl fun a w s=>sq s (sa (t rfl)) rfl fun a w s=>nl ?_))
    obtain rfl:=si hm
    replace hm:=hko2
    dsimp only at hm
    obtain rfl:=si hm
    refine wpIn_ret ?_
    exact rn hD s rfl (rv1 (rt rfl))
   ·refine wpIn_skip ?_
    refine rg (sq s (mv (t rfl)) rfl fun a w s=>sq s (ad (t rfl) ci) rfl fun a w s=>sq s (sa (t rfl)) rfl fun a w s=>nl ?_)
    exact ⟨_,hm,s.pick [0,1,3,4,5]⟩
  ·refine wpIn_exit ?_
   exact ⟨_,(si hm).symm,s.pick [0,1,3,4,5]⟩
 ·subst ho
  replace hm:=hko2
  dsimp only at hm
  refine se (rg (sq s (sa ci) rfl fun a w s=>nl ?_))
  obtain rfl:=si hm
  refine wpIn_ret ?_
  exact rn hD s rfl (rv1 (rt rfl))
def m28 (f:Nat) (v0:Space):Option (Space):=some v0
set_option maxRecDepth 100000 in
theorem s28 (f:Nat) (v0:Space) (r:Space) (hm:m28 f v0=some r):Sp Tryz.prog 28 [Va (v0)] (Va (r)):=by
 unfold m28 at hm
 refine ens Tryz.func28 (by kernel_rfl) rfl Tryz.ntmps28 rfl rfl fun M w_0 a hM hD s=>?_
 refine se (rg (sq s (bx (t rfl)) rfl fun a w s=>sqr 1000 s (alr (cs:=[(.slice none 0 0),(.slice none 0 0)]) (z:=.agg #[(.slice none 0 0),(.slice none 0 0)]) (by kernel_rfl) rfl rfl) rfl rfl fun b1 a w s=>nl ?_))
 refine se (rg (sq s (ld (t rfl)) rfl fun a w s=>swd (K:=1000) s (t rfl) rfl (t rfl) rfl fun w s=>nl ?_))
 obtain rfl:=si hm
 refine wpIn_ret ?_
 exact rn hD s rfl (rv1 (rc (K:=1000) rfl rfl))
def m48 (f:Nat) (v0:State):Option (Bool):=some (((((decide ((((v0).Ends).length:Int)≤(40:Int))) && (decide ((((v0).Valves).length:Int)≤(40:Int)))) && (decide ((((v0).Inputs).length:Int)≤(200:Int)))) && (decide ((((v0).Values).length:Int)≤(200:Int)))) && (decide ((((v0).Timers).length:Int)≤(200:Int))))
set_option maxRecDepth 100000 in
theorem s48 (f:Nat) (v0:State) (r:Bool) (hm:m48 f v0=some r):Sp Tryz.prog 48 [Va (v0)] (Va (r)):=by
 unfold m48 at hm
 refine ens Tryz.func48 (by kernel_rfl) rfl Tryz.ntmps48 rfl rfl fun M w_0 a hM hD s=>?_
 refine se (rg (sq s (bx (t rfl)) rfl fun a w s=>sq s (sa cb) rfl fun a w s=>nl ?_))
 refine se (rg (sq s (fa (f:=State.Ends) (t rfl)) rfl fun a w s=>sq s (ld (t rfl)) rfl fun a w s=>sq s (ln (t rfl)) rfl fun a w s=>sq s (le (t rfl) ci) rfl fun a w s=>sq s (mv (t rfl)) rfl fun a w s=>sg s rfl rfl (fun hb=>(fa (f:=State.Valves) (t rfl))) rfl fun a w s=>sg s rfl rfl (fun hb=>(ld (tg rfl hb))) rfl fun a w s=>sg s rfl rfl (fun hb=>(ln (tg rfl hb))) rfl fun a w s=>sg s rfl rfl (fun hb=>(le (tg rfl hb) ci)) rfl fun a w s=>sq s (paP (t rfl) rfl) rfl fun a w s=>sq s (mv (t rfl)) rfl fun a w s=>sg s rfl rfl (fun hb=>(fa (f:=State.Inputs) (t rfl))) rfl fun a w s=>sg s rfl rfl (fun hb=>(ld (tg rfl hb))) rfl fun a w s=>sg s rfl rfl (fun hb=>(ln (tg rfl hb))) rfl fun a w s=>sg s rfl rfl (fun hb=>(le (tg rfl hb) ci)) rfl fun a w s=>sq s (paP (t rfl) rfl) rfl fun a w s=>sq s (mv (t rfl)) rfl fun a w s=>sg s rfl rfl (fun hb=>(fa (f:=State.Values) (t rfl))) rfl fun a w s=>sg s rfl rfl (fun hb=>(ld (tg rfl hb))) rfl fun a w s=>sg s rfl rfl (fun hb=>(ln (tg rfl hb))) rfl fun a w s=>sg s rfl rfl (fun hb=>(le (tg rfl hb) ci)) rfl fun a w s=>sq s (paP (t rfl) rfl) rfl fun a w s=>sq s (mv (t rfl)) rfl fun a w s=>sg s rfl rfl (fun hb=>(fa (f:=State.Timers) (t rfl))) rfl fun a w s=>sg s rfl rfl (fun hb=>(ld (tg rfl hb))) rfl fun a w s=>sg s rfl rfl (fun hb=>(ln (tg rfl hb))) rfl fun a w s=>sg s rfl rfl (fun hb=>(le (tg rfl hb) ci)) rfl fun a w s=>sq s (paP (t rfl) rfl) rfl fun a w s=>sq s (sa (t rfl)) rfl fun a w s=>nl ?_))
 obtain rfl:=si hm
 refine wpIn_ret ?_
 exact rn hD s rfl (rv1 (rt rfl))
def m47_l2 (v0:Space):Nat→Int→Option (Lo (Int) (Bool))
 | 0,_=>none
 | n+1,z5=>(bif (decide (z5 < (((v0).Moves).length:Int))) then (idx ((v0).Moves) z5).bind fun x7=>(bif (decide ((x7.length:Int) > (40:Int))) then some (.ret false) else m47_l2 v0 n (wr (z5 + (1:Int)))) else some (.brk z5))
def m47_l1 (f:Nat) (v0:Space):Nat→Int→Option (Lo (Int) (Bool))
 | 0,_=>none
 | n+1,z1=>(bif (decide (z1 < (((v0).States).length:Int))) then (idx ((v0).States) z1).bind fun x3=>(m48 f x3).bind fun x4=>(bif (!x4) then some (.ret false) else m47_l1 f v0 n (wr (z1 + (1:Int)))) else some (.brk z1))
def m47 (f:Nat) (v0:Space):Option (Bool):=(bif ((decide ((((v0).States).length:Int) > (40:Int))) || (decide ((((v0).Moves).length:Int) > (200:Int)))) then some false else ((m47_l1 f v0 f (0:Int)).bind fun o2=>match o2 with | .brk o2s=>((m47_l2 v0 f (0:Int)).bind fun o6=>match o6 with | .brk o6s=>some true | .ret r=>some r) | .ret r=>some r))
set_option maxRecDepth 100000 in
theorem s47 (f:Nat) (v0:Space) (r:Bool) (hm:m47 f v0=some r):Sp Tryz.prog 47 [Va (v0)] (Va (r)):=by
 unfold m47 at hm
 refine ens Tryz.func47 (by kernel_rfl) rfl Tryz.ntmps47 rfl rfl fun M w_0 a hM hD s=>?_
 refine se (rg (sq s (bx (t rfl)) rfl fun a w s=>sq s (sa cb) rfl fun a w s=>nl ?_))
 refine se ?_
 refine se (rg (sq s (fa (f:=Space.States) (t rfl)) rfl fun a w s=>sq s (ld (t rfl)) rfl fun a w s=>sq s (ln (t rfl)) rfl fun a w s=>sq s (gt (t rfl) ci) rfl fun a w s=>sq s (mv (t rfl)) rfl fun a w s=>sg s rfl rfl (fun hb=>(fa (f:=Space.Moves) (t rfl))) rfl fun a w s=>sg s rfl rfl (fun hb=>(ld (tg rfl hb))) rfl fun a w s=>sg s rfl rfl (fun hb=>(ln (tg rfl hb))) rfl fun a w s=>sg s rfl rfl (fun hb=>(gt (tg rfl hb) ci)) rfl fun a w s=>sq s (poP (t rfl) rfl) rfl fun a w s=>nl ?_))
 refine cm s rfl hm (fun hb hm=>?_) (fun hb hm=>?_)
 ·refine se (rg (sq s (sa cb) rfl fun a w s=>nl ?_))
  obtain rfl:=si hm
  refine wpIn_ret ?_
  exact rn hD s rfl (rv1 (rt rfl))
 ·refine wpIn_skip ?_
  refine se ?_
  refine se (rg (sq s (sa ci) rfl fun a w s=>nl ?_))
  obtain ⟨o2,hoo2,hko2⟩:=bs hm
  refine lcI o2 (fun o2s a w=>St M w_0 43 [(0,Va (v0)),(1,Pt (v0)),(2,Va (false)),(3,Va (o2s))] a w) ?_ fun o2s a w ho s=>?_
  ·refine wpIn_block ?_
   refine loI (fun n z1=>m47_l1 f v0 n z1) o2 (fun z1 a w=>St M w_0 43 [(0,Va (v0)),(1,Pt (v0)),(2,Va (false)),(3,Va (z1))] a w) f (0:Int) (s.pick [0,1,2,3]) hoo2 (fun _=>rfl) fun n z1 a w hm s=>?_
   replace hm:m47_l1 f v0 (n + 1) z1=some o2:=hm
   unfold m47_l1 at hm
   refine se ?_
   refine se (rg (sq s (mv (t rfl)) rfl fun a w s=>sq s (fa (f:=Space.States) (t rfl)) rfl fun a w s=>sq s (ld (t rfl)) rfl fun a w s=>sq s (ln (t rfl)) rfl fun a w s=>sq s (lt (t rfl) (t rfl)) rfl fun a w s=>nl ?_))
   refine cm s rfl hm (fun hb hm=>?_) (fun hb hm=>?_)
   ·refine wpIn_skip ?_
    refine se ?_
    refine wpIn_block ?_
    obtain ⟨x3,hx3,hm⟩:=bs hm
    obtain ⟨x4,hx4,hm⟩:=bs hm
    refine se (rg (sq s (fa (f:=Space.States) (t rfl)) rfl fun a w s=>sq s (ld (t rfl)) rfl fun a w s=>sq s (mv (t rfl)) rfl fun a w s=>sq s (ix (t rfl) (t rfl) hx3) rfl fun a w s=>sq s (ld (t rfl)) rfl fun a w s=>sq s (cc rfl (oc (t rfl) on) (s48 f _ _ hx4)) rfl fun a w s=>sq s (nt (t rfl)) rfl fun a w s=>nl ?_))
    refine cm s rfl hm (fun hb hm=>?_) (fun hb hm=>?_)
    ·refine se (rg (sq s (sa cb) rfl fun a w s=>nl ?_))
     obtain rfl:=si hm
     replace hm:=hko2
     dsimp only at hm
     obtain rfl:=si hm
     refine wpIn_ret ?_
     exact rn hD s rfl (rv1 (rt rfl))
    ·refine wpIn_skip ?_
     refine rg (sq s (mv (t rfl)) rfl fun a w s=>sq s (ad (t rfl) ci) rfl fun a w s=>sq s (sa (t rfl)) rfl fun a w s=>nl ?_)
     exact ⟨_,hm,s.pick [0,1,2,3]⟩
   ·refine wpIn_exit ?_
    exact ⟨_,(si hm).symm,s.pick [0,1,2,3]⟩
  ·subst ho
   replace hm:=hko2
   dsimp only at hm
   refine se ?_
   refine se (rg (sq s (sa ci) rfl fun a w s=>nl ?_))
   obtain ⟨o6,hoo6,hko6⟩:=bs hm
   refine lcI o6 (fun o6s a w=>St M w_0 43 [(0,Va (v0)),(1,Pt (v0)),(2,Va (false)),(3,Va (o2s)),(4,Va (o6s))] a w) ?_ fun o6s a w ho s=>?_
   ·refine wpIn_block ?_
    refine loI (fun n z5=>m47_l2 v0 n z5) o6 (fun z5 a w=>St M w_0 43 [(0,Va (v0)),(1,Pt (v0)),(2,Va (false)),(3,Va (o2s)),(4,Va (z5))] a w) f (0:Int) (s.pick [0,1,2,3,4]) hoo6 (fun _=>rfl) fun n z5 a w hm s=>?_
    replace hm:m47_l2 v0 (n + 1) z5=some o6:=hm
    unfold m47_l2 at hm
    refine se ?_
    refine se (rg (sq s (mv (t rfl)) rfl fun a w s=>sq s (fa (f:=Space.Moves) (t rfl)) rfl fun a w s=>sq s (ld (t rfl)) rfl fun a w s=>sq s (ln (t rfl)) rfl fun a w s=>sq s (lt (t rfl) (t rfl)) rfl fun a w s=>nl ?_))
    refine cm s rfl hm (fun hb hm=>?_) (fun hb hm=>?_)
    ·refine wpIn_skip ?_
     refine se ?_
     refine wpIn_block ?_
     obtain ⟨x7,hx7,hm⟩:=bs hm
     refine se (rg (sq s (fa (f:=Space.Moves) (t rfl)) rfl fun a w s=>sq s (ld (t rfl)) rfl fun a w s=>sq s (mv (t rfl)) rfl fun a w s=>sq s (ix (t rfl) (t rfl) hx7) rfl fun a w s=>sq s (ld (t rfl)) rfl fun a w s=>sq s (ln (t rfl)) rfl fun a w s=>sq s (gt (t rfl) ci) rfl fun a w s=>nl ?_))
     refine cm s rfl hm (fun hb hm=>?_) (fun hb hm=>?_)
     ·refine se (rg (sq s (sa cb) rfl fun a w s=>nl ?_))
      obtain rfl:=si hm
      replace hm:=hko6
      dsimp only at hm
      obtain rfl:=si hm
      refine wpIn_ret ?_
      exact rn hD s rfl (rv1 (rt rfl))
     ·refine wpIn_skip ?_
      refine rg (sq s (mv (t rfl)) rfl fun a w s=>sq s (ad (t rfl) ci) rfl fun a w s=>sq s (sa (t rfl)) rfl fun a w s=>nl ?_)
      exact ⟨_,hm,s.pick [0,1,2,3,4]⟩
    ·refine wpIn_exit ?_
     exact ⟨_,(si hm).symm,s.pick [0,1,2,3,4]⟩
   ·subst ho
    replace hm:=hko6
    dsimp only at hm
    refine se (rg (sq s (sa cb) rfl fun a w s=>nl ?_))
    obtain rfl:=si hm
    refine wpIn_ret ?_
    exact rn hD s rfl (rv1 (rt rfl))
def m56_l2 (v0:Space) (z1:Int):Nat→Int→Option (Lo (Int) (Int))
 | 0,_=>none
 | n+1,z3=>(idx ((v0).Moves) z1).bind fun x5=>(bif (decide (z3 < (x5.length:Int))) then (idx ((v0).Moves) z1).bind fun x6=>(idx x6 z3).bind fun x7=>(bif (decide (x7 < (0:Int))) then some true else (idx ((v0).Moves) z1).bind fun x8=>(idx x8 z3).bind fun x9=>some (decide (x9≥(((v0).States).length:Int)))).bind fun r10=>(bif r10 then some (.ret (6:Int)) else m56_l2 v0 z1 n (wr (z3 + (1:Int)))) else some (.brk z3))
def m56_l1 (f:Nat) (v0:Space):Nat→Int→Option (Lo (Int) (Int))
 | 0,_=>none
 | n+1,z1=>(bif (decide (z1 < (((v0).Moves).length:Int))) then ((m56_l2 v0 z1 f (0:Int)).bind fun o4=>match o4 with | .brk o4s=>m56_l1 f v0 n (wr (z1 + (1:Int))) | .ret r=>some (.ret r)) else some (.brk z1))
def m56 (f:Nat) (v0:Space):Option (Int):=(bif ((((v0).States).length:Int) == (0:Int)) then some (13:Int) else (bif (decide ((((v0).States).length:Int) > (16384:Int))) then some (5:Int) else (bif ((((v0).Moves).length:Int) != (((v0).States).length:Int)) then some (8:Int) else ((m56_l1 f v0 f (0:Int)).bind fun o2=>match o2 with | .brk o2s=>some (0:Int) | .ret r=>some r))))
set_option maxRecDepth 100000 in
theorem s56 (f:Nat) (v0:Space) (r:Int) (hm:m56 f v0=some r):Sp Tryz.prog 56 [Va (v0)] (Va (r)):=by
 unfold m56 at hm
 refine ens Tryz.func56 (by kernel_rfl) rfl Tryz.ntmps56 rfl rfl fun M w_0 a hM hD s=>?_
 refine se (rg (sq s (bx (t rfl)) rfl fun a w s=>sq s (sa ci) rfl fun a w s=>nl ?_))
 refine se ?_
 refine se (rg (sq s (fa (f:=Space.States) (t rfl)) rfl fun a w s=>sq s (ld (t rfl)) rfl fun a w s=>sq s (ln (t rfl)) rfl fun a w s=>sq s (eq (t rfl) ci) rfl fun a w s=>nl ?_))
 refine cm s rfl hm (fun hb hm=>?_) (fun hb hm=>?_)
 ·refine se (rg (sq s (sa ci) rfl fun a w s=>nl ?_))
  obtain rfl:=si hm
  refine wpIn_ret ?_
  exact rn hD s rfl (rv1 (rt rfl))
 ·refine wpIn_skip ?_
  refine se ?_
  refine se (rg (sq s (fa (f:=Space.States) (t rfl)) rfl fun a w s=>sq s (ld (t rfl)) rfl fun a w s=>sq s (ln (t rfl)) rfl fun a w s=>sq s (gt (t rfl) ci) rfl fun a w s=>nl ?_))
  refine cm s rfl hm (fun hb hm=>?_) (fun hb hm=>?_)
  ·refine se (rg (sq s (sa ci) rfl fun a w s=>nl ?_))
   obtain rfl:=si hm
   refine wpIn_ret ?_
   exact rn hD s rfl (rv1 (rt rfl))
  ·refine wpIn_skip ?_
   refine se ?_
   refine se (rg (sq s (fa (f:=Space.Moves) (t rfl)) rfl fun a w s=>sq s (ld (t rfl)) rfl fun a w s=>sq s (ln (t rfl)) rfl fun a w s=>sq s (fa (f:=Space.States) (t rfl)) rfl fun a w s=>sq s (ld (t rfl)) rfl fun a w s=>sq s (ln (t rfl)) rfl fun a w s=>sq s (ne (t rfl) (t rfl)) rfl fun a w s=>nl ?_))
   refine cm s rfl hm (fun hb hm=>?_) (fun hb hm=>?_)
   ·refine se (rg (sq s (sa ci) rfl fun a w s=>nl ?_))
    obtain rfl:=si hm
    refine wpIn_ret ?_
    exact rn hD s rfl (rv1 (rt rfl))
   ·refine wpIn_skip ?_
    refine se ?_
    refine se (rg (sq s (sa ci) rfl fun a w s=>nl ?_))
    obtain ⟨o2,hoo2,hko2⟩:=bs hm
    refine lcI o2 (fun o2s a w=>St M w_0 60 [(0,Va (v0)),(1,Pt (v0)),(2,Va ((0:Int))),(3,Va (o2s))] a w) ?_ fun o2s a w ho s=>?_
    ·refine wpIn_block ?_
     refine loI (fun n z1=>m56_l1 f v0 n z1) o2 (fun z1 a w=>St M w_0 60 [(0,Va (v0)),(1,Pt (v0)),(2,Va ((0:Int))),(3,Va (z1))] a w) f (0:Int) (s.pick [0,1,2,3]) hoo2 (fun _=>rfl) fun n z1 a w hm s=>?_
     replace hm:m56_l1 f v0 (n + 1) z1=some o2:=hm
     unfold m56_l1 at hm
     refine se ?_
     refine se (rg (sq s (mv (t rfl)) rfl fun a w s=>sq s (fa (f:=Space.Moves) (t rfl)) rfl fun a w s=>sq s (ld (t rfl)) rfl fun a w s=>sq s (ln (t rfl)) rfl fun a w s=>sq s (lt (t rfl) (t rfl)) rfl fun a w s=>nl ?_))
     refine cm s rfl hm (fun hb hm=>?_) (fun hb hm=>?_)
     ·refine wpIn_skip ?_
      refine se ?_
      refine wpIn_block ?_
      refine se (rg (sq s (sa ci) rfl fun a w s=>nl ?_))
      obtain ⟨o4,hoo4,hko4⟩:=bs hm
      refine lcI o4 (fun o4s a w=>St M w_0 60 [(0,Va (v0)),(1,Pt (v0)),(2,Va ((0:Int))),(3,Va (z1)),(4,Va (o4s))] a w) ?_ fun o4s a w ho s=>?_
      ·refine wpIn_block ?_
       refine loI (fun n z3=>m56_l2 v0 z1 n z3) o4 (fun z3 a w=>St M w_0 60 [(0,Va (v0)),(1,Pt (v0)),(2,Va ((0:Int))),(3,Va (z1)),(4,Va (z3))] a w) f (0:Int) (s.pick [0,1,2,3,4]) hoo4 (fun _=>rfl) fun n z3 a w hm s=>?_
       replace hm:m56_l2 v0 z1 (n + 1) z3=some o4:=hm
       unfold m56_l2 at hm
       refine se ?_
       obtain ⟨x5,hx5,hm⟩:=bs hm
       refine se (rg (sq s (mv (t rfl)) rfl fun a w s=>sq s (fa (f:=Space.Moves) (t rfl)) rfl fun a w s=>sq s (ld (t rfl)) rfl fun a w s=>sq s (mv (t rfl)) rfl fun a w s=>sq s (ix (t rfl) (t rfl) hx5) rfl fun a w s=>sq s (ld (t rfl)) rfl fun a w s=>sq s (ln (t rfl)) rfl fun a w s=>sq s (lt (t rfl) (t rfl)) rfl fun a w s=>nl ?_))
       refine cm s rfl hm (fun hb hm=>?_) (fun hb hm=>?_)
       ·refine wpIn_skip ?_
        refine se ?_
        refine wpIn_block ?_
        obtain ⟨x6,hx6,hm⟩:=bs hm
        obtain ⟨x7,hx7,hm⟩:=bs hm
        obtain ⟨r10,hr10,hm⟩:=bs hm
        have gr10:=gF hr10
        have er10:=gT hr10
        obtain ⟨x8,hx8,gr10⟩:=gx gr10
        obtain ⟨x9,hx9,gr10⟩:=gx gr10
        refine se (flow s (m:=23) (.cons (.cong (.cong (.cong (.cong (.cong (.cong (.cong (.cong (.cong (.cong (.cong (.cong (.cons (.cons (.cons (.cons (.cons (.cons (.cons (.cons (.cons (.cons .nil rfl (fa (f:=Space.Moves) (t rfl))) rfl (ld (t rfl))) rfl (mv (t rfl))) rfl (ix (t rfl) (t rfl) hx6)) rfl (ld (t rfl))) rfl (mv (t rfl))) rfl (ix (t rfl) (t rfl) hx7)) rfl (ld (t rfl))) rfl (lt (t rfl) ci)) rfl (mv (t rfl))) rfl rfl rfl (fun hb=>(fa (f:=Space.Moves) (t rfl)))) rfl rfl rfl (fun hb=>(ld (tg rfl hb)))) rfl rfl rfl (fun hb=>(mv (t rfl)))) rfl rfl rfl (fun hb=>(ix (tg rfl hb) (tg rfl hb) (hx8 hb)))) rfl rfl rfl (fun hb=>(ld (tg rfl hb)))) rfl rfl rfl (fun hb=>(mv (t rfl)))) rfl rfl rfl (fun hb=>(ix (tg rfl hb) (tg rfl hb) (hx9 hb)))) rfl rfl rfl (fun hb=>(ld (tg rfl hb)))) rfl rfl rfl (fun hb=>(fa (f:=Space.States) (t rfl)))) rfl rfl rfl (fun hb=>(ld (tg rfl hb)))) rfl rfl rfl (fun hb=>(ln (tg rfl hb)))) rfl rfl rfl (fun hb=>(ge (tg rfl hb) (tg rfl hb)))) rfl (po (t rfl) rfl (fun h=>si (gr10 h)) (fun h=>(si (er10 h)).symm))) (by kernel_rfl) rfl rfl fun a w s=>nl ?_)
        refine cm s rfl hm (fun hb hm=>?_) (fun hb hm=>?_)
        ·refine se (rg (sq s (sa ci) rfl fun a w s=>nl ?_))
         obtain rfl:=si hm
         replace hm:=hko4
         dsimp only at hm
         obtain rfl:=si hm
         replace hm:=hko2
         dsimp only at hm
         obtain rfl:=si hm
         refine wpIn_ret ?_
         exact rn hD s rfl (rv1 (rt rfl))
        ·refine wpIn_skip ?_
         refine rg (sq s (mv (t rfl)) rfl fun a w s=>sq s (ad (t rfl) ci) rfl fun a w s=>sq s (sa (t rfl)) rfl fun a w s=>nl ?_)
         exact ⟨_,hm,s.pick [0,1,2,3,4]⟩
       ·refine wpIn_exit ?_
        exact ⟨_,(si hm).symm,s.pick [0,1,2,3,4]⟩
      ·subst ho
       replace hm:=hko4
       dsimp only at hm
       refine rg (sq s (mv (t rfl)) rfl fun a w s=>sq s (ad (t rfl) ci) rfl fun a w s=>sq s (sa (t rfl)) rfl fun a w s=>nl ?_)
       exact ⟨_,hm,s.pick [0,1,2,3]⟩
     ·refine wpIn_exit ?_
      exact ⟨_,(si hm).symm,s.pick [0,1,2,3]⟩
    ·subst ho
     replace hm:=hko2
     dsimp only at hm
     refine se (rg (sq s (sa ci) rfl fun a w s=>nl ?_))
     obtain rfl:=si hm
     refine wpIn_ret ?_
     exact rn hD s rfl (rv1 (rt rfl))
def m50_l1 (v0:Space):Nat→(Int×(List Int))→Option (Int×(List Int))
 | 0,_=>none
 | n+1,z2=>(bif (decide (z2.1 < (((v0).Moves).length:Int))) then (idx ((v0).Moves) z2.1).bind fun x5=>(bif ((x5.length:Int) == (0:Int)) then (app z2.2 ([z2.1]:List Int)).bind fun x7=>some x7 else some z2.2).bind fun z6=>m50_l1 v0 n ((wr (z2.1 + (1:Int))),z6) else some (z2.1,z2.2))
def m50 (f:Nat) (v0:Space):Option ((List Int)×Int):=(m56 f v0).bind fun x1=>(bif (x1 != (0:Int)) then some (([]:List Int),x1) else (m50_l1 v0 f ((0:Int),([]:List Int))).bind fun o3s=>some (o3s.2,(0:Int)))
set_option maxRecDepth 100000 in
theorem s50 (f:Nat) (v0:Space) (r:(List Int)×Int) (hm:m50 f v0=some r):Sp Tryz.prog 50 [Va (v0)] (T2 (Va (r.1)) (Va (r.2))):=by
 unfold m50 at hm
 refine ens Tryz.func50 (by kernel_rfl) rfl Tryz.ntmps50 rfl rfl fun M w_0 a hM hD s=>?_
 refine se (rg (sq s (bx (t rfl)) rfl fun a w s=>sq s (saq cq) rfl fun a w s=>sq s (sa ci) rfl fun a w s=>nl ?_))
 refine se ?_
 obtain ⟨x1,hx1,hm⟩:=bs hm
 refine se (rg (sq s (ld (t rfl)) rfl fun a w s=>sq s (cc rfl (oc (t rfl) on) (s56 f _ _ hx1)) rfl fun a w s=>sq s (sa (t rfl)) rfl fun a w s=>nl ?_))
 refine se (rg (sq s (mv (t rfl)) rfl fun a w s=>sq s (ne (t rfl) ci) rfl fun a w s=>nl ?_))
 refine cm s rfl hm (fun hb hm=>?_) (fun hb hm=>?_)
 ·refine se (rg (sq s (mv (t rfl)) rfl fun a w s=>sq s (saq cq) rfl fun a w s=>sq s (sa (t rfl)) rfl fun a w s=>nl ?_))
  obtain rfl:=si hm
  refine wpIn_ret ?_
  exact rn hD s rfl (rv2 (ro (qns (α:=Int) (t rfl))) (rt rfl))
 ·refine wpIn_skip ?_
  refine se (rg (sq s (saq cq) rfl fun a w s=>nl ?_))
  refine se ?_
  refine se (rg (sq s (sa ci) rfl fun a w s=>nl ?_))
  refine nilt (α:=Int) (d:=5) 1000 3 s rfl rfl fun c4 s=>?_
  obtain ⟨o3s,hoo3,hko3⟩:=bs hm
  refine cpI (fun a w=>∃ (o3sc0:Value),St M w_0 31 [(0,Va (v0)),(1,Pt (v0)),(2,Qv (.slice none 0 0)),(3,Va ((0:Int))),(4,Va (x1)),(5,Qv o3sc0),(6,Va (o3s.1)),(1000,Ow 3 o3sc0 (o3s.2))] a w) ?_ fun a w s=>?_
  ·refine wpIn_block ?_
   refine loI (fun n z2=>m50_l1 v0 n z2) o3s (fun z2 a w=>∃ (z2c0:Value),St M w_0 31 [(0,Va (v0)),(1,Pt (v0)),(2,Qv (.slice none 0 0)),(3,Va ((0:Int))),(4,Va (x1)),(5,Qv z2c0),(6,Va (z2.1)),(1000,Ow 3 z2c0 (z2.2))] a w) f ((0:Int),([]:List Int)) ⟨c4,s.pick [0,1,2,3,4,5,6,1000]⟩ hoo3 (fun _=>rfl) fun n z2 a w hm s=>?_
   obtain ⟨z2c0,s⟩:=s
   replace hm:m50_l1 v0 (n + 1) z2=some o3s:=hm
   unfold m50_l1 at hm
   refine se ?_
   refine se (rg (sq s (mv (t rfl)) rfl fun a w s=>sq s (fa (f:=Space.Moves) (t rfl)) rfl fun a w s=>sq s (ld (t rfl)) rfl fun a w s=>sq s (ln (t rfl)) rfl fun a w s=>sq s (lt (t rfl) (t rfl)) rfl fun a w s=>nl ?_))
   refine cm s rfl hm (fun hb hm=>?_) (fun hb hm=>?_)
   ·refine wpIn_skip ?_
    refine se ?_
    refine wpIn_block ?_
    obtain ⟨x5,hx5,hm⟩:=bs hm
    refine se (rg (sq s (fa (f:=Space.Moves) (t rfl)) rfl fun a w s=>sq s (ld (t rfl)) rfl fun a w s=>sq s (mv (t rfl)) rfl fun a w s=>sq s (ix (t rfl) (t rfl) hx5) rfl fun a w s=>sq s (ld (t rfl)) rfl fun a w s=>sq s (ln (t rfl)) rfl fun a w s=>sq s (eq (t rfl) ci) rfl fun a w s=>nl ?_))
    obtain ⟨z6,hz6,hkz6⟩:=bs hm
    refine cpI (fun a w=>∃ (z6c0:Value),St M w_0 31 [(0,Va (v0)),(1,Pt (v0)),(2,Qv (.slice none 0 0)),(3,Va ((0:Int))),(4,Va (x1)),(5,Qv z6c0),(6,Va (z2.1)),(1000,Ow 3 z6c0 (z6))] a w) ?_ fun a w s=>?_
    ·refine cm s rfl hz6 (fun hb hm=>?_) (fun hb hm=>?_)
     ·obtain ⟨x7,hx7,hm⟩:=bs hm
      refine rg (sq s (mvq (t rfl)) rfl fun a w s=>sq s (mv (t rfl)) rfl fun a w s=>sq s (bsv (o1 (t rfl) o0) rfl rfl (by kernel_rfl)) rfl fun a w s=>apd (α:=Int) (k:=1000) s (t rfl) rfl (t rfl) hx7 rfl rfl fun c8 a w s=>sq s (saq (t rfl)) rfl fun a w s=>nl ?_)
      obtain rfl:=si hm
      exact ⟨c8,s.pick [0,1,2,3,4,5,6,1000]⟩
     ·refine wpIn_skip ?_
      obtain rfl:=si hm
      exact ⟨z2c0,s.pick [0,1,2,3,4,5,6,1000]⟩
    ·obtain ⟨z6c0,s⟩:=s
     replace hm:=hkz6
     refine rg (sq s (mv (t rfl)) rfl fun a w s=>sq s (ad (t rfl) ci) rfl fun a w s=>sq s (sa (t rfl)) rfl fun a w s=>nl ?_)
     exact ⟨_,hm,⟨z6c0,s.pick [0,1,2,3,4,5,6,1000]⟩⟩
   ·refine wpIn_exit ?_
    obtain rfl:=si hm
    exact ⟨z2c0,s.pick [0,1,2,3,4,5,6,1000]⟩
  ·obtain ⟨o3sc0,s⟩:=s
   replace hm:=hko3
   refine se (rg (sq s (mvq (t rfl)) rfl fun a w s=>sq s (saq (t rfl)) rfl fun a w s=>sq s (sa ci) rfl fun a w s=>nl ?_))
   obtain rfl:=si hm
   refine fzk (α:=Int) (k:=1000) hM s rfl fun s=>?_
   refine wpIn_ret ?_
   exact rn hD s rfl (rv2 (ro (ta (k:=1000) (t rfl) rfl)) (rt rfl))
def m117_l3 (v0:Space) (z8:Int×(List Int)×(List Int)):Nat→(Int×(List Int)×(List Int))→Option (Int×(List Int)×(List Int))
 | 0,_=>none
 | n+1,z10=>(idx z10.2.2 z8.1).bind fun x12=>(idx ((v0).Moves) x12).bind fun x13=>(bif (decide (z10.1 < (x13.length:Int))) then (idx z10.2.2 z8.1).bind fun x14=>(idx ((v0).Moves) x14).bind fun x15=>(idx x15 z10.1).bind fun x16=>(idx z10.2.1 x16).bind fun x17=>(bif (decide (x17 < (0:Int))) then (idx z10.2.2 z8.1).bind fun x19=>(idx z10.2.1 x19).bind fun x20=>(idx z10.2.1 x16).bind fun x21=>(app z10.2.2 ([x16]:List Int)).bind fun x22=>some ((z10.2.1.set x16.toNat (wr (x20 + (1:Int)))),x22) else some (z10.2.1,z10.2.2)).bind fun z18=>m117_l3 v0 z8 n ((wr (z10.1 + (1:Int))),z18.1,z18.2) else some (z10.1,z10.2.1,z10.2.2))
def m117_l2 (f:Nat) (v0:Space):Nat→(Int×(List Int)×(List Int))→Option (Int×(List Int)×(List Int))
 | 0,_=>none
 | n+1,z8=>(bif (decide (z8.1 < (z8.2.2.length:Int))) then (m117_l3 v0 z8 f ((0:Int),z8.2.1,z8.2.2)).bind fun o11s=>m117_l2 f v0 n ((wr (z8.1 + (1:Int))),o11s.2.1,o11s.2.2) else some (z8.1,z8.2.1,z8.2.2))
def m117_l1 (v0:Space):Nat→(Int×(List Int))→Option (Int×(List Int))
 | 0,_=>none
 | n+1,z1=>(bif (decide (z1.1 < (((v0).States).length:Int))) then (app z1.2 ([(-1:Int)]:List Int)).bind fun x4=>m117_l1 v0 n ((wr (z1.1 + (1:Int))),x4) else some (z1.1,z1.2))
def m117 (f:Nat) (v0:Space) (v1:Int):Option ((List Int)):=(m117_l1 v0 f ((0:Int),([]:List Int))).bind fun o2s=>(idx o2s.2 v1).bind fun x6=>(m117_l2 f v0 f ((0:Int),(o2s.2.set v1.toNat (0:Int)),([v1]:List Int))).bind fun o9s=>some o9s.2.1
set_option maxRecDepth 100000 in
set_option maxHeartbeats 2000000 in
theorem s117 (f:Nat) (v0:Space) (v1:Int) (r:(List Int)) (hm:m117 f v0 v1=some r):Sp Tryz.prog 117 [Va (v0),Va (v1)] (Va (r)):=by
 unfold m117 at hm
 refine ens Tryz.func117 (by kernel_rfl) rfl Tryz.ntmps117 rfl rfl fun M w_0 a hM hD s=>?_
 refine se (rg (sq s (bx (t rfl)) rfl fun a w s=>sq s (saq cq) rfl fun a w s=>nl ?_))
 refine se (rg (sq s (saq cq) rfl fun a w s=>nl ?_))
 refine se ?_
 refine se (rg (sq s (sa ci) rfl fun a w s=>nl ?_))
 refine nilt (α:=Int) (d:=5) 1000 3 s rfl rfl fun c3 s=>?_
 obtain ⟨o2s,hoo2,hko2⟩:=bs hm
 refine cpI (fun a w=>∃ (o2sc0:Value),St M w_0 77 [(0,Va (v0)),(1,Va (v1)),(2,Pt (v0)),(4,Qv (.slice none 0 0)),(5,Qv o2sc0),(6,Va (o2s.1)),(1000,Ow 3 o2sc0 (o2s.2))] a w) ?_ fun a w s=>?_
 ·refine wpIn_block ?_
  refine loI (fun n z1=>m117_l1 v0 n z1) o2s (fun z1 a w=>∃ (z1c0:Value),St M w_0 77 [(0,Va (v0)),(1,Va (v1)),(2,Pt (v0)),(4,Qv (.slice none 0 0)),(5,Qv z1c0),(6,Va (z1.1)),(1000,Ow 3 z1c0 (z1.2))] a w) f ((0:Int),([]:List Int)) ⟨c3,s.pick [0,1,2,4,5,6,1000]⟩ hoo2 (fun _=>rfl) fun n z1 a w hm s=>?_
  obtain ⟨z1c0,s⟩:=s
  replace hm:m117_l1 v0 (n + 1) z1=some o2s:=hm
  unfold m117_l1 at hm
  refine se ?_
  refine se (rg (sq s (mv (t rfl)) rfl fun a w s=>sq s (fa (f:=Space.States) (t rfl)) rfl fun a w s=>sq s (ld (t rfl)) rfl fun a w s=>sq s (ln (t rfl)) rfl fun a w s=>sq s (lt (t rfl) (t rfl)) rfl fun a w s=>nl ?_))
  refine cm s rfl hm (fun hb hm=>?_) (fun hb hm=>?_)
  ·refine wpIn_skip ?_
   refine se ?_
   refine wpIn_block ?_
   obtain ⟨x4,hx4,hm⟩:=bs hm
   refine rg (sq s (mvq (t rfl)) rfl fun a w s=>sq s (bsv (o1 ci o0) rfl rfl (by kernel_rfl)) rfl fun a w s=>apd (α:=Int) (k:=1000) s (t rfl) rfl (t rfl) hx4 rfl rfl fun c5 a w s=>sq s (saq (t rfl)) rfl fun a w s=>nl ?_)
   refine rg (sq s (mv (t rfl)) rfl fun a w s=>sq s (ad (t rfl) ci) rfl fun a w s=>sq s (sa (t rfl)) rfl fun a w s=>nl ?_)
   exact ⟨_,hm,⟨c5,s.pick [0,1,2,4,5,6,1000]⟩⟩
  ·refine wpIn_exit ?_
   obtain rfl:=si hm
   exact ⟨z1c0,s.pick [0,1,2,4,5,6,1000]⟩
 ·obtain ⟨o2sc0,s⟩:=s
  replace hm:=hko2
  obtain ⟨x6,hx6,hm⟩:=bs hm
  refine se (rg (sq s (mvq (t rfl)) rfl fun a w s=>sq s (mv (t rfl)) rfl fun a w s=>sq s (ixq (α:=Int) (k:=1000) (t rfl) rfl (t rfl) hx6) rfl fun a w s=>stq (k:=1000) s (t rfl) rfl (idxg hx6) ci fun w s=>nl ?_))
  refine se (rg (sq s (mv (t rfl)) rfl fun a w s=>sqo 1002 s (bso (o1 (t rfl) o0) rfl rfl (by kernel_rfl)) rfl rfl fun c7 a w s=>sq s (saq (t rfl)) rfl fun a w s=>nl ?_))
  refine se ?_
  refine se (rg (sq s (sa ci) rfl fun a w s=>nl ?_))
  obtain ⟨o9s,hoo9,hko9⟩:=bs hm
  refine cpI (fun a w=>∃ (o9sc0:Value),St M w_0 77 [(0,Va (v0)),(1,Va (v1)),(2,Pt (v0)),(4,Qv (.slice none 0 0)),(5,Qv o2sc0),(6,Va (o2s.1)),(7,Qv o9sc0),(8,Va (o9s.1)),(1000,Ow 3 o2sc0 (o9s.2.1)),(1002,Ow 3 o9sc0 (o9s.2.2))] a w) ?_ fun a w s=>?_
  ·refine wpIn_block ?_
   refine loI (fun n z8=>m117_l2 f v0 n z8) o9s (fun z8 a w=>∃ (z8c0:Value),St M w_0 77 [(0,Va (v0)),(1,Va (v1)),(2,Pt (v0)),(4,Qv (.slice none 0 0)),(5,Qv o2sc0),(6,Va (o2s.1)),(7,Qv z8c0),(8,Va (z8.1)),(1000,Ow 3 o2sc0 (z8.2.1)),(1002,Ow 3 z8c0 (z8.2.2))] a w) f ((0:Int),(o2s.2.set v1.toNat (0:Int)),([v1]:List Int)) ⟨c7,s.pick [0,1,2,4,5,6,7,8,1000,1002]⟩ hoo9 (fun _=>rfl) fun n z8 a w hm s=>?_
   obtain ⟨z8c0,s⟩:=s
   replace hm:m117_l2 f v0 (n + 1) z8=some o9s:=hm
   unfold m117_l2 at hm
   refine se ?_
   refine se (rg (sq s (mv (t rfl)) rfl fun a w s=>sq s (mvq (t rfl)) rfl fun a w s=>sq s (lnq (α:=Int) (k:=1002) (t rfl) rfl) rfl fun a w s=>sq s (lt (t rfl) (t rfl)) rfl fun a w s=>nl ?_))
   refine cm s rfl hm (fun hb hm=>?_) (fun hb hm=>?_)
   ·refine wpIn_skip ?_
    refine se ?_
    refine wpIn_block ?_
    refine se (rg (sq s (sa ci) rfl fun a w s=>nl ?_))
    obtain ⟨o11s,hoo11,hko11⟩:=bs hm
    refine cpI (fun a w=>∃ (o11sc0:Value),St M w_0 77 [(0,Va (v0)),(1,Va (v1)),(2,Pt (v0)),(4,Qv (.slice none 0 0)),(5,Qv o2sc0),(6,Va (o2s.1)),(7,Qv o11sc0),(8,Va (z8.1)),(9,Va (o11s.1)),(1000,Ow 3 o2sc0 (o11s.2.1)),(1002,Ow 3 o11sc0 (o11s.2.2))] a w) ?_ fun a w s=>?_
    ·refine wpIn_block ?_
     refine loI (fun n z10=>m117_l3 v0 z8 n z10) o11s (fun z10 a w=>∃ (z10c0:Value),St M w_0 77 [(0,Va (v0)),(1,Va (v1)),(2,Pt (v0)),(4,Qv (.slice none 0 0)),(5,Qv o2sc0),(6,Va (o2s.1)),(7,Qv z10c0),(8,Va (z8.1)),(9,Va (z10.1)),(1000,Ow 3 o2sc0 (z10.2.1)),(1002,Ow 3 z10c0 (z10.2.2))] a w) f ((0:Int),z8.2.1,z8.2.2) ⟨z8c0,s.pick [0,1,2,4,5,6,7,8,9,1000,1002]⟩ hoo11 (fun _=>rfl) fun n z10 a w hm s=>?_
     obtain ⟨z10c0,s⟩:=s
     replace hm:m117_l3 v0 z8 (n + 1) z10=some o11s:=hm
     unfold m117_l3 at hm
     refine se ?_
     obtain ⟨x12,hx12,hm⟩:=bs hm
     obtain ⟨x13,hx13,hm⟩:=bs hm
     refine se (flow s (m:=11) (.cons (.cons (.cons (.cons (.cons (.cons (.cons (.cons (.cons (.cons (.cons .nil rfl (mv (t rfl))) rfl (fa (f:=Space.Moves) (t rfl))) rfl (ld (t rfl))) rfl (mvq (t rfl))) rfl (mv (t rfl))) rfl (ixq (α:=Int) (k:=1002) (t rfl) rfl (t rfl) hx12)) rfl (lq (k:=1002) (t rfl) rfl (idxg hx12))) rfl (ix (t rfl) (t rfl) hx13)) rfl (ld (t rfl))) rfl (ln (t rfl))) rfl (lt (t rfl) (t rfl))) (by kernel_rfl) rfl rfl fun a w s=>nl ?_)
     refine cm s rfl hm (fun hb hm=>?_) (fun hb hm=>?_)
     ·refine wpIn_skip ?_
      refine se ?_
      refine wpIn_block ?_
      obtain ⟨x14,hx14,hm⟩:=bs hm
      obtain ⟨x15,hx15,hm⟩:=bs hm
      obtain ⟨x16,hx16,hm⟩:=bs hm
      refine se (flow s (m:=11) (.cons (.cons (.cons (.cons (.cons (.cons (.cons (.cons (.cons (.cons (.cons .nil rfl (fa (f:=Space.Moves) (t rfl))) rfl (ld (t rfl))) rfl (mvq (t rfl))) rfl (mv (t rfl))) rfl (ixq (α:=Int) (k:=1002) (t rfl) rfl (t rfl) hx14)) rfl (lq (k:=1002) (t rfl) rfl (idxg hx14))) rfl (ix (t rfl) (t rfl) hx15)) rfl (ld (t rfl))) rfl (mv (t rfl))) rfl (ix (t rfl) (t rfl) hx16)) rfl (ld (t rfl))) (by kernel_rfl) rfl rfl fun a w s=>sq s (sa (t rfl)) rfl fun a w s=>nl ?_)
      obtain ⟨x17,hx17,hm⟩:=bs hm
      refine se (rg (sq s (mvq (t rfl)) rfl fun a w s=>sq s (mv (t rfl)) rfl fun a w s=>sq s (ixq (α:=Int) (k:=1000) (t rfl) rfl (t rfl) hx17) rfl fun a w s=>sq s (lq (k:=1000) (t rfl) rfl (idxg hx17)) rfl fun a w s=>sq s (lt (t rfl) ci) rfl fun a w s=>nl ?_))
      obtain ⟨z18,hz18,hkz18⟩:=bs hm
      refine cpI (fun a w=>∃ (z18c0:Value),St M w_0 77 [(0,Va (v0)),(1,Va (v1)),(2,Pt (v0)),(4,Qv (.slice none 0 0)),(5,Qv o2sc0),(6,Va (o2s.1)),(7,Qv z18c0),(8,Va (z8.1)),(9,Va (z10.1)),(10,Va (x16)),(1000,Ow 3 o2sc0 (z18.1)),(1002,Ow 3 z18c0 (z18.2))] a w) ?_ fun a w s=>?_
      ·refine cm s rfl hz18 (fun hb hm=>?_) (fun hb hm=>?_)
       ·obtain ⟨x19,hx19,hm⟩:=bs hm
        obtain ⟨x20,hx20,hm⟩:=bs hm
        obtain ⟨x21,hx21,hm⟩:=bs hm
        refine se (rg (sq s (mvq (t rfl)) rfl fun a w s=>sq s (mv (t rfl)) rfl fun a w s=>sq s (mvq (t rfl)) rfl fun a w s=>sq s (mvq (t rfl)) rfl fun a w s=>sq s (mv (t rfl)) rfl fun a w s=>sq s (ixq (α:=Int) (k:=1002) (t rfl) rfl (t rfl) hx19) rfl fun a w s=>sq s (lq (k:=1002) (t rfl) rfl (idxg hx19)) rfl fun a w s=>sq s (ixq (α:=Int) (k:=1000) (t rfl) rfl (t rfl) hx20) rfl fun a w s=>sq s (lq (k:=1000) (t rfl) rfl (idxg hx20)) rfl fun a w s=>sq s (ad (t rfl) ci) rfl fun a w s=>sq s (ixq (α:=Int) (k:=1000) (t rfl) rfl (t rfl) hx21) rfl fun a w s=>stq (k:=1000) s (t rfl) rfl (idxg hx21) (t rfl) fun w s=>nl ?_))
        obtain ⟨x22,hx22,hm⟩:=bs hm
        refine rg (sq s (mvq (t rfl)) rfl fun a w s=>sq s (mv (t rfl)) rfl fun a w s=>sq s (bsv (o1 (t rfl) o0) rfl rfl (by kernel_rfl)) rfl fun a w s=>apd (α:=Int) (k:=1002) s (t rfl) rfl (t rfl) hx22 rfl rfl fun c23 a w s=>sq s (saq (t rfl)) rfl fun a w s=>nl ?_)
        obtain rfl:=si hm
        exact ⟨c23,s.pick [0,1,2,4,5,6,7,8,9,10,1000,1002]⟩
       ·refine wpIn_skip ?_
        obtain rfl:=si hm
        exact ⟨z10c0,s.pick [0,1,2,4,5,6,7,8,9,10,1000,1002]⟩
      ·obtain ⟨z18c0,s⟩:=s
       replace hm:=hkz18
       refine rg (sq s (mv (t rfl)) rfl fun a w s=>sq s (ad (t rfl) ci) rfl fun a w s=>sq s (sa (t rfl)) rfl fun a w s=>nl ?_)
       exact ⟨_,hm,⟨z18c0,s.pick [0,1,2,4,5,6,7,8,9,1000,1002]⟩⟩
     ·refine wpIn_exit ?_
      obtain rfl:=si hm
      exact ⟨z10c0,s.pick [0,1,2,4,5,6,7,8,9,1000,1002]⟩
    ·obtain ⟨o11sc0,s⟩:=s
     replace hm:=hko11
     refine rg (sq s (mv (t rfl)) rfl fun a w s=>sq s (ad (t rfl) ci) rfl fun a w s=>sq s (sa (t rfl)) rfl fun a w s=>nl ?_)
     exact ⟨_,hm,⟨o11sc0,s.pick [0,1,2,4,5,6,7,8,1000,1002]⟩⟩
   ·refine wpIn_exit ?_
    obtain rfl:=si hm
    exact ⟨z8c0,s.pick [0,1,2,4,5,6,7,8,1000,1002]⟩
  ·obtain ⟨o9sc0,s⟩:=s
   replace hm:=hko9
   refine se (rg (sq s (mvq (t rfl)) rfl fun a w s=>sq s (saq (t rfl)) rfl fun a w s=>nl ?_))
   obtain rfl:=si hm
   refine fzk (α:=Int) (k:=1000) hM s rfl fun s=>?_
   refine wpIn_ret ?_
   exact rn hD s rfl (rv1 (ro (ta (k:=1000) (t rfl) rfl)))
def m52_l2 (f:Nat) (v0:Space) (z3:Int×(List Int)) (x6:Int) (x7:(List Int)):Nat→(Bool×Int)→Option (Bool×Int)
 | 0,_=>none
 | n+1,z8=>(bif ((decide (z8.2 < (x7.length:Int))) && z8.1) then (idx x7 z8.2).bind fun x10=>(bif (decide (x10 < (0:Int))) then some true else (m117 f v0 z8.2).bind fun x11=>(idx x11 z3.1).bind fun x12=>some (decide (x12≥(0:Int)))).bind fun r13=>m52_l2 f v0 z3 x6 x7 n (r13,(wr (z8.2 + (1:Int)))) else some (z8.1,z8.2))
def m52_l1 (f:Nat) (v0:Space) (x2:(List Int)):Nat→(Int×(List Int))→Option (Int×(List Int))
 | 0,_=>none
 | n+1,z3=>(bif (decide (z3.1 < (((v0).States).length:Int))) then (idx x2 z3.1).bind fun x6=>(m117 f v0 z3.1).bind fun x7=>(m52_l2 f v0 z3 x6 x7 f ((decide (x6≥(0:Int))),(0:Int))).bind fun o9s=>(bif o9s.1 then (app z3.2 ([z3.1]:List Int)).bind fun x15=>some x15 else some z3.2).bind fun z14=>m52_l1 f v0 x2 n ((wr (z3.1 + (1:Int))),z14) else some (z3.1,z3.2))
def m52 (f:Nat) (v0:Space):Option ((List Int)×Int):=(m56 f v0).bind fun x1=>(bif (x1 != (0:Int)) then some (([]:List Int),x1) else (m117 f v0 (0:Int)).bind fun x2=>(m52_l1 f v0 x2 f ((0:Int),([]:List Int))).bind fun o4s=>some (o4s.2,(0:Int)))
set_option maxRecDepth 100000 in
set_option maxHeartbeats 2000000 in
theorem s52 (f:Nat) (v0:Space) (r:(List Int)×Int) (hm:m52 f v0=some r):Sp Tryz.prog 52 [Va (v0)] (T2 (Va (r.1)) (Va (r.2))):=by
 unfold m52 at hm
 refine ens Tryz.func52 (by kernel_rfl) rfl Tryz.ntmps52 rfl rfl fun M w_0 a hM hD s=>?_
 refine se (rg (sq s (bx (t rfl)) rfl fun a w s=>sq s (saq cq) rfl fun a w s=>sq s (sa ci) rfl fun a w s=>nl ?_))
 refine se ?_
 obtain ⟨x1,hx1,hm⟩:=bs hm
 refine se (rg (sq s (ld (t rfl)) rfl fun a w s=>sq s (cc rfl (oc (t rfl) on) (s56 f _ _ hx1)) rfl fun a w s=>sq s (sa (t rfl)) rfl fun a w s=>nl ?_))
 refine se (rg (sq s (mv (t rfl)) rfl fun a w s=>sq s (ne (t rfl) ci) rfl fun a w s=>nl ?_))
 refine cm s rfl hm (fun hb hm=>?_) (fun hb hm=>?_)
 ·refine se (rg (sq s (mv (t rfl)) rfl fun a w s=>sq s (saq cq) rfl fun a w s=>sq s (sa (t rfl)) rfl fun a w s=>nl ?_))
  obtain rfl:=si hm
  refine wpIn_ret ?_
  exact rn hD s rfl (rv2 (ro (qns (α:=Int) (t rfl))) (rt rfl))
 ·refine wpIn_skip ?_
  obtain ⟨x2,hx2,hm⟩:=bs hm
  refine se (rg (sq s (ld (t rfl)) rfl fun a w s=>sq s (cc rfl (oc (t rfl) (oc ci on)) (s117 f _ _ _ hx2)) rfl fun a w s=>sq s (sa (t rfl)) rfl fun a w s=>nl ?_))
  refine se (rg (sq s (saq cq) rfl fun a w s=>nl ?_))
  refine se ?_
  refine se (rg (sq s (sa ci) rfl fun a w s=>nl ?_))
  refine nilt (α:=Int) (d:=6) 1000 3 s rfl rfl fun c5 s=>?_
  obtain ⟨o4s,hoo4,hko4⟩:=bs hm
  refine cpI (fun a w=>∃ (o4sc0:Value),St M w_0 62 [(0,Va (v0)),(1,Pt (v0)),(2,Qv (.slice none 0 0)),(3,Va ((0:Int))),(4,Va (x1)),(5,Va (x2)),(6,Qv o4sc0),(7,Va (o4s.1)),(1000,Ow 3 o4sc0 (o4s.2))] a w) ?_ fun a w s=>?_
  ·refine wpIn_block ?_
   refine loI (fun n z3=>m52_l1 f v0 x2 n z3) o4s (fun z3 a w=>∃ (z3c0:Value),St M w_0 62 [(0,Va (v0)),(1,Pt (v0)),(2,Qv (.slice none 0 0)),(3,Va ((0:Int))),(4,Va (x1)),(5,Va (x2)),(6,Qv z3c0),(7,Va (z3.1)),(1000,Ow 3 z3c0 (z3.2))] a w) f ((0:Int),([]:List Int)) ⟨c5,s.pick [0,1,2,3,4,5,6,7,1000]⟩ hoo4 (fun _=>rfl) fun n z3 a w hm s=>?_
   obtain ⟨z3c0,s⟩:=s
   replace hm:m52_l1 f v0 x2 (n + 1) z3=some o4s:=hm
   unfold m52_l1 at hm
   refine se ?_
   refine se (rg (sq s (mv (t rfl)) rfl fun a w s=>sq s (fa (f:=Space.States) (t rfl)) rfl fun a w s=>sq s (ld (t rfl)) rfl fun a w s=>sq s (ln (t rfl)) rfl fun a w s=>sq s (lt (t rfl) (t rfl)) rfl fun a w s=>nl ?_))
   refine cm s rfl hm (fun hb hm=>?_) (fun hb hm=>?_)
   ·refine wpIn_skip ?_
    refine se ?_
    refine wpIn_block ?_
    obtain ⟨x6,hx6,hm⟩:=bs hm
    refine se (rg (sq s (mv (t rfl)) rfl fun a w s=>sq s (mv (t rfl)) rfl fun a w s=>sq s (ix (t rfl) (t rfl) hx6) rfl fun a w s=>sq s (ld (t rfl)) rfl fun a w s=>sq s (ge (t rfl) ci) rfl fun a w s=>sq s (sa (t rfl)) rfl fun a w s=>nl ?_))
    obtain ⟨x7,hx7,hm⟩:=bs hm
    refine se (rg (sq s (ld (t rfl)) rfl fun a w s=>sq s (mv (t rfl)) rfl fun a w s=>sq s (cc rfl (oc (t rfl) (oc (t rfl) on)) (s117 f _ _ _ hx7)) rfl fun a w s=>sq s (sa (t rfl)) rfl fun a w s=>nl ?_))
    refine se ?_
    refine se (rg (sq s (sa ci) rfl fun a w s=>nl ?_))
    obtain ⟨o9s,hoo9,hko9⟩:=bs hm
    refine cpI (fun a w=>St M w_0 62 [(0,Va (v0)),(1,Pt (v0)),(2,Qv (.slice none 0 0)),(3,Va ((0:Int))),(4,Va (x1)),(5,Va (x2)),(6,Qv z3c0),(7,Va (z3.1)),(8,Va (o9s.1)),(9,Va (x7)),(10,Va (o9s.2)),(1000,Ow 3 z3c0 (z3.2))] a w) ?_ fun a w s=>?_
    ·refine wpIn_block ?_
     refine loI (fun n z8=>m52_l2 f v0 z3 x6 x7 n z8) o9s (fun z8 a w=>St M w_0 62 [(0,Va (v0)),(1,Pt (v0)),(2,Qv (.slice none 0 0)),(3,Va ((0:Int))),(4,Va (x1)),(5,Va (x2)),(6,Qv z3c0),(7,Va (z3.1)),(8,Va (z8.1)),(9,Va (x7)),(10,Va (z8.2)),(1000,Ow 3 z3c0 (z3.2))] a w) f ((decide (x6≥(0:Int))),(0:Int)) (s.pick [0,1,2,3,4,5,6,7,8,9,10,1000]) hoo9 (fun _=>rfl) fun n z8 a w hm s=>?_
     replace hm:m52_l2 f v0 z3 x6 x7 (n + 1) z8=some o9s:=hm
     unfold m52_l2 at hm
     refine se ?_
     refine se (rg (sq s (mv (t rfl)) rfl fun a w s=>sq s (mv (t rfl)) rfl fun a w s=>sq s (ln (t rfl)) rfl fun a w s=>sq s (lt (t rfl) (t rfl)) rfl fun a w s=>sq s (mv (t rfl)) rfl fun a w s=>sg s rfl rfl (fun hb=>(mv (t rfl))) rfl fun a w s=>sq s (paP (t rfl) rfl) rfl fun a w s=>nl ?_))
     refine cm s rfl hm (fun hb hm=>?_) (fun hb hm=>?_)
     ·refine wpIn_skip ?_
      refine se ?_
      refine wpIn_block ?_
      obtain ⟨x10,hx10,hm⟩:=bs hm
      obtain ⟨r13,hr13,hm⟩:=bs hm
      have gr13:=gF hr13
      have er13:=gT hr13
      obtain ⟨x11,hx11,gr13⟩:=gx gr13
      obtain ⟨x12,hx12,gr13⟩:=gx gr13
      refine rg (sq s (mv (t rfl)) rfl fun a w s=>sq s (mv (t rfl)) rfl fun a w s=>sq s (ix (t rfl) (t rfl) hx10) rfl fun a w s=>sq s (ld (t rfl)) rfl fun a w s=>sq s (lt (t rfl) ci) rfl fun a w s=>sq s (mv (t rfl)) rfl fun a w s=>sg s rfl rfl (fun hb=>(ld (t rfl))) rfl fun a w s=>sg s rfl rfl (fun hb=>(mv (t rfl))) rfl fun a w s=>sg s rfl rfl (fun hb=>(cc rfl (oc (tg rfl hb) (oc (tg rfl hb) on)) (s117 f _ _ _ (hx11 hb)))) rfl fun a w s=>sg s rfl rfl (fun hb=>(mv (t rfl))) rfl fun a w s=>sg s rfl rfl (fun hb=>(ix (tg rfl hb) (tg rfl hb) (hx12 hb))) rfl fun a w s=>sg s rfl rfl (fun hb=>(ld (tg rfl hb))) rfl fun a w s=>sg s rfl rfl (fun hb=>(ge (tg rfl hb) ci)) rfl fun a w s=>sq s (po (t rfl) rfl (fun h=>si (gr13 h)) (fun h=>(si (er13 h)).symm)) rfl fun a w s=>sq s (sa (t rfl)) rfl fun a w s=>nl ?_)
      refine rg (sq s (mv (t rfl)) rfl fun a w s=>sq s (ad (t rfl) ci) rfl fun a w s=>sq s (sa (t rfl)) rfl fun a w s=>nl ?_)
      exact ⟨_,hm,s.pick [0,1,2,3,4,5,6,7,8,9,10,1000]⟩
     ·refine wpIn_exit ?_
      obtain rfl:=si hm
      exact s.pick [0,1,2,3,4,5,6,7,8,9,10,1000]
    ·replace hm:=hko9
     refine se (rg (sq s (mv (t rfl)) rfl fun a w s=>nl ?_))
     obtain ⟨z14,hz14,hkz14⟩:=bs hm
     refine cpI (fun a w=>∃ (z14c0:Value),St M w_0 62 [(0,Va (v0)),(1,Pt (v0)),(2,Qv (.slice none 0 0)),(3,Va ((0:Int))),(4,Va (x1)),(5,Va (x2)),(6,Qv z14c0),(7,Va (z3.1)),(8,Va (o9s.1)),(9,Va (x7)),(10,Va (o9s.2)),(1000,Ow 3 z14c0 (z14))] a w) ?_ fun a w s=>?_
     ·refine cm s rfl hz14 (fun hb hm=>?_) (fun hb hm=>?_)
      ·obtain ⟨x15,hx15,hm⟩:=bs hm
       refine rg (sq s (mvq (t rfl)) rfl fun a w s=>sq s (mv (t rfl)) rfl fun a w s=>sq s (bsv (o1 (t rfl) o0) rfl rfl (by kernel_rfl)) rfl fun a w s=>apd (α:=Int) (k:=1000) s (t rfl) rfl (t rfl) hx15 rfl rfl fun c16 a w s=>sq s (saq (t rfl)) rfl fun a w s=>nl ?_)
       obtain rfl:=si hm
       exact ⟨c16,s.pick [0,1,2,3,4,5,6,7,8,9,10,1000]⟩
      ·refine wpIn_skip ?_
       obtain rfl:=si hm
       exact ⟨z3c0,s.pick [0,1,2,3,4,5,6,7,8,9,10,1000]⟩
     ·obtain ⟨z14c0,s⟩:=s
      replace hm:=hkz14
      refine rg (sq s (mv (t rfl)) rfl fun a w s=>sq s (ad (t rfl) ci) rfl fun a w s=>sq s (sa (t rfl)) rfl fun a w s=>nl ?_)
      exact ⟨_,hm,⟨z14c0,s.pick [0,1,2,3,4,5,6,7,1000]⟩⟩
   ·refine wpIn_exit ?_
    obtain rfl:=si hm
    exact ⟨z3c0,s.pick [0,1,2,3,4,5,6,7,1000]⟩
  ·obtain ⟨o4sc0,s⟩:=s
   replace hm:=hko4
   refine se (rg (sq s (mvq (t rfl)) rfl fun a w s=>sq s (saq (t rfl)) rfl fun a w s=>sq s (sa ci) rfl fun a w s=>nl ?_))
   obtain rfl:=si hm
   refine fzk (α:=Int) (k:=1000) hM s rfl fun s=>?_
   refine wpIn_ret ?_
   exact rn hD s rfl (rv2 (ro (ta (k:=1000) (t rfl) rfl)) (rt rfl))
def m119 (f:Nat) (v0:State) (v1:State):Option (Bool):=(m120 f v1 v0).bind fun x1=>some x1
set_option maxRecDepth 100000 in
theorem s119 (f:Nat) (v0:State) (v1:State) (r:Bool) (hm:m119 f v0 v1=some r):Sp Tryz.prog 119 [Va (v0),Pt (v1)] (Va (r)):=by
 unfold m119 at hm
 refine ens Tryz.func119 (by kernel_rfl) rfl Tryz.ntmps119 rfl rfl fun M w_0 a hM hD s=>?_
 refine se (rg (sq s (bx (t rfl)) rfl fun a w s=>sq s (sa cb) rfl fun a w s=>nl ?_))
 obtain ⟨x1,hx1,hm⟩:=bs hm
 refine se (rg (sq s (ld (t rfl)) rfl fun a w s=>sq s (ld (t rfl)) rfl fun a w s=>sq s (cc rfl (oc (t rfl) (oc (t rfl) on)) (s120 f _ _ _ hx1)) rfl fun a w s=>sq s (sa (t rfl)) rfl fun a w s=>nl ?_))
 obtain rfl:=si hm
 refine wpIn_ret ?_
 exact rn hD s rfl (rv1 (rt rfl))
def m118_l1 (f:Nat) (v0:List State) (v1:State):Nat→Int→Option (Lo (Int) (Int))
 | 0,_=>none
 | n+1,z1=>(bif (decide (z1 < (v0.length:Int))) then (idx v0 z1).bind fun x3=>(m119 f x3 v1).bind fun x4=>(bif x4 then some (.ret z1) else m118_l1 f v0 v1 n (wr (z1 + (1:Int)))) else some (.brk z1))
def m118 (f:Nat) (v0:List State) (v1:State):Option (Int):=((m118_l1 f v0 v1 f (0:Int)).bind fun o2=>match o2 with | .brk o2s=>some (-1:Int) | .ret r=>some r)
set_option maxRecDepth 100000 in
theorem s118 (f:Nat) (n0:Value) (v0:List State) (v1:State) (r:Int) (hm:m118 f v0 v1=some r):Cg Tryz.prog 118 [Va (v0),Qv (fv 119 [] [n0])] [At n0 (Pt (v1))] (Rz (fun x:Unit=>Va (r)) (fun x=>[At n0 (Pt (v1))])):=by
 unfold m118 at hm
 refine eng Tryz.func118 (by kernel_rfl) rfl Tryz.ntmps118 rfl rfl fun M w_0 a hM hD s=>?_
 refine se (rg (sq s (sa ci) rfl fun a w s=>nl ?_))
 refine se ?_
 refine se (rg (sq s (mv (t rfl)) rfl fun a w s=>sq s (ln (t rfl)) rfl fun a w s=>sq s (mv ci) rfl fun a w s=>nl ?_))
 obtain ⟨o2,hoo2,hko2⟩:=bs hm
 refine lcI o2 (fun o2s a w=>St M w_0 19 [(0,Va (v0)),(1,Qv (fv 119 [] [n0])),(4,Va ((0:Int))),(7,Va ((v0.length:Int))),(8,Va (o2s)),(1000,At n0 (Pt (v1)))] a w) ?_ fun o2s a w ho s=>?_
 ·refine wpIn_block ?_
  refine loI (fun n z1=>m118_l1 f v0 v1 n z1) o2 (fun z1 a w=>St M w_0 19 [(0,Va (v0)),(1,Qv (fv 119 [] [n0])),(4,Va ((0:Int))),(7,Va ((v0.length:Int))),(8,Va (z1)),(1000,At n0 (Pt (v1)))] a w) f (0:Int) (s.pick [0,1,4,7,8,1000]) hoo2 (fun _=>rfl) fun n z1 a w hm s=>?_
  replace hm:m118_l1 f v0 v1 (n + 1) z1=some o2:=hm
  unfold m118_l1 at hm
  refine se (rg (sq s (lt (t rfl) (t rfl)) rfl fun a w s=>nl ?_))
  refine se ?_
  refine cm s rfl hm (fun hb hm=>?_) (fun hb hm=>?_)
  ·refine wpIn_skip ?_
   refine se ?_
   refine wpIn_block ?_
   refine se (rg (sq s (mv (t rfl)) rfl fun a w s=>sq s (sa (t rfl)) rfl fun a w s=>nl ?_))
   obtain ⟨x3,hx3,hm⟩:=bs hm
   obtain ⟨x4,hx4,hm⟩:=bs hm
   refine se (rg (sq s (mvq (t rfl)) rfl fun a w s=>sq s (mv (t rfl)) rfl fun a w s=>sq s (mv (t rfl)) rfl fun a w s=>sq s (ix (t rfl) (t rfl) hx3) rfl fun a w s=>sq s (ld (t rfl)) rfl fun a w s=>sq s (ccv (t rfl) rfl (oc (t rfl) on) vn (va (k:=1000) rfl vn) (s119 f _ _ _ hx4)) rfl fun a w s=>nl ?_))
   refine cm s rfl hm (fun hb hm=>?_) (fun hb hm=>?_)
   ·refine se (rg (sq s (mv (t rfl)) rfl fun a w s=>sq s (sa (t rfl)) rfl fun a w s=>nl ?_))
    obtain rfl:=si hm
    replace hm:=hko2
    dsimp only at hm
    obtain rfl:=si hm
    refine wpIn_ret ?_
    exact rz [1000] () hM hD s rfl (rv1 (rt rfl)) (kc rfl kn) rfl
   ·refine wpIn_skip ?_
    refine rg (sq s (ad (t rfl) ci) rfl fun a w s=>sq s (mv (t rfl)) rfl fun a w s=>nl ?_)
    exact ⟨_,hm,s.pick [0,1,4,7,8,1000]⟩
  ·refine wpIn_exit ?_
   exact ⟨_,(si hm).symm,s.pick [0,1,4,7,8,1000]⟩
 ·subst ho
  replace hm:=hko2
  dsimp only at hm
  refine se (rg (sq s (sa ci) rfl fun a w s=>nl ?_))
  obtain rfl:=si hm
  refine wpIn_ret ?_
  exact rz [1000] () hM hD s rfl (rv1 (rt rfl)) (kc rfl kn) rfl
def m54 (f:Nat) (v0:Space) (v1:State):Option (Int×Int):=(m114 f v0).bind fun x1=>(bif (x1 != (0:Int)) then some ((0:Int),x1) else (m118 f ((v0).States) v1).bind fun x3=>(bif (decide (x3 < (0:Int))) then some ((0:Int),(6:Int)) else some (x3,(0:Int))))
set_option maxRecDepth 100000 in
theorem s54 (f:Nat) (v0:Space) (v1:State) (r:Int×Int) (hm:m54 f v0 v1=some r):Sp Tryz.prog 54 [Va (v0),Va (v1)] (T2 (Va (r.1)) (Va (r.2))):=by
 unfold m54 at hm
 refine ens Tryz.func54 (by kernel_rfl) rfl Tryz.ntmps54 rfl rfl fun M w_0 a hM hD s=>?_
 refine se (rg (sq s (bx (t rfl)) rfl fun a w s=>sq s (bx (t rfl)) rfl fun a w s=>sq s (sa ci) rfl fun a w s=>sq s (sa ci) rfl fun a w s=>nl ?_))
 refine se ?_
 obtain ⟨x1,hx1,hm⟩:=bs hm
 refine se (rg (sq s (ld (t rfl)) rfl fun a w s=>sq s (cc rfl (oc (t rfl) on) (s114 f _ _ hx1)) rfl fun a w s=>sq s (sa (t rfl)) rfl fun a w s=>nl ?_))
 refine se (rg (sq s (mv (t rfl)) rfl fun a w s=>sq s (ne (t rfl) ci) rfl fun a w s=>nl ?_))
 refine cm s rfl hm (fun hb hm=>?_) (fun hb hm=>?_)
 ·refine se (rg (sq s (mv (t rfl)) rfl fun a w s=>sq s (sa ci) rfl fun a w s=>sq s (sa (t rfl)) rfl fun a w s=>nl ?_))
  obtain rfl:=si hm
  refine wpIn_ret ?_
  exact rn hD s rfl (rv2 (rt rfl) (rt rfl))
 ·refine wpIn_skip ?_
  obtain ⟨x3,hx3,hm⟩:=bs hm
  refine se (rg (sq s (fa (f:=Space.States) (t rfl)) rfl fun a w s=>sq s (ld (t rfl)) rfl fun a w s=>nmk (d:=3) 1000 s rfl rfl fun c2 s=>sq s (mkf rfl rfl qn (qc (t rfl) qn)) rfl fun a w s=>cgv [1000] [1000] hM s qf rfl (oc (t rfl) (oc (t rfl) on)) vn vn (s118 f c2 _ _ _ hx3) (kc rfl kn) rfl (fun _=>rfl) rfl rfl rfl fun y4 a w s=>sq s (sa (t rfl)) rfl fun a w s=>nl ?_))
  refine se ?_
  refine se (rg (sq s (mv (t rfl)) rfl fun a w s=>sq s (lt (t rfl) ci) rfl fun a w s=>nl ?_))
  refine cm s rfl hm (fun hb hm=>?_) (fun hb hm=>?_)
  ·refine se (rg (sq s (sa ci) rfl fun a w s=>sq s (sa ci) rfl fun a w s=>nl ?_))
   obtain rfl:=si hm
   refine wpIn_ret ?_
   exact rn hD s rfl (rv2 (rt rfl) (rt rfl))
  ·refine wpIn_skip ?_
   refine se (rg (sq s (mv (t rfl)) rfl fun a w s=>sq s (sa (t rfl)) rfl fun a w s=>sq s (sa ci) rfl fun a w s=>nl ?_))
   obtain rfl:=si hm
   refine wpIn_ret ?_
   exact rn hD s rfl (rv2 (rt rfl) (rt rfl))
def m55 (f:Nat) (v0:Space) (v1:State):Option (Int×Int):=(m56 f v0).bind fun x1=>(bif (x1 != (0:Int)) then some ((0:Int),x1) else (m121 f ((v0).States) v1).bind fun x2=>(bif (decide (x2 < (0:Int))) then some ((0:Int),(6:Int)) else (m121 f ((v0).States) v1).bind fun x3=>some (x3,(0:Int))))
set_option maxRecDepth 100000 in
theorem s55 (f:Nat) (v0:Space) (v1:State) (r:Int×Int) (hm:m55 f v0 v1=some r):Sp Tryz.prog 55 [Va (v0),Va (v1)] (T2 (Va (r.1)) (Va (r.2))):=by
 unfold m55 at hm
 refine ens Tryz.func55 (by kernel_rfl) rfl Tryz.ntmps55 rfl rfl fun M w_0 a hM hD s=>?_
 refine se (rg (sq s (bx (t rfl)) rfl fun a w s=>sq s (bx (t rfl)) rfl fun a w s=>sq s (sa ci) rfl fun a w s=>sq s (sa ci) rfl fun a w s=>nl ?_))
 refine se ?_
 obtain ⟨x1,hx1,hm⟩:=bs hm
 refine se (rg (sq s (ld (t rfl)) rfl fun a w s=>sq s (cc rfl (oc (t rfl) on) (s56 f _ _ hx1)) rfl fun a w s=>sq s (sa (t rfl)) rfl fun a w s=>nl ?_))
 refine se (rg (sq s (mv (t rfl)) rfl fun a w s=>sq s (ne (t rfl) ci) rfl fun a w s=>nl ?_))
 refine cm s rfl hm (fun hb hm=>?_) (fun hb hm=>?_)
 ·refine se (rg (sq s (mv (t rfl)) rfl fun a w s=>sq s (sa ci) rfl fun a w s=>sq s (sa (t rfl)) rfl fun a w s=>nl ?_))
  obtain rfl:=si hm
  refine wpIn_ret ?_
  exact rn hD s rfl (rv2 (rt rfl) (rt rfl))
 ·refine wpIn_skip ?_
  refine se ?_
  obtain ⟨x2,hx2,hm⟩:=bs hm
  refine se (rg (sq s (fa (f:=Space.States) (t rfl)) rfl fun a w s=>sq s (ld (t rfl)) rfl fun a w s=>sq s (ld (t rfl)) rfl fun a w s=>sq s (cc rfl (oc (t rfl) (oc (t rfl) on)) (s121 f _ _ _ hx2)) rfl fun a w s=>sq s (lt (t rfl) ci) rfl fun a w s=>nl ?_))
  refine cm s rfl hm (fun hb hm=>?_) (fun hb hm=>?_)
  ·refine se (rg (sq s (sa ci) rfl fun a w s=>sq s (sa ci) rfl fun a w s=>nl ?_))
   obtain rfl:=si hm
   refine wpIn_ret ?_
   exact rn hD s rfl (rv2 (rt rfl) (rt rfl))
  ·refine wpIn_skip ?_
   obtain ⟨x3,hx3,hm⟩:=bs hm
   refine se (rg (sq s (fa (f:=Space.States) (t rfl)) rfl fun a w s=>sq s (ld (t rfl)) rfl fun a w s=>sq s (ld (t rfl)) rfl fun a w s=>sq s (cc rfl (oc (t rfl) (oc (t rfl) on)) (s121 f _ _ _ hx3)) rfl fun a w s=>sq s (sa (t rfl)) rfl fun a w s=>sq s (sa ci) rfl fun a w s=>nl ?_))
   obtain rfl:=si hm
   refine wpIn_ret ?_
   exact rn hD s rfl (rv2 (rt rfl) (rt rfl))
def m9 (f:Nat) (v0:Space) (v1:State):Option (Bool):=(m28 f v0).bind fun x1=>(m47 f x1).bind fun x2=>(bif (!x2) then some true else (m48 f v1).bind fun x3=>some (!x3)).bind fun r4=>(bif r4 then (m20 f).bind fun x5=>some x5 else (m49 f v0).bind fun x6=>(m28 f v0).bind fun x7=>(m50 f x7).bind fun x8=>(m51 f v0).bind fun x9=>(m28 f v0).bind fun x10=>(m52 f x10).bind fun x11=>(m53 f x6.1 x8.1).bind fun x12=>(bif ((!x12) || (x6.2 != x8.2)) then some true else (m53 f x9.1 x11.1).bind fun x13=>some (!x13)).bind fun r14=>(bif (r14 || (x9.2 != x11.2)) then some false else (m54 f v0 v1).bind fun x15=>(m28 f v0).bind fun x16=>(m55 f x16 v1).bind fun x17=>(bif ((x15.1 == x17.1) && (x15.2 == x17.2)) then (m20 f).bind fun x18=>some x18 else some false).bind fun r19=>some r19))
set_option maxRecDepth 100000 in
theorem s9 (f:Nat) (v0:Space) (v1:State) (r:Bool) (hm:m9 f v0 v1=some r):Sp Tryz.prog 9 [Va (v0),Va (v1)] (Va (r)):=by
 unfold m9 at hm
 refine ens Tryz.func9 (by kernel_rfl) rfl Tryz.ntmps9 rfl rfl fun M w_0 a hM hD s=>?_
 refine se (rg (sq s (bx (t rfl)) rfl fun a w s=>sq s (bx (t rfl)) rfl fun a w s=>sq s (sa cb) rfl fun a w s=>nl ?_))
 refine se ?_
 obtain ⟨x1,hx1,hm⟩:=bs hm
 obtain ⟨x2,hx2,hm⟩:=bs hm
 obtain ⟨r4,hr4,hm⟩:=bs hm
 have gr4:=gF hr4
 have er4:=gT hr4
 obtain ⟨x3,hx3,gr4⟩:=gx gr4
 refine se (rg (sq s (ld (t rfl)) rfl fun a w s=>sq s (cc rfl (oc (t rfl) on) (s28 f _ _ hx1)) rfl fun a w s=>sq s (cc rfl (oc (t rfl) on) (s47 f _ _ hx2)) rfl fun a w s=>sq s (nt (t rfl)) rfl fun a w s=>sq s (mv (t rfl)) rfl fun a w s=>sg s rfl rfl (fun hb=>(ld (t rfl))) rfl fun a w s=>sg s rfl rfl (fun hb=>(cc rfl (oc (tg rfl hb) on) (s48 f _ _ (hx3 hb)))) rfl fun a w s=>sg s rfl rfl (fun hb=>(nt (tg rfl hb))) rfl fun a w s=>sq s (po (t rfl) rfl (fun h=>si (gr4 h)) (fun h=>(si (er4 h)).symm)) rfl fun a w s=>nl ?_))
 refine cm s rfl hm (fun hb hm=>?_) (fun hb hm=>?_)
 ·obtain ⟨x5,hx5,hm⟩:=bs hm
  refine se (rg (sq s (cc rfl on (s20 f _ hx5)) rfl fun a w s=>sq s (sa (t rfl)) rfl fun a w s=>nl ?_))
  obtain rfl:=si hm
  refine wpIn_ret ?_
  exact rn hD s rfl (rv1 (rt rfl))
 ·refine wpIn_skip ?_
  obtain ⟨x6,hx6,hm⟩:=bs hm
  refine se (rg (sq s (ld (t rfl)) rfl fun a w s=>sq s (cc rfl (oc (t rfl) on) (s49 f _ _ hx6)) rfl fun a w s=>sq s (mve (t rfl)) rfl fun a w s=>sq s (Pn.x20 (t rfl)) rfl fun a w s=>sq s (Pn.x21 (t rfl)) rfl fun a w s=>sq s (sa (t rfl)) rfl fun a w s=>sq s (sa (t rfl)) rfl fun a w s=>nl ?_))
  obtain ⟨x7,hx7,hm⟩:=bs hm
  obtain ⟨x8,hx8,hm⟩:=bs hm
  refine se (rg (sq s (ld (t rfl)) rfl fun a w s=>sq s (cc rfl (oc (t rfl) on) (s28 f _ _ hx7)) rfl fun a w s=>sq s (cc rfl (oc (t rfl) on) (s50 f _ _ hx8)) rfl fun a w s=>sq s (mve (t rfl)) rfl fun a w s=>sq s (Pn.x20 (t rfl)) rfl fun a w s=>sq s (Pn.x21 (t rfl)) rfl fun a w s=>sq s (sa (t rfl)) rfl fun a w s=>sq s (sa (t rfl)) rfl fun a w s=>nl ?_))
  obtain ⟨x9,hx9,hm⟩:=bs hm
  refine se (rg (sq s (ld (t rfl)) rfl fun a w s=>sq s (cc rfl (oc (t rfl) on) (s51 f _ _ hx9)) rfl fun a w s=>sq s (mve (t rfl)) rfl fun a w s=>sq s (Pn.x20 (t rfl)) rfl fun a w s=>sq s (Pn.x21 (t rfl)) rfl fun a w s=>sq s (sa (t rfl)) rfl fun a w s=>sq s (sa (t rfl)) rfl fun a w s=>nl ?_))
  obtain ⟨x10,hx10,hm⟩:=bs hm
  obtain ⟨x11,hx11,hm⟩:=bs hm
  refine se (rg (sq s (ld (t rfl)) rfl fun a w s=>sq s (cc rfl (oc (t rfl) on) (s28 f _ _ hx10)) rfl fun a w s=>sq s (cc rfl (oc (t rfl) on) (s52 f _ _ hx11)) rfl fun a w s=>sq s (mve (t rfl)) rfl fun a w s=>sq s (Pn.x20 (t rfl)) rfl fun a w s=>sq s (Pn.x21 (t rfl)) rfl fun a w s=>sq s (sa (t rfl)) rfl fun a w s=>sq s (sa (t rfl)) rfl fun a w s=>nl ?_))
  refine se ?_
  obtain ⟨x12,hx12,hm⟩:=bs hm
  obtain ⟨r14,hr14,hm⟩:=bs hm
  have gr14:=gF hr14
  have er14:=gT hr14
  obtain ⟨x13,hx13,gr14⟩:=gx gr14
  refine se (rg (sq s (mv (t rfl)) rfl fun a w s=>sq s (mv (t rfl)) rfl fun a w s=>sq s (cc rfl (oc (t rfl) (oc (t rfl) on)) (s53 f _ _ _ hx12)) rfl fun a w s=>sq s (nt (t rfl)) rfl fun a w s=>sq s (mv (t rfl)) rfl fun a w s=>sg s rfl rfl (fun hb=>(mv (t rfl))) rfl fun a w s=>sg s rfl rfl (fun hb=>(mv (t rfl))) rfl fun a w s=>sg s rfl rfl (fun hb=>(ne (tg rfl hb) (tg rfl hb))) rfl fun a w s=>sq s (poP (t rfl) rfl) rfl fun a w s=>sq s (mv (t rfl)) rfl fun a w s=>sg s rfl rfl (fun hb=>(mv (t rfl))) rfl fun a w s=>sg s rfl rfl (fun hb=>(mv (t rfl))) rfl fun a w s=>sg s rfl rfl (fun hb=>(cc rfl (oc (tg rfl hb) (oc (tg rfl hb) on)) (s53 f _ _ _ (hx13 hb)))) rfl fun a w s=>sg s rfl rfl (fun hb=>(nt (tg rfl hb))) rfl fun a w s=>sq s (po (t rfl) rfl (fun h=>si (gr14 h)) (fun h=>(si (er14 h)).symm)) rfl fun a w s=>sq s (mv (t rfl)) rfl fun a w s=>sg s rfl rfl (fun hb=>(mv (t rfl))) rfl fun a w s=>sg s rfl rfl (fun hb=>(mv (t rfl))) rfl fun a w s=>sg s rfl rfl (fun hb=>(ne (tg rfl hb) (tg rfl hb))) rfl fun a w s=>sq s (poP (t rfl) rfl) rfl fun a w s=>nl ?_))
  refine cm s rfl hm (fun hb hm=>?_) (fun hb hm=>?_)
  ·refine se (rg (sq s (sa cb) rfl fun a w s=>nl ?_))
   obtain rfl:=si hm
   refine wpIn_ret ?_
   exact rn hD s rfl (rv1 (rt rfl))
  ·refine wpIn_skip ?_
   obtain ⟨x15,hx15,hm⟩:=bs hm
   refine se (rg (sq s (ld (t rfl)) rfl fun a w s=>sq s (ld (t rfl)) rfl fun a w s=>sq s (cc rfl (oc (t rfl) (oc (t rfl) on)) (s54 f _ _ _ hx15)) rfl fun a w s=>sq s (mve (t rfl)) rfl fun a w s=>sq s (Pn.x20 (t rfl)) rfl fun a w s=>sq s (Pn.x21 (t rfl)) rfl fun a w s=>sq s (sa (t rfl)) rfl fun a w s=>sq s (sa (t rfl)) rfl fun a w s=>nl ?_))
   obtain ⟨x16,hx16,hm⟩:=bs hm
   obtain ⟨x17,hx17,hm⟩:=bs hm
   refine se (flow2 [] [0,1,2,3,4,5] [74,75,76,77,73,78] [73] [] [79] [(7,[]),(8,[79])] s (.skip (.skip (.late (.cons (.cons (.cons (.cons (.cons (.cons .nil rfl rfl (ld (t rfl))) rfl rfl (cc rfl (oc (t rfl) on) (s28 f _ _ hx16))) rfl rfl (ld (t rfl))) rfl rfl (cc rfl (oc (t rfl) (oc (t rfl) on)) (s55 f _ _ _ hx17))) rfl rfl (mve (t rfl))) rfl rfl (Pn.x20 (t rfl))) rfl rfl (Pn.x21 (t rfl))) rfl) rfl) (by kernel_rfl) (by kernel_rfl) rfl rfl sb0 rfl (by decide) rfl rfl ?_)
   refine ⟨⟨fun _=>rfl,rfl,.inr ⟨sb0,(sb1 rfl sb0),sn0⟩⟩,by kernel_rfl,_,rfl,fun Ψ a w s=>sq s (sa (t rfl)) rfl fun a w s=>nl ?_⟩
   refine nxt Ψ s ?_
   refine ⟨⟨fun _=>rfl,rfl,.inr ⟨sb0,(sb1 rfl sb0),sn0⟩⟩,by kernel_rfl,_,rfl,fun Ψ a w s=>sq s (sa (t rfl)) rfl fun a w s=>nl ?_⟩
   refine nxt Ψ s ?_
   refine ⟨⟨fun _=>rfl,rfl,.inl rfl⟩,fun a w s=>?_⟩
   replace s:St M w_0 91 [(0,Va (v0)),(1,Va (v1)),(2,Pt (v0)),(3,Pt (v1)),(4,Va (false)),(5,Va (x6.1)),(6,Va (x15.2)),(7,Va (x8.1)),(8,Va (x17.2)),(9,Va (x9.1)),(10,Va (x9.2)),(11,Va (x11.1)),(12,Va (x11.2)),(13,Va (x15.1)),(14,Va (x17.1))] a w:=s.pick [0,1,2,3,4,5,6,7,8,9,10,11,12,13,14]
   obtain ⟨r19,hr19,hm⟩:=bs hm
   have gr19:=gT hr19
   have er19:=gF hr19
   obtain ⟨x18,hx18,gr19⟩:=gx gr19
   refine se (rg (sq s (mv (t rfl)) rfl fun a w s=>sq s (mv (t rfl)) rfl fun a w s=>sq s (eq (t rfl) (t rfl)) rfl fun a w s=>sq s (mv (t rfl)) rfl fun a w s=>sg s rfl rfl (fun hb=>(mv (t rfl))) rfl fun a w s=>sg s rfl rfl (fun hb=>(mv (t rfl))) rfl fun a w s=>sg s rfl rfl (fun hb=>(eq (tg rfl hb) (tg rfl hb))) rfl fun a w s=>sq s (paP (t rfl) rfl) rfl fun a w s=>sq s (mv (t rfl)) rfl fun a w s=>sg s rfl rfl (fun hb=>(cc rfl on (s20 f _ (hx18 hb)))) rfl fun a w s=>sq s (pa (t rfl) rfl (fun h=>si (gr19 h)) (fun h=>(si (er19 h)).symm)) rfl fun a w s=>sq s (sa (t rfl)) rfl fun a w s=>nl ?_))
   obtain rfl:=si hm
   refine wpIn_ret ?_
   exact rn hD s rfl (rv1 (rt rfl))
def m124_l1 (v0:List Int) (v1:Int):Nat→Int→Option (Lo (Int) (Int))
 | 0,_=>none
 | n+1,z1=>(bif (decide (z1 < (v0.length:Int))) then (idx v0 z1).bind fun x3=>(bif (v1 == x3) then some (.ret z1) else m124_l1 v0 v1 n (wr (z1 + (1:Int)))) else some (.brk z1))
def m124 (f:Nat) (v0:List Int) (v1:Int):Option (Int):=((m124_l1 v0 v1 f (0:Int)).bind fun o2=>match o2 with | .brk o2s=>some (-1:Int) | .ret r=>some r)
set_option maxRecDepth 100000 in
theorem s124 (f:Nat) (v0:List Int) (v1:Int) (r:Int) (hm:m124 f v0 v1=some r):Sp Tryz.prog 124 [Va (v0),Va (v1)] (Va (r)):=by
 unfold m124 at hm
 refine ens Tryz.func124 (by kernel_rfl) rfl Tryz.ntmps124 rfl rfl fun M w_0 a hM hD s=>?_
 refine se (rg (sq s (sa ci) rfl fun a w s=>nl ?_))
 refine se ?_
 refine se (rg (sq s (mv (t rfl)) rfl fun a w s=>sq s (ln (t rfl)) rfl fun a w s=>sq s (mv ci) rfl fun a w s=>nl ?_))
 obtain ⟨o2,hoo2,hko2⟩:=bs hm
 refine lcI o2 (fun o2s a w=>St M w_0 19 [(0,Va (v0)),(1,Va (v1)),(4,Va ((0:Int))),(7,Va ((v0.length:Int))),(8,Va (o2s))] a w) ?_ fun o2s a w ho s=>?_
 ·refine wpIn_block ?_
  refine loI (fun n z1=>m124_l1 v0 v1 n z1) o2 (fun z1 a w=>St M w_0 19 [(0,Va (v0)),(1,Va (v1)),(4,Va ((0:Int))),(7,Va ((v0.length:Int))),(8,Va (z1))] a w) f (0:Int) (s.pick [0,1,4,7,8]) hoo2 (fun _=>rfl) fun n z1 a w hm s=>?_
  replace hm:m124_l1 v0 v1 (n + 1) z1=some o2:=hm
  unfold m124_l1 at hm
  refine se (rg (sq s (lt (t rfl) (t rfl)) rfl fun a w s=>nl ?_))
  refine se ?_
  refine cm s rfl hm (fun hb hm=>?_) (fun hb hm=>?_)
  ·refine wpIn_skip ?_
   refine se ?_
   refine wpIn_block ?_
   refine se (rg (sq s (mv (t rfl)) rfl fun a w s=>sq s (sa (t rfl)) rfl fun a w s=>nl ?_))
   obtain ⟨x3,hx3,hm⟩:=bs hm
   refine se (rg (sq s (mv (t rfl)) rfl fun a w s=>sq s (mv (t rfl)) rfl fun a w s=>sq s (mv (t rfl)) rfl fun a w s=>sq s (ix (t rfl) (t rfl) hx3) rfl fun a w s=>sq s (ld (t rfl)) rfl fun a w s=>sq s (eq (t rfl) (t rfl)) rfl fun a w s=>nl ?_))
   refine cm s rfl hm (fun hb hm=>?_) (fun hb hm=>?_)
   ·refine se (rg (sq s (mv (t rfl)) rfl fun a w s=>sq s (sa (t rfl)) rfl fun a w s=>nl ?_))
    obtain rfl:=si hm
    replace hm:=hko2
    dsimp only at hm
    obtain rfl:=si hm
    refine wpIn_ret ?_
    exact rn hD s rfl (rv1 (rt rfl))
   ·refine wpIn_skip ?_
    refine rg (sq s (ad (t rfl) ci) rfl fun a w s=>sq s (mv (t rfl)) rfl fun a w s=>nl ?_)
    exact ⟨_,hm,s.pick [0,1,4,7,8]⟩
  ·refine wpIn_exit ?_
   exact ⟨_,(si hm).symm,s.pick [0,1,4,7,8]⟩
 ·subst ho
  replace hm:=hko2
  dsimp only at hm
  refine se (rg (sq s (sa ci) rfl fun a w s=>nl ?_))
  obtain rfl:=si hm
  refine wpIn_ret ?_
  exact rn hD s rfl (rv1 (rt rfl))
def m58 (f:Nat) (v0:List Int) (v1:Int):Option (Bool):=(m124 f v0 v1).bind fun x1=>some (decide (x1≥(0:Int)))
set_option maxRecDepth 100000 in
theorem s58 (f:Nat) (v0:List Int) (v1:Int) (r:Bool) (hm:m58 f v0 v1=some r):Sp Tryz.prog 58 [Va (v0),Va (v1)] (Va (r)):=by
 unfold m58 at hm
 refine ens Tryz.func58 (by kernel_rfl) rfl Tryz.ntmps58 rfl rfl fun M w_0 a hM hD s=>?_
 refine se (rg (sq s (sa cb) rfl fun a w s=>nl ?_))
 obtain ⟨x1,hx1,hm⟩:=bs hm
 refine se (rg (sq s (mv (t rfl)) rfl fun a w s=>sq s (mv (t rfl)) rfl fun a w s=>sq s (cc rfl (oc (t rfl) (oc (t rfl) on)) (s124 f _ _ _ hx1)) rfl fun a w s=>sq s (ge (t rfl) ci) rfl fun a w s=>sq s (sa (t rfl)) rfl fun a w s=>nl ?_))
 obtain rfl:=si hm
 refine wpIn_ret ?_
 exact rn hD s rfl (rv1 (rt rfl))
def m10_l3 (f:Nat) (x7:(List Int)×Int) (x17:List Int):Nat→Int→Option (Lo (Int) (Bool))
 | 0,_=>none
 | n+1,z18=>(bif (decide (z18 < (x17.length:Int))) then (idx x17 z18).bind fun x20=>(m58 f x7.1 x20).bind fun x21=>(bif (!x21) then some (.ret false) else m10_l3 f x7 x17 n (wr (z18 + (1:Int)))) else some (.brk z18))
def m10_l2 (f:Nat) (v0:Space) (x7:(List Int)×Int):Nat→Int→Option (Lo (Int) (Bool))
 | 0,_=>none
 | n+1,z14=>(bif (decide (z14 < (x7.1.length:Int))) then (idx x7.1 z14).bind fun x16=>(bif ((decide (x16 < (0:Int))) || (decide (x16≥(((v0).Moves).length:Int)))) then some (.ret false) else (idx ((v0).Moves) x16).bind fun x17=>((m10_l3 f x7 x17 f (0:Int)).bind fun o19=>match o19 with | .brk o19s=>m10_l2 f v0 x7 n (wr (z14 + (1:Int))) | .ret r=>some (.ret r))) else some (.brk z14))
def m10_l1 (f:Nat) (v0:Space) (x7:(List Int)×Int) (x8:(List Int)×Int):Nat→Int→Option (Lo (Int) (Bool))
 | 0,_=>none
 | n+1,z9=>(bif (decide (z9 < (x8.1.length:Int))) then (idx x8.1 z9).bind fun x11=>(m57 f v0 x11).bind fun x12=>(m58 f x7.1 x11).bind fun x13=>(bif (x13 != (x12.2 == (0:Int))) then some (.ret false) else m10_l1 f v0 x7 x8 n (wr (z9 + (1:Int)))) else some (.brk z9))
def m10 (f:Nat) (v0:Space):Option (Bool):=(m28 f v0).bind fun x1=>(m47 f x1).bind fun x2=>(bif (!x2) then some true else (m28 f v0).bind fun x3=>(m56 f x3).bind fun x4=>some (x4 != (0:Int))).bind fun r5=>(bif r5 then (m20 f).bind fun x6=>some x6 else (m51 f v0).bind fun x7=>(m49 f v0).bind fun x8=>(bif (((wr (x7.2 + x8.2)) != (0:Int)) || ((x7.1.length:Int) == (0:Int))) then some false else ((m10_l1 f v0 x7 x8 f (0:Int)).bind fun o10=>match o10 with | .brk o10s=>((m10_l2 f v0 x7 f (0:Int)).bind fun o15=>match o15 with | .brk o15s=>(m20 f).bind fun x22=>some x22 | .ret r=>some r) | .ret r=>some r)))
set_option maxRecDepth 100000 in
set_option maxHeartbeats 2000000 in
theorem s10 (f:Nat) (v0:Space) (r:Bool) (hm:m10 f v0=some r):Sp Tryz.prog 10 [Va (v0)] (Va (r)):=by
 unfold m10 at hm
 refine ens Tryz.func10 (by kernel_rfl) rfl Tryz.ntmps10 rfl rfl fun M w_0 a hM hD s=>?_
 refine se (rg (sq s (bx (t rfl)) rfl fun a w s=>sq s (sa cb) rfl fun a w s=>nl ?_))
 refine se ?_
 obtain ⟨x1,hx1,hm⟩:=bs hm
 obtain ⟨x2,hx2,hm⟩:=bs hm
 obtain ⟨r5,hr5,hm⟩:=bs hm
 have gr5:=gF hr5
 have er5:=gT hr5
 obtain ⟨x3,hx3,gr5⟩:=gx gr5
 obtain ⟨x4,hx4,gr5⟩:=gx gr5
 refine se (rg (sq s (ld (t rfl)) rfl fun a w s=>sq s (cc rfl (oc (t rfl) on) (s28 f _ _ hx1)) rfl fun a w s=>sq s (cc rfl (oc (t rfl) on) (s47 f _ _ hx2)) rfl fun a w s=>sq s (nt (t rfl)) rfl fun a w s=>sq s (mv (t rfl)) rfl fun a w s=>sg s rfl rfl (fun hb=>(ld (t rfl))) rfl fun a w s=>sg s rfl rfl (fun hb=>(cc rfl (oc (tg rfl hb) on) (s28 f _ _ (hx3 hb)))) rfl fun a w s=>sg s rfl rfl (fun hb=>(cc rfl (oc (tg rfl hb) on) (s56 f _ _ (hx4 hb)))) rfl fun a w s=>sg s rfl rfl (fun hb=>(ne (tg rfl hb) ci)) rfl fun a w s=>sq s (po (t rfl) rfl (fun h=>si (gr5 h)) (fun h=>(si (er5 h)).symm)) rfl fun a w s=>nl ?_))
 refine cm s rfl hm (fun hb hm=>?_) (fun hb hm=>?_)
 ·obtain ⟨x6,hx6,hm⟩:=bs hm
  refine se (rg (sq s (cc rfl on (s20 f _ hx6)) rfl fun a w s=>sq s (sa (t rfl)) rfl fun a w s=>nl ?_))
  obtain rfl:=si hm
  refine wpIn_ret ?_
  exact rn hD s rfl (rv1 (rt rfl))
 ·refine wpIn_skip ?_
  obtain ⟨x7,hx7,hm⟩:=bs hm
  refine se (rg (sq s (ld (t rfl)) rfl fun a w s=>sq s (cc rfl (oc (t rfl) on) (s51 f _ _ hx7)) rfl fun a w s=>sq s (mve (t rfl)) rfl fun a w s=>sq s (Pn.x20 (t rfl)) rfl fun a w s=>sq s (Pn.x21 (t rfl)) rfl fun a w s=>sq s (sa (t rfl)) rfl fun a w s=>sq s (sa (t rfl)) rfl fun a w s=>nl ?_))
  obtain ⟨x8,hx8,hm⟩:=bs hm
  refine se (rg (sq s (ld (t rfl)) rfl fun a w s=>sq s (cc rfl (oc (t rfl) on) (s49 f _ _ hx8)) rfl fun a w s=>sq s (mve (t rfl)) rfl fun a w s=>sq s (Pn.x20 (t rfl)) rfl fun a w s=>sq s (Pn.x21 (t rfl)) rfl fun a w s=>sq s (sa (t rfl)) rfl fun a w s=>sq s (sa (t rfl)) rfl fun a w s=>nl ?_))
  refine se ?_
  refine se (rg (sq s (mv (t rfl)) rfl fun a w s=>sq s (mv (t rfl)) rfl fun a w s=>sq s (ad (t rfl) (t rfl)) rfl fun a w s=>sq s (ne (t rfl) ci) rfl fun a w s=>sq s (mv (t rfl)) rfl fun a w s=>sg s rfl rfl (fun hb=>(mv (t rfl))) rfl fun a w s=>sg s rfl rfl (fun hb=>(ln (tg rfl hb))) rfl fun a w s=>sg s rfl rfl (fun hb=>(eq (tg rfl hb) ci)) rfl fun a w s=>sq s (poP (t rfl) rfl) rfl fun a w s=>nl ?_))
  refine cm s rfl hm (fun hb hm=>?_) (fun hb hm=>?_)
  ·refine se (rg (sq s (sa cb) rfl fun a w s=>nl ?_))
   obtain rfl:=si hm
   refine wpIn_ret ?_
   exact rn hD s rfl (rv1 (rt rfl))
  ·refine wpIn_skip ?_
   refine se ?_
   refine se (rg (sq s (mv (t rfl)) rfl fun a w s=>sq s (ln (t rfl)) rfl fun a w s=>sq s (mv ci) rfl fun a w s=>nl ?_))
   obtain ⟨o10,hoo10,hko10⟩:=bs hm
   refine lcI o10 (fun o10s a w=>St M w_0 96 [(0,Va (v0)),(1,Pt (v0)),(2,Va (false)),(3,Va (x7.1)),(4,Va (x7.2)),(5,Va (x8.1)),(6,Va (x8.2)),(45,Va (x8.1)),(46,Va ((x8.1.length:Int))),(47,Va (o10s))] a w) ?_ fun o10s a w ho s=>?_
   ·refine wpIn_block ?_
    refine loI (fun n z9=>m10_l1 f v0 x7 x8 n z9) o10 (fun z9 a w=>St M w_0 96 [(0,Va (v0)),(1,Pt (v0)),(2,Va (false)),(3,Va (x7.1)),(4,Va (x7.2)),(5,Va (x8.1)),(6,Va (x8.2)),(45,Va (x8.1)),(46,Va ((x8.1.length:Int))),(47,Va (z9))] a w) f (0:Int) (s.pick [0,1,2,3,4,5,6,45,46,47]) hoo10 (fun _=>rfl) fun n z9 a w hm s=>?_
    replace hm:m10_l1 f v0 x7 x8 (n + 1) z9=some o10:=hm
    unfold m10_l1 at hm
    refine se (rg (sq s (lt (t rfl) (t rfl)) rfl fun a w s=>nl ?_))
    refine se ?_
    refine cm s rfl hm (fun hb hm=>?_) (fun hb hm=>?_)
    ·refine wpIn_skip ?_
     refine se ?_
     refine wpIn_block ?_
     obtain ⟨x11,hx11,hm⟩:=bs hm
     refine se (rg (sq s (ix (t rfl) (t rfl) hx11) rfl fun a w s=>sq s (ld (t rfl)) rfl fun a w s=>sq s (sa (t rfl)) rfl fun a w s=>nl ?_))
     obtain ⟨x12,hx12,hm⟩:=bs hm
     refine se (rg (sq s (ld (t rfl)) rfl fun a w s=>sq s (mv (t rfl)) rfl fun a w s=>sq s (cc rfl (oc (t rfl) (oc (t rfl) on)) (s57 f _ _ _ hx12)) rfl fun a w s=>sq s (mve (t rfl)) rfl fun a w s=>sq s (Pn.x20 (t rfl)) rfl fun a w s=>sq s (Pn.x21 (t rfl)) rfl fun a w s=>sq s (sa (t rfl)) rfl fun a w s=>sq s (sa (t rfl)) rfl fun a w s=>nl ?_))
     obtain ⟨x13,hx13,hm⟩:=bs hm
     refine se (rg (sq s (mv (t rfl)) rfl fun a w s=>sq s (mv (t rfl)) rfl fun a w s=>sq s (cc rfl (oc (t rfl) (oc (t rfl) on)) (s58 f _ _ _ hx13)) rfl fun a w s=>sq s (mv (t rfl)) rfl fun a w s=>sq s (eq (t rfl) ci) rfl fun a w s=>sq s (bne (t rfl) (t rfl) Tryz.underlying4) rfl fun a w s=>nl ?_))
     refine cm s rfl hm (fun hb hm=>?_) (fun hb hm=>?_)
     ·refine se (rg (sq s (sa cb) rfl fun a w s=>nl ?_))
      obtain rfl:=si hm
      replace hm:=hko10
      dsimp only at hm
      obtain rfl:=si hm
      refine wpIn_ret ?_
      exact rn hD s rfl (rv1 (rt rfl))
     ·refine wpIn_skip ?_
      refine rg (sq s (ad (t rfl) ci) rfl fun a w s=>sq s (mv (t rfl)) rfl fun a w s=>nl ?_)
      exact ⟨_,hm,s.pick [0,1,2,3,4,5,6,45,46,47]⟩
    ·refine wpIn_exit ?_
     exact ⟨_,(si hm).symm,s.pick [0,1,2,3,4,5,6,45,46,47]⟩
   ·subst ho
    replace hm:=hko10
    dsimp only at hm
    refine se ?_
    refine se (rg (sq s (mv (t rfl)) rfl fun a w s=>sq s (ln (t rfl)) rfl fun a w s=>sq s (mv ci) rfl fun a w s=>nl ?_))
    obtain ⟨o15,hoo15,hko15⟩:=bs hm
    refine lcI o15 (fun o15s a w=>St M w_0 96 [(0,Va (v0)),(1,Pt (v0)),(2,Va (false)),(3,Va (x7.1)),(4,Va (x7.2)),(5,Va (x8.1)),(6,Va (x8.2)),(45,Va (x8.1)),(46,Va ((x8.1.length:Int))),(47,Va (o10s)),(64,Va (x7.1)),(65,Va ((x7.1.length:Int))),(66,Va (o15s))] a w) ?_ fun o15s a w ho s=>?_
    ·refine wpIn_block ?_
     refine loI (fun n z14=>m10_l2 f v0 x7 n z14) o15 (fun z14 a w=>St M w_0 96 [(0,Va (v0)),(1,Pt (v0)),(2,Va (false)),(3,Va (x7.1)),(4,Va (x7.2)),(5,Va (x8.1)),(6,Va (x8.2)),(45,Va (x8.1)),(46,Va ((x8.1.length:Int))),(47,Va (o10s)),(64,Va (x7.1)),(65,Va ((x7.1.length:Int))),(66,Va (z14))] a w) f (0:Int) (s.pick [0,1,2,3,4,5,6,45,46,47,64,65,66]) hoo15 (fun _=>rfl) fun n z14 a w hm s=>?_
     replace hm:m10_l2 f v0 x7 (n + 1) z14=some o15:=hm
     unfold m10_l2 at hm
     refine se (rg (sq s (lt (t rfl) (t rfl)) rfl fun a w s=>nl ?_))
     refine se ?_
     refine cm s rfl hm (fun hb hm=>?_) (fun hb hm=>?_)
     ·refine wpIn_skip ?_
      refine se ?_
      refine wpIn_block ?_
      obtain ⟨x16,hx16,hm⟩:=bs hm
      refine se (rg (sq s (ix (t rfl) (t rfl) hx16) rfl fun a w s=>sq s (ld (t rfl)) rfl fun a w s=>sq s (sa (t rfl)) rfl fun a w s=>nl ?_))
      refine se ?_
      refine se (rg (sq s (mv (t rfl)) rfl fun a w s=>sq s (lt (t rfl) ci) rfl fun a w s=>sq s (mv (t rfl)) rfl fun a w s=>sg s rfl rfl (fun hb=>(mv (t rfl))) rfl fun a w s=>sg s rfl rfl (fun hb=>(fa (f:=Space.Moves) (t rfl))) rfl fun a w s=>sg s rfl rfl (fun hb=>(ld (tg rfl hb))) rfl fun a w s=>sg s rfl rfl (fun hb=>(ln (tg rfl hb))) rfl fun a w s=>sg s rfl rfl (fun hb=>(ge (tg rfl hb) (tg rfl hb))) rfl fun a w s=>sq s (poP (t rfl) rfl) rfl fun a w s=>nl ?_))
      refine cm s rfl hm (fun hb hm=>?_) (fun hb hm=>?_)
      ·refine se (rg (sq s (sa cb) rfl fun a w s=>nl ?_))
       obtain rfl:=si hm
       replace hm:=hko15
       dsimp only at hm
       obtain rfl:=si hm
       refine wpIn_ret ?_
       exact rn hD s rfl (rv1 (rt rfl))
      ·refine wpIn_skip ?_
       obtain ⟨x17,hx17,hm⟩:=bs hm
       refine se (rg (sq s (fa (f:=Space.Moves) (t rfl)) rfl fun a w s=>sq s (ld (t rfl)) rfl fun a w s=>sq s (mv (t rfl)) rfl fun a w s=>sq s (ix (t rfl) (t rfl) hx17) rfl fun a w s=>sq s (ld (t rfl)) rfl fun a w s=>sq s (ln (t rfl)) rfl fun a w s=>sq s (mv ci) rfl fun a w s=>nl ?_))
       obtain ⟨o19,hoo19,hko19⟩:=bs hm
       refine lcI o19 (fun o19s a w=>St M w_0 96 [(0,Va (v0)),(1,Pt (v0)),(2,Va (false)),(3,Va (x7.1)),(4,Va (x7.2)),(5,Va (x8.1)),(6,Va (x8.2)),(12,Va (x16)),(45,Va (x8.1)),(46,Va ((x8.1.length:Int))),(47,Va (o10s)),(64,Va (x7.1)),(65,Va ((x7.1.length:Int))),(66,Va (z14)),(83,Va (x17)),(84,Va ((x17.length:Int))),(85,Va (o19s))] a w) ?_ fun o19s a w ho s=>?_
       ·refine wpIn_block ?_
        refine loI (fun n z18=>m10_l3 f x7 x17 n z18) o19 (fun z18 a w=>St M w_0 96 [(0,Va (v0)),(1,Pt (v0)),(2,Va (false)),(3,Va (x7.1)),(4,Va (x7.2)),(5,Va (x8.1)),(6,Va (x8.2)),(12,Va (x16)),(45,Va (x8.1)),(46,Va ((x8.1.length:Int))),(47,Va (o10s)),(64,Va (x7.1)),(65,Va ((x7.1.length:Int))),(66,Va (z14)),(83,Va (x17)),(84,Va ((x17.length:Int))),(85,Va (z18))] a w) f (0:Int) (s.pick [0,1,2,3,4,5,6,12,45,46,47,64,65,66,83,84,85]) hoo19 (fun _=>rfl) fun n z18 a w hm s=>?_
        replace hm:m10_l3 f x7 x17 (n + 1) z18=some o19:=hm
        unfold m10_l3 at hm
        refine se (rg (sq s (lt (t rfl) (t rfl)) rfl fun a w s=>nl ?_))
        refine se ?_
        refine cm s rfl hm (fun hb hm=>?_) (fun hb hm=>?_)
        ·refine wpIn_skip ?_
         refine se ?_
         refine wpIn_block ?_
         obtain ⟨x20,hx20,hm⟩:=bs hm
         refine se (rg (sq s (ix (t rfl) (t rfl) hx20) rfl fun a w s=>sq s (ld (t rfl)) rfl fun a w s=>sq s (sa (t rfl)) rfl fun a w s=>nl ?_))
         obtain ⟨x21,hx21,hm⟩:=bs hm
         refine se (rg (sq s (mv (t rfl)) rfl fun a w s=>sq s (mv (t rfl)) rfl fun a w s=>sq s (cc rfl (oc (t rfl) (oc (t rfl) on)) (s58 f _ _ _ hx21)) rfl fun a w s=>sq s (nt (t rfl)) rfl fun a w s=>nl ?_))
         refine cm s rfl hm (fun hb hm=>?_) (fun hb hm=>?_)
         ·refine se (rg (sq s (sa cb) rfl fun a w s=>nl ?_))
          obtain rfl:=si hm
          replace hm:=hko19
          dsimp only at hm
          obtain rfl:=si hm
          replace hm:=hko15
          dsimp only at hm
          obtain rfl:=si hm
          refine wpIn_ret ?_
          exact rn hD s rfl (rv1 (rt rfl))
         ·refine wpIn_skip ?_
          refine rg (sq s (ad (t rfl) ci) rfl fun a w s=>sq s (mv (t rfl)) rfl fun a w s=>nl ?_)
          exact ⟨_,hm,s.pick [0,1,2,3,4,5,6,12,45,46,47,64,65,66,83,84,85]⟩
        ·refine wpIn_exit ?_
         exact ⟨_,(si hm).symm,s.pick [0,1,2,3,4,5,6,12,45,46,47,64,65,66,83,84,85]⟩
       ·subst ho
        replace hm:=hko19
        dsimp only at hm
        refine rg (sq s (ad (t rfl) ci) rfl fun a w s=>sq s (mv (t rfl)) rfl fun a w s=>nl ?_)
        exact ⟨_,hm,s.pick [0,1,2,3,4,5,6,45,46,47,64,65,66]⟩
     ·refine wpIn_exit ?_
      exact ⟨_,(si hm).symm,s.pick [0,1,2,3,4,5,6,45,46,47,64,65,66]⟩
    ·subst ho
     replace hm:=hko15
     dsimp only at hm
     obtain ⟨x22,hx22,hm⟩:=bs hm
     refine se (rg (sq s (cc rfl on (s20 f _ hx22)) rfl fun a w s=>sq s (sa (t rfl)) rfl fun a w s=>nl ?_))
     obtain rfl:=si hm
     refine wpIn_ret ?_
     exact rn hD s rfl (rv1 (rt rfl))
def m60_l1 (v0:Space) (v1:List Int):Nat→(Int×Int)→Option (Lo (Int×Int) (Int×Int))
 | 0,_=>none
 | n+1,z2=>(bif (decide (z2.2 < (v1.length:Int))) then (idx v1 z2.2).bind fun x4=>(bif (decide (x4 < (0:Int))) then some true else (idx ((v0).Moves) z2.1).bind fun x5=>some (decide (x4≥(x5.length:Int)))).bind fun r6=>(bif r6 then some (.ret ((0:Int),(6:Int))) else (idx ((v0).Moves) z2.1).bind fun x7=>(idx x7 x4).bind fun x8=>m60_l1 v0 v1 n (x8,(wr (z2.2 + (1:Int))))) else some (.brk (z2.1,z2.2)))
def m60 (f:Nat) (v0:Space) (v1:List Int):Option (Int×Int):=(m114 f v0).bind fun x1=>(bif (x1 != (0:Int)) then some ((0:Int),x1) else ((m60_l1 v0 v1 f ((0:Int),(0:Int))).bind fun o3=>match o3 with | .brk o3s=>some (o3s.1,(0:Int)) | .ret r=>some r))
set_option maxRecDepth 100000 in
theorem s60 (f:Nat) (v0:Space) (v1:List Int) (r:Int×Int) (hm:m60 f v0 v1=some r):Sp Tryz.prog 60 [Va (v0),Va (v1)] (T2 (Va (r.1)) (Va (r.2))):=by
 unfold m60 at hm
 refine ens Tryz.func60 (by kernel_rfl) rfl Tryz.ntmps60 rfl rfl fun M w_0 a hM hD s=>?_
 refine se (rg (sq s (bx (t rfl)) rfl fun a w s=>sq s (sa ci) rfl fun a w s=>sq s (sa ci) rfl fun a w s=>nl ?_))
 refine se ?_
 obtain ⟨x1,hx1,hm⟩:=bs hm
 refine se (rg (sq s (ld (t rfl)) rfl fun a w s=>sq s (cc rfl (oc (t rfl) on) (s114 f _ _ hx1)) rfl fun a w s=>sq s (sa (t rfl)) rfl fun a w s=>nl ?_))
 refine se (rg (sq s (mv (t rfl)) rfl fun a w s=>sq s (ne (t rfl) ci) rfl fun a w s=>nl ?_))
 refine cm s rfl hm (fun hb hm=>?_) (fun hb hm=>?_)
 ·refine se (rg (sq s (mv (t rfl)) rfl fun a w s=>sq s (sa ci) rfl fun a w s=>sq s (sa (t rfl)) rfl fun a w s=>nl ?_))
  obtain rfl:=si hm
  refine wpIn_ret ?_
  exact rn hD s rfl (rv2 (rt rfl) (rt rfl))
 ·refine wpIn_skip ?_
  refine se (rg (sq s (sa ci) rfl fun a w s=>nl ?_))
  refine se ?_
  refine se (rg (sq s (mv (t rfl)) rfl fun a w s=>sq s (ln (t rfl)) rfl fun a w s=>sq s (mv ci) rfl fun a w s=>nl ?_))
  obtain ⟨o3,hoo3,hko3⟩:=bs hm
  refine lcI o3 (fun o3s a w=>St M w_0 43 [(0,Va (v0)),(1,Va (v1)),(2,Pt (v0)),(4,Va ((0:Int))),(5,Va ((0:Int))),(6,Va (x1)),(7,Va (o3s.1)),(15,Va (v1)),(16,Va ((v1.length:Int))),(17,Va (o3s.2))] a w) ?_ fun o3s a w ho s=>?_
  ·refine wpIn_block ?_
   refine loI (fun n z2=>m60_l1 v0 v1 n z2) o3 (fun z2 a w=>St M w_0 43 [(0,Va (v0)),(1,Va (v1)),(2,Pt (v0)),(4,Va ((0:Int))),(5,Va ((0:Int))),(6,Va (x1)),(7,Va (z2.1)),(15,Va (v1)),(16,Va ((v1.length:Int))),(17,Va (z2.2))] a w) f ((0:Int),(0:Int)) (s.pick [0,1,2,4,5,6,7,15,16,17]) hoo3 (fun _=>rfl) fun n z2 a w hm s=>?_
   replace hm:m60_l1 v0 v1 (n + 1) z2=some o3:=hm
   unfold m60_l1 at hm
   refine se (rg (sq s (lt (t rfl) (t rfl)) rfl fun a w s=>nl ?_))
   refine se ?_
   refine cm s rfl hm (fun hb hm=>?_) (fun hb hm=>?_)
   ·refine wpIn_skip ?_
    refine se ?_
    refine wpIn_block ?_
    obtain ⟨x4,hx4,hm⟩:=bs hm
    refine se (rg (sq s (ix (t rfl) (t rfl) hx4) rfl fun a w s=>sq s (ld (t rfl)) rfl fun a w s=>sq s (sa (t rfl)) rfl fun a w s=>nl ?_))
    refine se ?_
    obtain ⟨r6,hr6,hm⟩:=bs hm
    have gr6:=gF hr6
    have er6:=gT hr6
    obtain ⟨x5,hx5,gr6⟩:=gx gr6
    refine se (rg (sq s (mv (t rfl)) rfl fun a w s=>sq s (lt (t rfl) ci) rfl fun a w s=>sq s (mv (t rfl)) rfl fun a w s=>sg s rfl rfl (fun hb=>(mv (t rfl))) rfl fun a w s=>sg s rfl rfl (fun hb=>(fa (f:=Space.Moves) (t rfl))) rfl fun a w s=>sg s rfl rfl (fun hb=>(ld (tg rfl hb))) rfl fun a w s=>sg s rfl rfl (fun hb=>(mv (t rfl))) rfl fun a w s=>sg s rfl rfl (fun hb=>(ix (tg rfl hb) (tg rfl hb) (hx5 hb))) rfl fun a w s=>sg s rfl rfl (fun hb=>(ld (tg rfl hb))) rfl fun a w s=>sg s rfl rfl (fun hb=>(ln (tg rfl hb))) rfl fun a w s=>sg s rfl rfl (fun hb=>(ge (tg rfl hb) (tg rfl hb))) rfl fun a w s=>sq s (po (t rfl) rfl (fun h=>si (gr6 h)) (fun h=>(si (er6 h)).symm)) rfl fun a w s=>nl ?_))
    refine cm s rfl hm (fun hb hm=>?_) (fun hb hm=>?_)
    ·refine se (rg (sq s (sa ci) rfl fun a w s=>sq s (sa ci) rfl fun a w s=>nl ?_))
     obtain rfl:=si hm
     replace hm:=hko3
     dsimp only at hm
     obtain rfl:=si hm
     refine wpIn_ret ?_
     exact rn hD s rfl (rv2 (rt rfl) (rt rfl))
    ·refine wpIn_skip ?_
     obtain ⟨x7,hx7,hm⟩:=bs hm
     obtain ⟨x8,hx8,hm⟩:=bs hm
     refine rg (sq s (fa (f:=Space.Moves) (t rfl)) rfl fun a w s=>sq s (ld (t rfl)) rfl fun a w s=>sq s (mv (t rfl)) rfl fun a w s=>sq s (ix (t rfl) (t rfl) hx7) rfl fun a w s=>sq s (ld (t rfl)) rfl fun a w s=>sq s (mv (t rfl)) rfl fun a w s=>sq s (ix (t rfl) (t rfl) hx8) rfl fun a w s=>sq s (ld (t rfl)) rfl fun a w s=>sq s (sa (t rfl)) rfl fun a w s=>nl ?_)
     refine rg (sq s (ad (t rfl) ci) rfl fun a w s=>sq s (mv (t rfl)) rfl fun a w s=>nl ?_)
     exact ⟨_,hm,s.pick [0,1,2,4,5,6,7,15,16,17]⟩
   ·refine wpIn_exit ?_
    exact ⟨_,(si hm).symm,s.pick [0,1,2,4,5,6,7,15,16,17]⟩
  ·subst ho
   replace hm:=hko3
   dsimp only at hm
   refine se (rg (sq s (mv (t rfl)) rfl fun a w s=>sq s (sa (t rfl)) rfl fun a w s=>sq s (sa ci) rfl fun a w s=>nl ?_))
   obtain rfl:=si hm
   refine wpIn_ret ?_
   exact rn hD s rfl (rv2 (rt rfl) (rt rfl))
def m59_l2 (f:Nat) (v0:Space) (v1:Int) (x7:(List Int)) (x8:Int):Nat→(Int×Int×(List Int))→Option (Int×Int×(List Int))
 | 0,_=>none
 | n+1,z9=>(idx ((v0).Moves) z9.1).bind fun x11=>(bif (decide (z9.2.1 < (x11.length:Int))) then (idx ((v0).Moves) z9.1).bind fun x12=>(idx x12 z9.2.1).bind fun x13=>(m117 f v0 x13).bind fun x14=>(idx x14 v1).bind fun x15=>(bif (x15 == (wr (x8 - (1:Int)))) then (app z9.2.2 ([z9.2.1]:List Int)).bind fun x16=>some (x13,z9.2.1,x16) else m59_l2 f v0 v1 x7 x8 n (z9.1,(wr (z9.2.1 + (1:Int))),z9.2.2)) else some (z9.1,z9.2.1,z9.2.2))
def m59_l1 (f:Nat) (v0:Space) (v1:Int):Nat→(Int×(List Int))→Option (Int×(List Int))
 | 0,_=>none
 | n+1,z4=>(bif (z4.1 != v1) then (m117 f v0 z4.1).bind fun x7=>(idx x7 v1).bind fun x8=>(m59_l2 f v0 v1 x7 x8 f (z4.1,(0:Int),z4.2)).bind fun o10s=>m59_l1 f v0 v1 n (o10s.1,o10s.2.2) else some (z4.1,z4.2))
def m59 (f:Nat) (v0:Space) (v1:Int):Option ((List Int)×Int):=(m56 f v0).bind fun x1=>(bif (x1 != (0:Int)) then some (([]:List Int),x1) else (bif ((decide (v1 < (0:Int))) || (decide (v1≥(((v0).States).length:Int)))) then some (([]:List Int),(2:Int)) else (m117 f v0 (0:Int)).bind fun x2=>(idx x2 v1).bind fun x3=>(bif (decide (x3 < (0:Int))) then some (([]:List Int),(6:Int)) else (m59_l1 f v0 v1 f ((0:Int),([]:List Int))).bind fun o5s=>some (o5s.2,(0:Int)))))
set_option maxRecDepth 100000 in
set_option maxHeartbeats 2000000 in
theorem s59 (f:Nat) (v0:Space) (v1:Int) (r:(List Int)×Int) (hm:m59 f v0 v1=some r):Sp Tryz.prog 59 [Va (v0),Va (v1)] (T2 (Va (r.1)) (Va (r.2))):=by
 unfold m59 at hm
 refine ens Tryz.func59 (by kernel_rfl) rfl Tryz.ntmps59 rfl rfl fun M w_0 a hM hD s=>?_
 refine se (rg (sq s (bx (t rfl)) rfl fun a w s=>sq s (saq cq) rfl fun a w s=>sq s (sa ci) rfl fun a w s=>nl ?_))
 refine se ?_
 obtain ⟨x1,hx1,hm⟩:=bs hm
 refine se (rg (sq s (ld (t rfl)) rfl fun a w s=>sq s (cc rfl (oc (t rfl) on) (s56 f _ _ hx1)) rfl fun a w s=>sq s (sa (t rfl)) rfl fun a w s=>nl ?_))
 refine se (rg (sq s (mv (t rfl)) rfl fun a w s=>sq s (ne (t rfl) ci) rfl fun a w s=>nl ?_))
 refine cm s rfl hm (fun hb hm=>?_) (fun hb hm=>?_)
 ·refine se (rg (sq s (mv (t rfl)) rfl fun a w s=>sq s (saq cq) rfl fun a w s=>sq s (sa (t rfl)) rfl fun a w s=>nl ?_))
  obtain rfl:=si hm
  refine wpIn_ret ?_
  exact rn hD s rfl (rv2 (ro (qns (α:=Int) (t rfl))) (rt rfl))
 ·refine wpIn_skip ?_
  refine se ?_
  refine se (rg (sq s (mv (t rfl)) rfl fun a w s=>sq s (lt (t rfl) ci) rfl fun a w s=>sq s (mv (t rfl)) rfl fun a w s=>sg s rfl rfl (fun hb=>(mv (t rfl))) rfl fun a w s=>sg s rfl rfl (fun hb=>(fa (f:=Space.States) (t rfl))) rfl fun a w s=>sg s rfl rfl (fun hb=>(ld (tg rfl hb))) rfl fun a w s=>sg s rfl rfl (fun hb=>(ln (tg rfl hb))) rfl fun a w s=>sg s rfl rfl (fun hb=>(ge (tg rfl hb) (tg rfl hb))) rfl fun a w s=>sq s (poP (t rfl) rfl) rfl fun a w s=>nl ?_))
  refine cm s rfl hm (fun hb hm=>?_) (fun hb hm=>?_)
  ·refine se (rg (sq s (saq cq) rfl fun a w s=>sq s (sa ci) rfl fun a w s=>nl ?_))
   obtain rfl:=si hm
   refine wpIn_ret ?_
   exact rn hD s rfl (rv2 (ro (qns (α:=Int) (t rfl))) (rt rfl))
  ·refine wpIn_skip ?_
   refine se ?_
   obtain ⟨x2,hx2,hm⟩:=bs hm
   obtain ⟨x3,hx3,hm⟩:=bs hm
   refine se (rg (sq s (ld (t rfl)) rfl fun a w s=>sq s (cc rfl (oc (t rfl) (oc ci on)) (s117 f _ _ _ hx2)) rfl fun a w s=>sq s (mv (t rfl)) rfl fun a w s=>sq s (ix (t rfl) (t rfl) hx3) rfl fun a w s=>sq s (ld (t rfl)) rfl fun a w s=>sq s (lt (t rfl) ci) rfl fun a w s=>nl ?_))
   refine cm s rfl hm (fun hb hm=>?_) (fun hb hm=>?_)
   ·refine se (rg (sq s (saq cq) rfl fun a w s=>sq s (sa ci) rfl fun a w s=>nl ?_))
    obtain rfl:=si hm
    refine wpIn_ret ?_
    exact rn hD s rfl (rv2 (ro (qns (α:=Int) (t rfl))) (rt rfl))
   ·refine wpIn_skip ?_
    refine se (rg (sq s (saq cq) rfl fun a w s=>nl ?_))
    refine se (rg (sq s (sa ci) rfl fun a w s=>nl ?_))
    refine se ?_
    refine nilt (α:=Int) (d:=7) 1000 3 s rfl rfl fun c6 s=>?_
    obtain ⟨o5s,hoo5,hko5⟩:=bs hm
    refine cpI (fun a w=>∃ (o5sc0:Value),St M w_0 74 [(0,Va (v0)),(1,Va (v1)),(2,Pt (v0)),(4,Qv (.slice none 0 0)),(5,Va ((0:Int))),(6,Va (x1)),(7,Qv o5sc0),(8,Va (o5s.1)),(1000,Ow 3 o5sc0 (o5s.2))] a w) ?_ fun a w s=>?_
    ·refine wpIn_block ?_
     refine loI (fun n z4=>m59_l1 f v0 v1 n z4) o5s (fun z4 a w=>∃ (z4c0:Value),St M w_0 74 [(0,Va (v0)),(1,Va (v1)),(2,Pt (v0)),(4,Qv (.slice none 0 0)),(5,Va ((0:Int))),(6,Va (x1)),(7,Qv z4c0),(8,Va (z4.1)),(1000,Ow 3 z4c0 (z4.2))] a w) f ((0:Int),([]:List Int)) ⟨c6,s.pick [0,1,2,4,5,6,7,8,1000]⟩ hoo5 (fun _=>rfl) fun n z4 a w hm s=>?_
     obtain ⟨z4c0,s⟩:=s
     replace hm:m59_l1 f v0 v1 (n + 1) z4=some o5s:=hm
     unfold m59_l1 at hm
     refine se ?_
     refine se (rg (sq s (mv (t rfl)) rfl fun a w s=>sq s (mv (t rfl)) rfl fun a w s=>sq s (ne (t rfl) (t rfl)) rfl fun a w s=>nl ?_))
     refine cm s rfl hm (fun hb hm=>?_) (fun hb hm=>?_)
     ·refine wpIn_skip ?_
      refine wpIn_block ?_
      obtain ⟨x7,hx7,hm⟩:=bs hm
      obtain ⟨x8,hx8,hm⟩:=bs hm
      refine se (rg (sq s (ld (t rfl)) rfl fun a w s=>sq s (mv (t rfl)) rfl fun a w s=>sq s (cc rfl (oc (t rfl) (oc (t rfl) on)) (s117 f _ _ _ hx7)) rfl fun a w s=>sq s (mv (t rfl)) rfl fun a w s=>sq s (ix (t rfl) (t rfl) hx8) rfl fun a w s=>sq s (ld (t rfl)) rfl fun a w s=>sq s (sa (t rfl)) rfl fun a w s=>nl ?_))
      refine se (rg (sq s (sa ci) rfl fun a w s=>nl ?_))
      obtain ⟨o10s,hoo10,hko10⟩:=bs hm
      refine cpI (fun a w=>∃ (o10sc0:Value),St M w_0 74 [(0,Va (v0)),(1,Va (v1)),(2,Pt (v0)),(4,Qv (.slice none 0 0)),(5,Va ((0:Int))),(6,Va (x1)),(7,Qv o10sc0),(8,Va (o10s.1)),(9,Va (x8)),(10,Va (o10s.2.1)),(1000,Ow 3 o10sc0 (o10s.2.2))] a w) ?_ fun a w s=>?_
      ·refine wpIn_block ?_
       refine loI (fun n z9=>m59_l2 f v0 v1 x7 x8 n z9) o10s (fun z9 a w=>∃ (z9c0:Value),St M w_0 74 [(0,Va (v0)),(1,Va (v1)),(2,Pt (v0)),(4,Qv (.slice none 0 0)),(5,Va ((0:Int))),(6,Va (x1)),(7,Qv z9c0),(8,Va (z9.1)),(9,Va (x8)),(10,Va (z9.2.1)),(1000,Ow 3 z9c0 (z9.2.2))] a w) f (z4.1,(0:Int),z4.2) ⟨z4c0,s.pick [0,1,2,4,5,6,7,8,9,10,1000]⟩ hoo10 (fun _=>rfl) fun n z9 a w hm s=>?_
       obtain ⟨z9c0,s⟩:=s
       replace hm:m59_l2 f v0 v1 x7 x8 (n + 1) z9=some o10s:=hm
       unfold m59_l2 at hm
       refine se ?_
       obtain ⟨x11,hx11,hm⟩:=bs hm
       refine se (rg (sq s (mv (t rfl)) rfl fun a w s=>sq s (fa (f:=Space.Moves) (t rfl)) rfl fun a w s=>sq s (ld (t rfl)) rfl fun a w s=>sq s (mv (t rfl)) rfl fun a w s=>sq s (ix (t rfl) (t rfl) hx11) rfl fun a w s=>sq s (ld (t rfl)) rfl fun a w s=>sq s (ln (t rfl)) rfl fun a w s=>sq s (lt (t rfl) (t rfl)) rfl fun a w s=>nl ?_))
       refine cm s rfl hm (fun hb hm=>?_) (fun hb hm=>?_)
       ·refine wpIn_skip ?_
        refine se ?_
        refine wpIn_block ?_
        obtain ⟨x12,hx12,hm⟩:=bs hm
        obtain ⟨x13,hx13,hm⟩:=bs hm
        refine se (rg (sq s (fa (f:=Space.Moves) (t rfl)) rfl fun a w s=>sq s (ld (t rfl)) rfl fun a w s=>sq s (mv (t rfl)) rfl fun a w s=>sq s (ix (t rfl) (t rfl) hx12) rfl fun a w s=>sq s (ld (t rfl)) rfl fun a w s=>sq s (mv (t rfl)) rfl fun a w s=>sq s (ix (t rfl) (t rfl) hx13) rfl fun a w s=>sq s (ld (t rfl)) rfl fun a w s=>sq s (sa (t rfl)) rfl fun a w s=>nl ?_))
        obtain ⟨x14,hx14,hm⟩:=bs hm
        obtain ⟨x15,hx15,hm⟩:=bs hm
        refine se (rg (sq s (ld (t rfl)) rfl fun a w s=>sq s (mv (t rfl)) rfl fun a w s=>sq s (cc rfl (oc (t rfl) (oc (t rfl) on)) (s117 f _ _ _ hx14)) rfl fun a w s=>sq s (mv (t rfl)) rfl fun a w s=>sq s (ix (t rfl) (t rfl) hx15) rfl fun a w s=>sq s (ld (t rfl)) rfl fun a w s=>sq s (mv (t rfl)) rfl fun a w s=>sq s (sb (t rfl) ci) rfl fun a w s=>sq s (eq (t rfl) (t rfl)) rfl fun a w s=>nl ?_))
        refine cm s rfl hm (fun hb hm=>?_) (fun hb hm=>?_)
        ·obtain ⟨x16,hx16,hm⟩:=bs hm
         refine se (rg (sq s (mvq (t rfl)) rfl fun a w s=>sq s (mv (t rfl)) rfl fun a w s=>sq s (bsv (o1 (t rfl) o0) rfl rfl (by kernel_rfl)) rfl fun a w s=>apd (α:=Int) (k:=1000) s (t rfl) rfl (t rfl) hx16 rfl rfl fun c17 a w s=>sq s (saq (t rfl)) rfl fun a w s=>nl ?_))
         refine se (rg (sq s (mv (t rfl)) rfl fun a w s=>sq s (sa (t rfl)) rfl fun a w s=>nl ?_))
         refine wpIn_exit ?_
         obtain rfl:=si hm
         exact ⟨c17,s.pick [0,1,2,4,5,6,7,8,9,10,1000]⟩
        ·refine wpIn_skip ?_
         refine rg (sq s (mv (t rfl)) rfl fun a w s=>sq s (ad (t rfl) ci) rfl fun a w s=>sq s (sa (t rfl)) rfl fun a w s=>nl ?_)
         exact ⟨_,hm,⟨z9c0,s.pick [0,1,2,4,5,6,7,8,9,10,1000]⟩⟩
       ·refine wpIn_exit ?_
        obtain rfl:=si hm
        exact ⟨z9c0,s.pick [0,1,2,4,5,6,7,8,9,10,1000]⟩
      ·obtain ⟨o10sc0,s⟩:=s
       replace hm:=hko10
       exact ⟨_,hm,⟨o10sc0,s.pick [0,1,2,4,5,6,7,8,1000]⟩⟩
     ·refine wpIn_exit ?_
      obtain rfl:=si hm
      exact ⟨z4c0,s.pick [0,1,2,4,5,6,7,8,1000]⟩
    ·obtain ⟨o5sc0,s⟩:=s
     replace hm:=hko5
     refine se (rg (sq s (mvq (t rfl)) rfl fun a w s=>sq s (saq (t rfl)) rfl fun a w s=>sq s (sa ci) rfl fun a w s=>nl ?_))
     obtain rfl:=si hm
     refine fzk (α:=Int) (k:=1000) hM s rfl fun s=>?_
     refine wpIn_ret ?_
     exact rn hD s rfl (rv2 (ro (ta (k:=1000) (t rfl) rfl)) (rt rfl))
def m61_l1 (v0:Space) (v1:List Int):Nat→(Int×Int)→Option (Lo (Int×Int) (Int×Int))
 | 0,_=>none
 | n+1,z2=>(bif (decide (z2.2 < (v1.length:Int))) then (idx v1 z2.2).bind fun x4=>(bif (decide (x4 < (0:Int))) then some true else (idx v1 z2.2).bind fun x5=>(idx ((v0).Moves) z2.1).bind fun x6=>some (decide (x5≥(x6.length:Int)))).bind fun r7=>(bif r7 then some (.ret ((0:Int),(6:Int))) else (idx ((v0).Moves) z2.1).bind fun x8=>(idx v1 z2.2).bind fun x9=>(idx x8 x9).bind fun x10=>m61_l1 v0 v1 n (x10,(wr (z2.2 + (1:Int))))) else some (.brk (z2.1,z2.2)))
def m61 (f:Nat) (v0:Space) (v1:List Int):Option (Int×Int):=(m56 f v0).bind fun x1=>(bif (x1 != (0:Int)) then some ((0:Int),x1) else ((m61_l1 v0 v1 f ((0:Int),(0:Int))).bind fun o3=>match o3 with | .brk o3s=>some (o3s.1,(0:Int)) | .ret r=>some r))
set_option maxRecDepth 100000 in
theorem s61 (f:Nat) (v0:Space) (v1:List Int) (r:Int×Int) (hm:m61 f v0 v1=some r):Sp Tryz.prog 61 [Va (v0),Va (v1)] (T2 (Va (r.1)) (Va (r.2))):=by
 unfold m61 at hm
 refine ens Tryz.func61 (by kernel_rfl) rfl Tryz.ntmps61 rfl rfl fun M w_0 a hM hD s=>?_
 refine se (rg (sq s (bx (t rfl)) rfl fun a w s=>sq s (sa ci) rfl fun a w s=>sq s (sa ci) rfl fun a w s=>nl ?_))
 refine se ?_
 obtain ⟨x1,hx1,hm⟩:=bs hm
 refine se (rg (sq s (ld (t rfl)) rfl fun a w s=>sq s (cc rfl (oc (t rfl) on) (s56 f _ _ hx1)) rfl fun a w s=>sq s (sa (t rfl)) rfl fun a w s=>nl ?_))
 refine se (rg (sq s (mv (t rfl)) rfl fun a w s=>sq s (ne (t rfl) ci) rfl fun a w s=>nl ?_))
 refine cm s rfl hm (fun hb hm=>?_) (fun hb hm=>?_)
 ·refine se (rg (sq s (mv (t rfl)) rfl fun a w s=>sq s (sa ci) rfl fun a w s=>sq s (sa (t rfl)) rfl fun a w s=>nl ?_))
  obtain rfl:=si hm
  refine wpIn_ret ?_
  exact rn hD s rfl (rv2 (rt rfl) (rt rfl))
 ·refine wpIn_skip ?_
  refine se (rg (sq s (sa ci) rfl fun a w s=>nl ?_))
  refine se ?_
  refine se (rg (sq s (sa ci) rfl fun a w s=>nl ?_))
  obtain ⟨o3,hoo3,hko3⟩:=bs hm
  refine lcI o3 (fun o3s a w=>St M w_0 50 [(0,Va (v0)),(1,Va (v1)),(2,Pt (v0)),(4,Va ((0:Int))),(5,Va ((0:Int))),(6,Va (x1)),(7,Va (o3s.1)),(8,Va (o3s.2))] a w) ?_ fun o3s a w ho s=>?_
  ·refine wpIn_block ?_
   refine loI (fun n z2=>m61_l1 v0 v1 n z2) o3 (fun z2 a w=>St M w_0 50 [(0,Va (v0)),(1,Va (v1)),(2,Pt (v0)),(4,Va ((0:Int))),(5,Va ((0:Int))),(6,Va (x1)),(7,Va (z2.1)),(8,Va (z2.2))] a w) f ((0:Int),(0:Int)) (s.pick [0,1,2,4,5,6,7,8]) hoo3 (fun _=>rfl) fun n z2 a w hm s=>?_
   replace hm:m61_l1 v0 v1 (n + 1) z2=some o3:=hm
   unfold m61_l1 at hm
   refine se ?_
   refine se (rg (sq s (mv (t rfl)) rfl fun a w s=>sq s (mv (t rfl)) rfl fun a w s=>sq s (ln (t rfl)) rfl fun a w s=>sq s (lt (t rfl) (t rfl)) rfl fun a w s=>nl ?_))
   refine cm s rfl hm (fun hb hm=>?_) (fun hb hm=>?_)
   ·refine wpIn_skip ?_
    refine se ?_
    refine wpIn_block ?_
    refine se ?_
    obtain ⟨x4,hx4,hm⟩:=bs hm
    obtain ⟨r7,hr7,hm⟩:=bs hm
    have gr7:=gF hr7
    have er7:=gT hr7
    obtain ⟨x5,hx5,gr7⟩:=gx gr7
    obtain ⟨x6,hx6,gr7⟩:=gx gr7
    refine se (flow s (m:=18) (.cons (.cong (.cong (.cong (.cong (.cong (.cong (.cong (.cong (.cong (.cong (.cong (.cons (.cons (.cons (.cons (.cons (.cons .nil rfl (mv (t rfl))) rfl (mv (t rfl))) rfl (ix (t rfl) (t rfl) hx4)) rfl (ld (t rfl))) rfl (lt (t rfl) ci)) rfl (mv (t rfl))) rfl rfl rfl (fun hb=>(mv (t rfl)))) rfl rfl rfl (fun hb=>(mv (t rfl)))) rfl rfl rfl (fun hb=>(ix (tg rfl hb) (tg rfl hb) (hx5 hb)))) rfl rfl rfl (fun hb=>(ld (tg rfl hb)))) rfl rfl rfl (fun hb=>(fa (f:=Space.Moves) (t rfl)))) rfl rfl rfl (fun hb=>(ld (tg rfl hb)))) rfl rfl rfl (fun hb=>(mv (t rfl)))) rfl rfl rfl (fun hb=>(ix (tg rfl hb) (tg rfl hb) (hx6 hb)))) rfl rfl rfl (fun hb=>(ld (tg rfl hb)))) rfl rfl rfl (fun hb=>(ln (tg rfl hb)))) rfl rfl rfl (fun hb=>(ge (tg rfl hb) (tg rfl hb)))) rfl (po (t rfl) rfl (fun h=>si (gr7 h)) (fun h=>(si (er7 h)).symm))) (by kernel_rfl) rfl rfl fun a w s=>nl ?_)
    refine cm s rfl hm (fun hb hm=>?_) (fun hb hm=>?_)
    ·refine se (rg (sq s (sa ci) rfl fun a w s=>sq s (sa ci) rfl fun a w s=>nl ?_))
     obtain rfl:=si hm
     replace hm:=hko3
     dsimp only at hm
     obtain rfl:=si hm
     refine wpIn_ret ?_
     exact rn hD s rfl (rv2 (rt rfl) (rt rfl))
    ·refine wpIn_skip ?_
     obtain ⟨x8,hx8,hm⟩:=bs hm
     obtain ⟨x9,hx9,hm⟩:=bs hm
     obtain ⟨x10,hx10,hm⟩:=bs hm
     refine flow s (m:=11) (.cons (.cons (.cons (.cons (.cons (.cons (.cons (.cons (.cons (.cons (.cons .nil rfl (fa (f:=Space.Moves) (t rfl))) rfl (ld (t rfl))) rfl (mv (t rfl))) rfl (ix (t rfl) (t rfl) hx8)) rfl (ld (t rfl))) rfl (mv (t rfl))) rfl (mv (t rfl))) rfl (ix (t rfl) (t rfl) hx9)) rfl (ld (t rfl))) rfl (ix (t rfl) (t rfl) hx10)) rfl (ld (t rfl))) (by kernel_rfl) rfl rfl fun a w s=>sq s (sa (t rfl)) rfl fun a w s=>nl ?_
     refine rg (sq s (mv (t rfl)) rfl fun a w s=>sq s (ad (t rfl) ci) rfl fun a w s=>sq s (sa (t rfl)) rfl fun a w s=>nl ?_)
     exact ⟨_,hm,s.pick [0,1,2,4,5,6,7,8]⟩
   ·refine wpIn_exit ?_
    exact ⟨_,(si hm).symm,s.pick [0,1,2,4,5,6,7,8]⟩
  ·subst ho
   replace hm:=hko3
   dsimp only at hm
   refine se (rg (sq s (mv (t rfl)) rfl fun a w s=>sq s (sa (t rfl)) rfl fun a w s=>sq s (sa ci) rfl fun a w s=>nl ?_))
   obtain rfl:=si hm
   refine wpIn_ret ?_
   exact rn hD s rfl (rv2 (rt rfl) (rt rfl))
def m11 (f:Nat) (v0:Space) (v1:Int) (v2:List Int):Option (Bool):=(m28 f v0).bind fun x1=>(m47 f x1).bind fun x2=>(bif ((!x2) || (decide ((v2.length:Int) > (200:Int)))) then (m20 f).bind fun x3=>some x3 else (m57 f v0 v1).bind fun x4=>(m28 f v0).bind fun x5=>(m59 f x5 v1).bind fun x6=>(m60 f v0 v2).bind fun x7=>(m28 f v0).bind fun x8=>(m61 f x8 v2).bind fun x9=>(m53 f x4.1 x6.1).bind fun x10=>(bif (((x10 && (x4.2 == x6.2)) && (x7.1 == x9.1)) && (x7.2 == x9.2)) then (m20 f).bind fun x11=>some x11 else some false).bind fun r12=>some r12)
set_option maxRecDepth 100000 in
theorem s11 (f:Nat) (v0:Space) (v1:Int) (v2:List Int) (r:Bool) (hm:m11 f v0 v1 v2=some r):Sp Tryz.prog 11 [Va (v0),Va (v1),Va (v2)] (Va (r)):=by
 unfold m11 at hm
 refine ens Tryz.func11 (by kernel_rfl) rfl Tryz.ntmps11 rfl rfl fun M w_0 a hM hD s=>?_
 refine se (rg (sq s (bx (t rfl)) rfl fun a w s=>sq s (sa cb) rfl fun a w s=>nl ?_))
 refine se ?_
 obtain ⟨x1,hx1,hm⟩:=bs hm
 obtain ⟨x2,hx2,hm⟩:=bs hm
 refine se (rg (sq s (ld (t rfl)) rfl fun a w s=>sq s (cc rfl (oc (t rfl) on) (s28 f _ _ hx1)) rfl fun a w s=>sq s (cc rfl (oc (t rfl) on) (s47 f _ _ hx2)) rfl fun a w s=>sq s (nt (t rfl)) rfl fun a w s=>sq s (mv (t rfl)) rfl fun a w s=>sg s rfl rfl (fun hb=>(mv (t rfl))) rfl fun a w s=>sg s rfl rfl (fun hb=>(ln (tg rfl hb))) rfl fun a w s=>sg s rfl rfl (fun hb=>(gt (tg rfl hb) ci)) rfl fun a w s=>sq s (poP (t rfl) rfl) rfl fun a w s=>nl ?_))
 refine cm s rfl hm (fun hb hm=>?_) (fun hb hm=>?_)
 ·obtain ⟨x3,hx3,hm⟩:=bs hm
  refine se (rg (sq s (cc rfl on (s20 f _ hx3)) rfl fun a w s=>sq s (sa (t rfl)) rfl fun a w s=>nl ?_))
  obtain rfl:=si hm
  refine wpIn_ret ?_
  exact rn hD s rfl (rv1 (rt rfl))
 ·refine wpIn_skip ?_
  obtain ⟨x4,hx4,hm⟩:=bs hm
  refine se (rg (sq s (ld (t rfl)) rfl fun a w s=>sq s (mv (t rfl)) rfl fun a w s=>sq s (cc rfl (oc (t rfl) (oc (t rfl) on)) (s57 f _ _ _ hx4)) rfl fun a w s=>sq s (mve (t rfl)) rfl fun a w s=>sq s (Pn.x20 (t rfl)) rfl fun a w s=>sq s (Pn.x21 (t rfl)) rfl fun a w s=>sq s (sa (t rfl)) rfl fun a w s=>sq s (sa (t rfl)) rfl fun a w s=>nl ?_))
  obtain ⟨x5,hx5,hm⟩:=bs hm
  obtain ⟨x6,hx6,hm⟩:=bs hm
  refine se (rg (sq s (ld (t rfl)) rfl fun a w s=>sq s (cc rfl (oc (t rfl) on) (s28 f _ _ hx5)) rfl fun a w s=>sq s (mv (t rfl)) rfl fun a w s=>sq s (cc rfl (oc (t rfl) (oc (t rfl) on)) (s59 f _ _ _ hx6)) rfl fun a w s=>sq s (mve (t rfl)) rfl fun a w s=>sq s (Pn.x20 (t rfl)) rfl fun a w s=>sq s (Pn.x21 (t rfl)) rfl fun a w s=>sq s (sa (t rfl)) rfl fun a w s=>sq s (sa (t rfl)) rfl fun a w s=>nl ?_))
  obtain ⟨x7,hx7,hm⟩:=bs hm
  refine se (rg (sq s (ld (t rfl)) rfl fun a w s=>sq s (mv (t rfl)) rfl fun a w s=>sq s (cc rfl (oc (t rfl) (oc (t rfl) on)) (s60 f _ _ _ hx7)) rfl fun a w s=>sq s (mve (t rfl)) rfl fun a w s=>sq s (Pn.x20 (t rfl)) rfl fun a w s=>sq s (Pn.x21 (t rfl)) rfl fun a w s=>sq s (sa (t rfl)) rfl fun a w s=>sq s (sa (t rfl)) rfl fun a w s=>nl ?_))
  obtain ⟨x8,hx8,hm⟩:=bs hm
  obtain ⟨x9,hx9,hm⟩:=bs hm
  refine se (rg (sq s (ld (t rfl)) rfl fun a w s=>sq s (cc rfl (oc (t rfl) on) (s28 f _ _ hx8)) rfl fun a w s=>sq s (mv (t rfl)) rfl fun a w s=>sq s (cc rfl (oc (t rfl) (oc (t rfl) on)) (s61 f _ _ _ hx9)) rfl fun a w s=>sq s (mve (t rfl)) rfl fun a w s=>sq s (Pn.x20 (t rfl)) rfl fun a w s=>sq s (Pn.x21 (t rfl)) rfl fun a w s=>sq s (sa (t rfl)) rfl fun a w s=>sq s (sa (t rfl)) rfl fun a w s=>nl ?_))
  obtain ⟨x10,hx10,hm⟩:=bs hm
  obtain ⟨r12,hr12,hm⟩:=bs hm
  have gr12:=gT hr12
  have er12:=gF hr12
  obtain ⟨x11,hx11,gr12⟩:=gx gr12
  refine se (rg (sq s (mv (t rfl)) rfl fun a w s=>sq s (mv (t rfl)) rfl fun a w s=>sq s (cc rfl (oc (t rfl) (oc (t rfl) on)) (s53 f _ _ _ hx10)) rfl fun a w s=>sq s (mv (t rfl)) rfl fun a w s=>sg s rfl rfl (fun hb=>(mv (t rfl))) rfl fun a w s=>sg s rfl rfl (fun hb=>(mv (t rfl))) rfl fun a w s=>sg s rfl rfl (fun hb=>(eq (tg rfl hb) (tg rfl hb))) rfl fun a w s=>sq s (paP (t rfl) rfl) rfl fun a w s=>sq s (mv (t rfl)) rfl fun a w s=>sg s rfl rfl (fun hb=>(mv (t rfl))) rfl fun a w s=>sg s rfl rfl (fun hb=>(mv (t rfl))) rfl fun a w s=>sg s rfl rfl (fun hb=>(eq (tg rfl hb) (tg rfl hb))) rfl fun a w s=>sq s (paP (t rfl) rfl) rfl fun a w s=>sq s (mv (t rfl)) rfl fun a w s=>sg s rfl rfl (fun hb=>(mv (t rfl))) rfl fun a w s=>sg s rfl rfl (fun hb=>(mv (t rfl))) rfl fun a w s=>sg s rfl rfl (fun hb=>(eq (tg rfl hb) (tg rfl hb))) rfl fun a w s=>sq s (paP (t rfl) rfl) rfl fun a w s=>sq s (mv (t rfl)) rfl fun a w s=>sg s rfl rfl (fun hb=>(cc rfl on (s20 f _ (hx11 hb)))) rfl fun a w s=>sq s (pa (t rfl) rfl (fun h=>si (gr12 h)) (fun h=>(si (er12 h)).symm)) rfl fun a w s=>sq s (sa (t rfl)) rfl fun a w s=>nl ?_))
  obtain rfl:=si hm
  refine wpIn_ret ?_
  exact rn hD s rfl (rv1 (rt rfl))
end Go.Pn
namespace Go.Pn
theorem wr_id {x:Int} (h1:-9223372036854775808≤x) (h2:x≤9223372036854775807):wr x=x:=by
 simp only [wr,IntKind.wrap,IntKind.bits,IntKind.signed]
 simp;omega
theorem idx_nat {α:Type} {xs:List α} {n:Nat}:idx xs (n:Int)=xs[n]?:=by simp [idx]
theorem idx_of {α:Type} {xs:List α} {i:Int} (h0:0≤i) (h:i < xs.length):∃ x,idx xs i=some x∧x∈xs:=by
 have h1:i.toNat < xs.length:=by omega
 exact ⟨xs[i.toNat],by simp [idx,h0,h1],List.getElem_mem h1⟩
theorem idx_mem {α:Type} {xs:List α} {i:Int} {x:α} (h:idx xs i=some x):x∈xs:=by
 obtain ⟨_,_,h⟩:=idx_some h
 exact List.mem_of_getElem? h
def at_ (xs:List Int) (i:Int):Int:=(idx xs i).getD (-1)
theorem at_idx {xs:List Int} {i x:Int} (h:idx xs i=some x):at_ xs i=x:=by simp [at_,h]
theorem idx_at {xs:List Int} {i:Int} (h0:0≤i) (h:i < xs.length):idx xs i=some (at_ xs i):=by
 obtain ⟨x,hx,_⟩:=idx_of h0 h
 rw [hx,at_idx hx]
theorem at_nn {xs:List Int} {i:Int} (h:0≤at_ xs i):0≤i∧i < xs.length:=by
 unfold at_ at h
 cases hi:idx xs i with
 | none=>simp [hi] at h
 | some x=>have:=idx_some hi;omega
theorem at_set {xs:List Int} {i k v:Int} (h0:0≤i) (h:i < xs.length):at_ (xs.set i.toNat v) k=if k=i then v else at_ xs k:=by
 unfold at_ idx
 by_cases hk:k=i
 ·subst hk
  have:k.toNat < xs.length:=by omega
  simp [h0,this]
 ·rw [if_neg hk]
  by_cases hk0:0≤k
  ·have:i.toNat≠k.toNat:=by omega
   simp [hk0,List.getElem?_set_ne this]
  ·simp [hk0]
def Edge (g:List (List Int)) (a b:Int):Prop:=∃ l,idx g a=some l∧b∈l
inductive Rch (g:List (List Int)) (a:Int):Int→Prop
 | refl:Rch g a a
 | step {b c:Int}:Rch g a b→Edge g b c→Rch g a c
theorem Rch.trans {g:List (List Int)} {a b c:Int} (h:Rch g a b) (k:Rch g b c):Rch g a c:=by
 induction k with
 | refl=>exact h
 | step _ e ih=>exact .step ih e
def Gd_ (g:List (List Int)):Prop:=∀ l∈g,∀ k∈l,0≤k∧k < g.length
theorem Gd_.edge {g:List (List Int)} (h:Gd_ g) {a b:Int} (e:Edge g a b):0≤b∧b < g.length:=by
 obtain ⟨l,hl,hb⟩:=e
 exact h l (idx_mem hl) b hb
theorem Edge.lt {g:List (List Int)} {a b:Int} (e:Edge g a b):0≤a∧a < g.length:=by
 obtain ⟨l,hl,_⟩:=e
 have:=idx_some hl;omega
def bstep (u:Int) (st:List Int×List Int) (x:Int):List Int×List Int:=
 if at_ st.1 x < 0 then (st.1.set x.toNat (at_ st.1 u + 1),st.2 ++ [x]) else st
def brow (u:Int) (l:List Int) (st:List Int×List Int):List Int×List Int:=l.foldl (bstep u) st
def bfs (g:List (List Int)):Nat→Nat→List Int×List Int→List Int×List Int
 | 0,_,st=>st
 | n + 1,i,st=>match st.2[i]? with
  | none=>st
  | some u=>bfs g n (i + 1) (brow u ((idx g u).getD []) st)
structure Iv (g:List (List Int)) (a:Int) (i:Nat) (st:List Int×List Int):Prop where
 len:st.1.length=g.length
 q:∀ u∈st.2,0≤at_ st.1 u∧Rch g a u
 r:∀ k,0≤at_ st.1 k→k∈st.2
 neg:∀ k,-1≤at_ st.1 k
 nd:st.2.Nodup
 bnd:∀ k,at_ st.1 k < st.2.length
 par:∀ k∈st.2,k=a∨∃ p∈st.2,Edge g p k∧at_ st.1 k=at_ st.1 p + 1
 za:at_ st.1 a=0
 clo:∀ j,j < i→∀ u,st.2[j]?=some u→∀ k,Edge g u k→k∈st.2∧at_ st.1 k≤at_ st.1 u + 1
 srt:∀ (j k:Nat) (u v:Int),j < k→st.2[j]?=some u→st.2[k]?=some v→at_ st.1 u≤at_ st.1 v
 mx:∀ u,st.2[i]?=some u→∀ v∈st.2,at_ st.1 v≤at_ st.1 u + 1
 il:i≤st.2.length
structure Grew (st st':List Int×List Int):Prop where
 keep:∀ k∈st.2,at_ st'.1 k=at_ st.1 k
 pre:∀ (j:Nat) u,st.2[j]?=some u→st'.2[j]?=some u
theorem Grew.refl (st:List Int×List Int):Grew st st:=⟨fun _ _=>rfl,fun _ _ h=>h⟩
theorem Grew.mem {st st':List Int×List Int} (h:Grew st st') {k:Int} (hk:k∈st.2):k∈st'.2:=by
 obtain ⟨j,hj⟩:=List.getElem?_of_mem hk
 exact List.mem_of_getElem? (h.pre j k hj)
theorem Grew.trans {a b c:List Int×List Int} (h:Grew a b) (k:Grew b c):Grew a c:=
 ⟨fun x hx=>(k.keep x (h.mem hx)).trans (h.keep x hx),fun j u hj=>k.pre j u (h.pre j u hj)⟩
theorem Iv.step {g:List (List Int)} {a:Int} {i:Nat} {st:List Int×List Int} {u x:Int} (hg:Gd_ g) (h:Iv g a i st) (hu:st.2[i]?=some u) (he:Edge g u x) :
  Iv g a i (bstep u st x)∧Grew st (bstep u st x)∧x∈(bstep u st x).2∧at_ (bstep u st x).1 x≤at_ (bstep u st x).1 u + 1:=by
 have hum:u∈st.2:=List.mem_of_getElem? hu
 obtain ⟨hx0,hx1⟩:=hg.edge he
 unfold bstep
 by_cases hx:at_ st.1 x < 0
 ·rw [if_pos hx]
  have hxl:x < st.1.length:=by rw [h.len];exact hx1
  have hset:∀ k,at_ (st.1.set x.toNat (at_ st.1 u + 1)) k=if k=x then at_ st.1 u + 1 else at_ st.1 k:=fun k=>at_set hx0 hxl
  have hne:∀ k∈st.2,k≠x:=fun k hk e=>by have:=(h.q k hk).1;subst e;omega
  have hold:∀ k∈st.2,at_ (st.1.set x.toNat (at_ st.1 u + 1)) k=at_ st.1 k:=fun k hk=>by rw [hset,if_neg (hne k hk)]
  have hnx:x ∉ st.2:=fun hm=>hne x hm rfl
  have hu0:=(h.q u hum).1
  have hgr:Grew st (st.1.set x.toNat (at_ st.1 u + 1),st.2 ++ [x]):=⟨hold,fun j v hj=>by
   rw [List.getElem?_append_left (List.getElem?_eq_some_iff.1 hj).1];exact hj⟩
  have hget:∀ (j:Nat) v,(st.2 ++ [x])[j]?=some v→st.2[j]?=some v∨(j=st.2.length∧v=x):=fun j v hj=>by
   rcases Nat.lt_or_ge j st.2.length with h1 | h1
   ·rw [List.getElem?_append_left h1] at hj;exact .inl hj
   ·rw [List.getElem?_append_right h1] at hj
    rcases Nat.eq_or_lt_of_le h1 with h2 | h2
    ·subst h2;simp at hj;exact .inr ⟨rfl,hj.symm⟩
    ·have:j - st.2.length=(j - st.2.length - 1) + 1:=by omega
     rw [this] at hj;simp at hj
  refine ⟨⟨by simp [h.len],?_,?_,?_,?_,?_,?_,?_,?_,?_,?_,?_⟩,hgr,by simp,?_⟩
  ·intro k hk
   rcases List.mem_append.1 hk with hk | hk
   ·exact ⟨by show 0≤at_ (st.1.set _ _) k;rw [hold k hk];exact (h.q k hk).1,(h.q k hk).2⟩
   ·obtain rfl:k=x:=by simpa using hk
    exact ⟨by show 0≤at_ (st.1.set _ _) k;rw [hset,if_pos rfl];omega,.step (h.q u hum).2 he⟩
  ·intro k hk
   replace hk:0≤at_ (st.1.set x.toNat (at_ st.1 u + 1)) k:=hk
   rw [hset] at hk
   by_cases e:k=x
   ·subst e;simp
   ·rw [if_neg e] at hk;exact List.mem_append_left _ (h.r k hk)
  ·intro k
   show -1≤at_ (st.1.set x.toNat (at_ st.1 u + 1)) k
   rw [hset];split
   ·omega
   ·exact h.neg k
  ·exact List.nodup_append.2 ⟨h.nd,by simp,fun p hp q hq=>by simp at hq;subst hq;exact hne p hp⟩
  ·intro k
   show at_ (st.1.set x.toNat (at_ st.1 u + 1)) k < (st.2 ++ [x]).length
   have:=h.bnd u;have:=h.bnd k
   rw [hset,List.length_append]; split <;> simp <;> omega
  ·intro k hk
   rcases List.mem_append.1 hk with hk | hk
   ·rcases h.par k hk with e | ⟨p,hp,e,e2⟩
    ·exact .inl e
    ·exact .inr ⟨p,List.mem_append_left _ hp,e,by show at_ (st.1.set _ _) k=at_ (st.1.set _ _) p + 1;rw [hold k hk,hold p hp];exact e2⟩
   ·obtain rfl:k=x:=by simpa using hk
    exact .inr ⟨u,List.mem_append_left _ hum,he,by show at_ (st.1.set _ _) k=at_ (st.1.set _ _) u + 1;rw [hold u hum,hset,if_pos rfl]⟩
  ·have:a∈st.2:=h.r a (by rw [h.za];omega)
   show at_ (st.1.set _ _) a=0
   rw [hold a this];exact h.za
  ·intro j hj v hv k hk
   have hj2:j < st.2.length:=Nat.lt_of_lt_of_le hj h.il
   have hv2:st.2[j]?=some v:=by
    rcases hget j v hv with e | ⟨e,_⟩
    ·exact e
    ·omega
   obtain ⟨h1,h2⟩:=h.clo j hj v hv2 k hk
   exact ⟨List.mem_append_left _ h1,by show at_ (st.1.set _ _) k≤at_ (st.1.set _ _) v + 1;rw [hold k h1,hold v (List.mem_of_getElem? hv2)];exact h2⟩
  ·intro j k p v hjk hj hk
   show at_ (st.1.set _ _) p≤at_ (st.1.set _ _) v
   rcases hget k v hk with e | ⟨e,rfl⟩
   ·have hj2:st.2[j]?=some p:=by
     rcases hget j p hj with e2 | ⟨e2,_⟩
     ·exact e2
     ·have:=(List.getElem?_eq_some_iff.1 e).1;omega
    rw [hold v (List.mem_of_getElem? e),hold p (List.mem_of_getElem? hj2)]
    exact h.srt j k p v hjk hj2 e
   ·have hj2:st.2[j]?=some p:=by
     rcases hget j p hj with e2 | ⟨e2,_⟩
     ·exact e2
     ·omega
    rw [hold p (List.mem_of_getElem? hj2),hset,if_pos rfl]
    exact h.mx u hu p (List.mem_of_getElem? hj2)
  ·intro v hv w hw
   have hvu:v=u:=by
    have:(st.2 ++ [x])[i]?=some u:=hgr.pre i u hu
    rw [this] at hv;exact (Option.some.inj hv).symm
   subst hvu
   show at_ (st.1.set _ _) w≤at_ (st.1.set _ _) v + 1
   rw [hold v hum]
   rcases List.mem_append.1 hw with hw | hw
   ·rw [hold w hw];exact h.mx v hu w hw
   ·obtain rfl:w=x:=by simpa using hw
    rw [hset,if_pos rfl];omega
  ·have:=h.il;simp;omega
  ·show at_ (st.1.set _ _) x≤at_ (st.1.set _ _) u + 1
   rw [hold u hum,hset,if_pos rfl];omega
 ·rw [if_neg hx]
  exact ⟨h,.refl st,h.r x (by omega),h.mx u hu x (h.r x (by omega))⟩
theorem Iv.row {g:List (List Int)} {a:Int} {i:Nat} {u:Int} (hg:Gd_ g):∀ (l:List Int) {st:List Int×List Int},Iv g a i st→st.2[i]?=some u→(∀ x∈l,Edge g u x) →
  Iv g a i (brow u l st)∧Grew st (brow u l st)∧∀ x∈l,x∈(brow u l st).2∧at_ (brow u l st).1 x≤at_ (brow u l st).1 u + 1
 | [],st,h,_,_=>⟨h,.refl st,fun x hx=>by simp at hx⟩
 | y :: l,st,h,hu,he=>by
  obtain ⟨h1,h2,h3,h4⟩:=h.step hg hu (he y (by simp))
  obtain ⟨k1,k2,k3⟩:=Iv.row hg l h1 (h2.pre i u hu) fun x hx=>he x (by simp [hx])
  refine ⟨k1,h2.trans k2,fun x hx=>?_⟩
  have hum:u∈(bstep u st y).2:=List.mem_of_getElem? (h2.pre i u hu)
  rcases List.mem_cons.1 hx with rfl | hx
  ·exact ⟨k2.mem h3,by show at_ (brow u l (bstep u st x)).1 x≤at_ (brow u l (bstep u st x)).1 u + 1;rw [k2.keep x h3,k2.keep u hum];exact h4⟩
  ·exact k3 x hx
theorem Iv.next {g:List (List Int)} {a:Int} {i:Nat} {st:List Int×List Int} {u:Int} (hg:Gd_ g) (h:Iv g a i st) (hu:st.2[i]?=some u) :
  Iv g a (i + 1) (brow u ((idx g u).getD []) st)∧Grew st (brow u ((idx g u).getD []) st):=by
 obtain ⟨k1,k2,k3⟩:=h.row hg ((idx g u).getD []) hu (by
  intro x hx
  cases hl:idx g u with
  | none=>simp [hl] at hx
  | some l=>exact ⟨l,hl,by simpa [hl] using hx⟩)
 have hu2:=k2.pre i u hu
 refine ⟨⟨k1.len,k1.q,k1.r,k1.neg,k1.nd,k1.bnd,k1.par,k1.za,?_,k1.srt,?_,?_⟩,k2⟩
 ·intro j hj v hv k hk
  rcases Nat.lt_or_ge j i with h1 | h1
  ·exact k1.clo j h1 v hv k hk
  ·obtain rfl:j=i:=by omega
   rw [hu2] at hv
   obtain rfl:=Option.some.inj hv
   obtain ⟨l,hl,hm⟩:=hk
   exact k3 k (by simpa [hl] using hm)
 ·intro v hv w hw
  have h1:=k1.mx u hu2 w hw
  have h2:=k1.srt i (i + 1) u v (by omega) hu2 hv
  omega
 ·exact Nat.succ_le_of_lt (List.getElem?_eq_some_iff.1 hu2).1
theorem nodup_le:∀ (n:Nat) {q:List Int},q.Nodup→(∀ u∈q,0≤u∧u < n)→q.length≤n
 | 0,q,_,h=>by
  cases q with
  | nil=>simp
  | cons u q=>have:=h u (by simp);omega
 | n + 1,q,hn,h=>by
  have h1:(q.erase (n:Int)).Nodup:=hn.erase _
  have:=nodup_le n (q:=q.erase (n:Int)) h1 fun u hu=>by
   have hu2:=List.Nodup.mem_erase_iff hn |>.1 hu
   have:=h u hu2.2
   have:=hu2.1
   omega
  have h2:=List.length_erase (a:=(n:Int)) (l:=q)
  split at h2 <;> omega
theorem Iv.qlen {g:List (List Int)} {a:Int} {i:Nat} {st:List Int×List Int} (h:Iv g a i st):st.2.length≤g.length:=
 nodup_le _ h.nd fun u hu=>by
  have:=at_nn (h.q u hu).1
  rw [h.len] at this;exact this
structure Lv (g:List (List Int)) (a:Int) (out:List Int):Prop where
 len:out.length=g.length
 rch:∀ k,0≤at_ out k↔Rch g a k
 neg:∀ k,-1≤at_ out k
 bnd:∀ k,at_ out k < g.length
 za:at_ out a=0
 par:∀ k,Rch g a k→k≠a→∃ p,Rch g a p∧Edge g p k∧at_ out k=at_ out p + 1
 edge:∀ u k,Rch g a u→Edge g u k→at_ out k≤at_ out u + 1
theorem Iv.done {g:List (List Int)} {a:Int} {i:Nat} {st:List Int×List Int} (h:Iv g a i st) (hi:st.2.length≤i):Lv g a st.1:=by
 have hcl:∀ u∈st.2,∀ k,Edge g u k→k∈st.2∧at_ st.1 k≤at_ st.1 u + 1:=fun u hu k hk=>by
  obtain ⟨j,hj⟩:=List.getElem?_of_mem hu
  exact h.clo j (Nat.lt_of_lt_of_le (List.getElem?_eq_some_iff.1 hj).1 hi) u hj k hk
 have hr:∀ k,Rch g a k→k∈st.2:=fun k hk=>by
  induction hk with
  | refl=>exact h.r a (by rw [h.za];omega)
  | step _ e ih=>exact (hcl _ ih _ e).1
 exact ⟨h.len,fun k=>⟨fun hk=>(h.q k (h.r k hk)).2,fun hk=>(h.q k (hr k hk)).1⟩,h.neg,fun k=>by have:=h.bnd k;have:=h.qlen;omega,h.za,
  fun k hk hne=>by
   rcases h.par k (hr k hk) with e | ⟨p,hp,e,e2⟩
   ·exact absurd e hne
   ·exact ⟨p,(h.q p hp).2,e,e2⟩,
  fun u k hu he=>(hcl u (hr u hu) k he).2⟩
theorem bfs_lv {g:List (List Int)} {a:Int} (hg:Gd_ g):∀ (n i:Nat) {st:List Int×List Int},Iv g a i st→g.length < n + i→Lv g a (bfs g n i st).1
 | 0,i,st,h,hn=>by have:=h.qlen;exact h.done (by omega)
 | n + 1,i,st,h,hn=>by
  unfold bfs
  cases hu:st.2[i]? with
  | none=>exact h.done (by simpa using hu)
  | some u=>
   exact bfs_lv hg n (i + 1) (h.next hg hu).1 (by omega)
theorem Iv.init {g:List (List Int)} {a:Int} (h0:0≤a) (h1:a < g.length):Iv g a 0 ((List.replicate g.length (-1)).set a.toNat 0,[a]):=by
 have hl:a < (List.replicate g.length (-1:Int)).length:=by simpa using h1
 have hrep:∀ k,at_ (List.replicate g.length (-1:Int)) k=-1:=fun k=>by
  unfold at_ idx
  split
  ·simp only [List.getElem?_replicate]; split <;> rfl
  ·rfl
 have hset:∀ k,at_ ((List.replicate g.length (-1:Int)).set a.toNat 0) k=if k=a then 0 else -1:=fun k=>by
  rw [at_set h0 hl,hrep]
 refine ⟨by simp,?_,?_,?_,by simp,?_,?_,?_,?_,?_,?_,by simp⟩
 ·intro u hu
  obtain rfl:u=a:=by simpa using hu
  exact ⟨by show 0≤at_ (List.set _ _ _) u;rw [hset,if_pos rfl];omega,.refl⟩
 ·intro k hk
  replace hk:0≤at_ ((List.replicate g.length (-1:Int)).set a.toNat 0) k:=hk
  rw [hset] at hk
  split at hk
  ·rename_i e;subst e;simp
  ·omega
 ·intro k; show -1≤at_ (List.set _ _ _) k; rw [hset]; split <;> omega
 ·intro k; show at_ (List.set _ _ _) k < _; rw [hset]; split <;> simp
 ·intro k hk;exact .inl (by simpa using hk)
 ·show at_ (List.set _ _ _) a=0;rw [hset,if_pos rfl]
 ·intro j hj;omega
 ·intro j k u v hjk hj hk
  have:=(List.getElem?_eq_some_iff.1 hk).1;simp at this;omega
 ·intro u hu v hv
  have hv:v=a:=by simpa using hv
  have hu:u=a:=by simpa using hu.symm
  subst hv;subst hu;omega
def lev (g:List (List Int)) (a:Int):List Int:=(bfs g (g.length + 1) 0 ((List.replicate g.length (-1)).set a.toNat 0,[a])).1
theorem lev_lv {g:List (List Int)} {a:Int} (hg:Gd_ g) (h0:0≤a) (h1:a < g.length):Lv g a (lev g a):=bfs_lv hg _ _ (Iv.init h0 h1) (by omega)
theorem Lv.unique {g:List (List Int)} {a:Int} {x y:List Int} (h:Lv g a x) (k:Lv g a y):x=y:=by
 have key:∀ {x y:List Int},Lv g a x→Lv g a y→∀ (n:Nat) v,Rch g a v→at_ x v=n→at_ y v≤n:=by
  intro x y h k n
  induction n with
  | zero=>
   intro v hv hx
   by_cases hva:v=a
   ·subst hva;rw [k.za];omega
   ·obtain ⟨p,hp,_,e⟩:=h.par v hv hva
    have:=(h.rch p).2 hp
    omega
  | succ n ih=>
   intro v hv hx
   by_cases hva:v=a
   ·subst hva;rw [k.za];omega
   ·obtain ⟨p,hp,he,e⟩:=h.par v hv hva
    have h1:=ih p hp (by omega)
    have h2:=k.edge p v hp he
    omega
 have hat:∀ v,at_ x v=at_ y v:=fun v=>by
  by_cases hv:Rch g a v
  ·have h1:=(h.rch v).2 hv
   have h2:=(k.rch v).2 hv
   obtain ⟨m,hm⟩:=Int.eq_ofNat_of_zero_le h1
   obtain ⟨n,hn⟩:=Int.eq_ofNat_of_zero_le h2
   have:=key h k m v hv hm
   have:=key k h n v hv hn
   omega
  ·have h1:¬ 0≤at_ x v:=fun e=>hv ((h.rch v).1 e)
   have h2:¬ 0≤at_ y v:=fun e=>hv ((k.rch v).1 e)
   have:=h.neg v;have:=k.neg v
   omega
 apply List.ext_getElem (by rw [h.len,k.len])
 intro i h1 h2
 have:=hat i
 rw [at_idx (x:=x[i]) (by simp [idx,h1]),at_idx (x:=y[i]) (by simp [idx,h2])] at this
 exact this
end Go.Pn
namespace Go.Pn
structure Op (g og:List (List Int)):Prop where
 len:og.length=g.length
 edge:∀ a b,Edge og b a↔Edge g a b
theorem Rch.cons {g:List (List Int)} {a b c:Int} (e:Edge g a b) (h:Rch g b c):Rch g a c:=(Rch.step .refl e).trans h
theorem Op.rch {g og:List (List Int)} (h:Op g og) {a b:Int}:Rch og b a↔Rch g a b:=by
 constructor
 ·intro k
  induction k with
  | refl=>exact .refl
  | step _ e ih=>exact .cons ((h.edge _ _).1 e) ih
 ·intro k
  induction k with
  | refl=>exact .refl
  | step _ e ih=>exact .cons ((h.edge _ _).2 e) ih
def oprow (g:List (List Int)) (k:Int):List Int:=(List.range g.length).flatMap fun (i:Nat)=>((g.getD i []).filter (· == k)).map fun _=>(i:Int)
def opp (g:List (List Int)):List (List Int):=(List.range g.length).map fun (k:Nat)=>oprow g (k:Int)
theorem mem_oprow {g:List (List Int)} {k i:Int}:i∈oprow g k↔Edge g i k:=by
 unfold oprow Edge
 simp only [List.mem_flatMap,List.mem_range,List.mem_map,List.mem_filter,beq_iff_eq]
 constructor
 ·rintro ⟨j,hj,x,⟨hx,rfl⟩,rfl⟩
  exact ⟨g[j],by rw [idx_nat];simp [hj],by simpa [hj] using hx⟩
 ·rintro ⟨l,hl,hk⟩
  obtain ⟨h0,h1,h2⟩:=idx_some hl
  have h3:i.toNat < g.length:=by omega
  exact ⟨i.toNat,h3,k,⟨by simpa [h2] using hk,rfl⟩,by omega⟩
theorem opp_op {g:List (List Int)} (hg:Gd_ g):Op g (opp g):=by
 refine ⟨by simp [opp],fun a b=>?_⟩
 constructor
 ·rintro ⟨l,hl,ha⟩
  obtain ⟨h0,h1,h2⟩:=idx_some hl
  have h3:b.toNat < g.length:=by simpa [opp] using (show b.toNat < (opp g).length by omega)
  have hb:((b.toNat:Nat):Int)=b:=by omega
  rw [opp,List.getElem?_map,List.getElem?_range h3] at h2
  simp only [Option.map_some,Option.some.injEq] at h2
  subst h2
  rw [hb] at ha
  exact mem_oprow.1 ha
 ·intro e
  obtain ⟨h0,h1⟩:=hg.edge e
  have h3:b.toNat < g.length:=by omega
  have hb:((b.toNat:Nat):Int)=b:=by omega
  exact ⟨oprow g b,by simp [idx,h0,opp,h3,hb],mem_oprow.2 e⟩
theorem opp_gd {g:List (List Int)} (hg:Gd_ g):Gd_ (opp g):=by
 intro l hl k hk
 obtain ⟨j,_,rfl⟩:=List.mem_map.1 hl
 have:=(mem_oprow.1 hk).lt
 simpa [opp] using this
theorem Rch.lt {g:List (List Int)} (hg:Gd_ g) {a b:Int} (h:Rch g a b) (ha:0≤a∧a < g.length):0≤b∧b < g.length:=by
 cases h with
 | refl=>exact ha
 | step _ e=>exact hg.edge e
def Cm (g:List (List Int)) (i:Int):Prop:=∀ k,Rch g i k→Rch g k i
theorem Cm.next {g:List (List Int)} {i k:Int} (h:Cm g i) (r:Rch g i k):Cm g k:=fun j hj=>(h j (r.trans hj)).trans r
theorem cnt_lt {α:Type} {p q:α→Bool}:∀ {l:List α},(∀ x∈l,p x=true→q x=true)→(∃ x∈l,q x=true∧p x=false)→l.countP p < l.countP q
 | [],_,⟨x,hx,_⟩=>by simp at hx
 | y :: l,h,⟨x,hx,h1,h2⟩=>by
  have hle:l.countP p≤l.countP q:=List.countP_mono_left fun z hz=>h z (by simp [hz])
  rw [List.countP_cons,List.countP_cons]
  rcases List.mem_cons.1 hx with rfl | hx
  ·simp [h1,h2];omega
  ·have:=cnt_lt (l:=l) (fun z hz=>h z (by simp [hz])) ⟨x,hx,h1,h2⟩
   have hy:=h y (by simp)
   cases hp:p y
   ·simp;omega
   ·simp [hy hp];omega
open Classical in
theorem core_some {g:List (List Int)} (hg:Gd_ g) {a:Int} (ha:0≤a∧a < g.length):∃ i,Rch g a i∧Cm g i:=by
 have key:∀ (m:Nat) i,Rch g a i→(List.range g.length).countP (fun (k:Nat)=>decide (Rch g i k))≤m→∃ i,Rch g a i∧Cm g i:=by
  intro m
  induction m with
  | zero=>
   intro i hi hc
   have hl:=hi.lt hg ha
   have:(0:Nat) < (List.range g.length).countP (fun (k:Nat)=>decide (Rch g i k)):=by
    refine List.countP_pos_iff.2 ⟨i.toNat,by simp;omega,?_⟩
    have:((i.toNat:Nat):Int)=i:=by omega
    simp only [this,decide_eq_true_eq];exact .refl
   omega
  | succ m ih=>
   intro i hi hc
   by_cases hcm:Cm g i
   ·exact ⟨i,hi,hcm⟩
   ·have:∃ k,Rch g i k∧¬ Rch g k i:=Classical.byContradiction fun hn=>hcm fun k hk=>Classical.byContradiction fun hb=>hn ⟨k,hk,hb⟩
    obtain ⟨k,hk,hnk⟩:=this
    refine ih k (hi.trans hk) ?_
    have hl:=hi.lt hg ha
    have hi':((i.toNat:Nat):Int)=i:=by omega
    have:=cnt_lt (p:=fun (j:Nat)=>decide (Rch g k j)) (q:=fun (j:Nat)=>decide (Rch g i j)) (l:=List.range g.length)
     (fun x _ hx=>by simp only [decide_eq_true_eq] at hx ⊢;exact hk.trans hx) ⟨i.toNat,by simp;omega,by simp only [hi',decide_eq_true_eq];exact .refl,by simp only [hi',decide_eq_false_iff_not];exact hnk⟩
    omega
 exact key _ a .refl (Nat.le_refl _)
def Wk (g:List (List Int)):Nat→Int→Int→Prop
 | 0,a,b=>a=b
 | n + 1,a,b=>∃ c,Wk g n a c∧Edge g c b
theorem Wk.cons {g:List (List Int)} {a c:Int} (e:Edge g a c):∀ {n:Nat} {b:Int},Wk g n c b→Wk g (n + 1) a b
 | 0,b,h=>by
  have h:c=b:=h
  subst h;exact ⟨a,rfl,e⟩
 | n + 1,b,⟨d,h,e2⟩=>⟨d,Wk.cons e h,e2⟩
theorem Wk.rev {g og:List (List Int)} (ho:Op g og):∀ {n:Nat} {a b:Int},Wk g n a b→Wk og n b a
 | 0,a,b,h=>by
  have h:a=b:=h
  subst h;rfl
 | n + 1,a,b,⟨c,h,e⟩=>Wk.cons ((ho.edge _ _).2 e) (Wk.rev ho h)
theorem Op.symm {g og:List (List Int)} (h:Op g og):Op og g:=⟨h.len.symm,fun a b=>(h.edge b a).symm⟩
theorem Lv.wk {g:List (List Int)} {a:Int} {out:List Int} (h:Lv g a out):∀ {n:Nat} {b:Int},Wk g n a b→Rch g a b∧at_ out b≤n
 | 0,b,k=>by
  have k:a=b:=k
  subst k;exact ⟨.refl,by rw [h.za];omega⟩
 | n + 1,b,⟨c,k,e⟩=>by
  obtain ⟨h1,h2⟩:=h.wk k
  have:=h.edge c b h1 e
  exact ⟨.step h1 e,by omega⟩
theorem Lv.wk_of {g:List (List Int)} {a:Int} {out:List Int} (h:Lv g a out):∀ (n:Nat) {b:Int},at_ out b=n→Wk g n a b
 | 0,b,k=>by
  by_cases e:b=a
  ·exact e.symm
  ·obtain ⟨p,hp,_,e2⟩:=h.par b ((h.rch b).1 (by omega)) e
   have:=(h.rch p).2 hp;omega
 | n + 1,b,k=>by
  have e:b≠a:=fun e=>by subst e;have:=h.za;omega
  obtain ⟨p,hp,he,e2⟩:=h.par b ((h.rch b).1 (by omega)) e
  exact ⟨p,h.wk_of n (by omega),he⟩
theorem Lv.turn {g og:List (List Int)} (ho:Op g og) {a b:Int} {x y:List Int} (h:Lv g a x) (k:Lv og b y):at_ x b=at_ y a:=by
 by_cases hr:Rch g a b
 ·have h1:=(h.rch b).2 hr
  have h2:=(k.rch a).2 (ho.rch.2 hr)
  obtain ⟨m,hm⟩:=Int.eq_ofNat_of_zero_le h1
  obtain ⟨n,hn⟩:=Int.eq_ofNat_of_zero_le h2
  have h3:=(k.wk ((h.wk_of m hm).rev ho)).2
  have h4:=(h.wk ((k.wk_of n hn).rev ho.symm)).2
  omega
 ·have h1:¬ 0≤at_ x b:=fun e=>hr ((h.rch b).1 e)
  have h2:¬ 0≤at_ y a:=fun e=>hr (ho.rch.1 ((k.rch a).1 e))
  have:=h.neg b;have:=k.neg a
  omega
end Go.Pn
namespace Go.Pn
open Go
theorem wr_nat {i:Nat} (h:i < 4611686018427387904):wr ((i:Int) + 1)=((i + 1:Nat):Int):=by
 rw [wr_id (by omega) (by omega)];rfl
theorem lt_dec {i n:Nat}:decide ((i:Int) < (n:Int))=decide (i < n):=by
 simp
theorem m124_l1_spec (xs:List Int) (x:Int) (hl:xs.length < 4611686018427387904):∀ (n i:Nat),i≤xs.length→xs.length - i < n →
  (∃ j:Nat,m124_l1 xs x n i=some (.ret j)∧x∈xs)∨(∃ z,m124_l1 xs x n i=some (.brk z)∧x ∉ xs.drop i)
 | 0,i,_,h=>by omega
 | n + 1,i,h1,h2=>by
  unfold m124_l1
  by_cases hi:i < xs.length
  ·rw [lt_dec,decide_eq_true hi,cond_true,idx_nat,List.getElem?_eq_getElem hi,Option.bind_some]
   by_cases hx:x=xs[i]
   ·left
    refine ⟨i,by simp [hx],by rw [hx];exact List.getElem_mem hi⟩
   ·rw [beq_eq_false_iff_ne.2 hx,cond_false,wr_nat (by omega)]
    rcases m124_l1_spec xs x hl n (i + 1) (by omega) (by omega) with h | ⟨z,h,hn⟩
    ·exact .inl h
    ·refine .inr ⟨z,h,?_⟩
     rw [List.drop_eq_getElem_cons hi]
     exact fun h=>(List.mem_cons.1 h).elim hx hn
  ·rw [lt_dec,decide_eq_false hi,cond_false]
   refine .inr ⟨_,rfl,?_⟩
   rw [List.drop_eq_nil_of_le (by omega)];simp
theorem m58_spec {f:Nat} {xs:List Int} {x:Int} (hl:xs.length < 4611686018427387904) (hf:xs.length < f):m58 f xs x=some (decide (x∈xs)):=by
 unfold m58 m124
 have h0:((0:Nat):Int)=0:=rfl
 rw [← h0]
 rcases m124_l1_spec xs x hl f 0 (by omega) (by omega) with ⟨j,h,hm⟩ | ⟨z,h,hn⟩
 ·rw [h];simp [hm]
 ·rw [h];simp at hn;simp [hn]
theorem m115_l2_spec (g:List (List Int)) (a:Int) (u:Int) (i0:Nat) (hg:Gd_ g) (hgl:g.length < 1000000000) (l:List Int) (hll:l.length < 4611686018427387904) (hl:∀ x∈l,Edge g u x) (z5:Int×List Int×List Int) (hz:z5.1=i0) :
  ∀ (n i:Nat) (st:List Int×List Int),Iv g a i0 st→st.2[i0]?=some u→i≤l.length→l.length - i < n →
   m115_l2 z5 l n (i,st.1,st.2)=some ((l.length:Int),(brow u (l.drop i) st).1,(brow u (l.drop i) st).2)
 | 0,i,_,_,_,_,h=>by omega
 | n + 1,i,st,h,hu,h1,h2=>by
  unfold m115_l2
  by_cases hi:i < l.length
  ·have hx:=List.getElem_mem hi
   have he:=hl _ hx
   have hxl:=hg.edge he
   have hux:u∈st.2:=List.mem_of_getElem? hu
   have hul:=at_nn (h.q u hux).1
   obtain ⟨h',hgr,_,_⟩:=h.step hg hu he
   dsimp only
   rw [lt_dec,decide_eq_true hi,cond_true,idx_nat,List.getElem?_eq_getElem hi,Option.bind_some,idx_at hxl.1 (by rw [h.len];exact hxl.2),Option.bind_some]
   have hd:l.drop i=l[i] :: l.drop (i + 1):=List.drop_eq_getElem_cons hi
   rw [hd]
   have hb:brow u (l[i] :: l.drop (i + 1)) st=brow u (l.drop (i + 1)) (bstep u st l[i]):=rfl
   rw [hb,wr_nat (by omega)]
   have ih:=m115_l2_spec g a u i0 hg hgl l hll hl z5 hz n (i + 1) (bstep u st l[i]) h' (hgr.pre _ _ hu) (by omega) (by omega)
   rw [← ih]
   by_cases hc:at_ st.1 l[i] < 0
   ·have hql:=h.qlen
    have hbd:=h.bnd u
    have hneg:=h.neg u
    rw [decide_eq_true hc,cond_true,hz,idx_nat,hu,Option.bind_some,idx_at hul.1 hul.2,Option.bind_some,Option.bind_some]
    unfold app
    rw [if_pos (by simp;omega),Option.bind_some,Option.bind_some,wr_id (by omega) (by omega)]
    unfold bstep
    rw [if_pos hc]
   ·rw [decide_eq_false hc,cond_false,Option.bind_some]
    unfold bstep
    rw [if_neg hc]
  ·rw [lt_dec,decide_eq_false hi,cond_false]
   rw [List.drop_eq_nil_of_le (by omega)]
   have:i=l.length:=by omega
   subst this;rfl
theorem m115_l1_spec (f:Nat) (g:List (List Int)) (a:Int) (hg:Gd_ g) (hgl:g.length < 1000000000) (hrow:∀ l∈g,l.length < f∧l.length < 4611686018427387904) :
  ∀ (n i:Nat) (st:List Int×List Int),Iv g a i st→g.length < n + i →
   ∃ z,m115_l1 f g n (i,st.1,st.2)=some (z,(bfs g n i st).1,(bfs g n i st).2)
 | 0,i,st,h,h1=>by
  have:=h.qlen;have:=h.il;omega
 | n + 1,i,st,h,h1=>by
  unfold m115_l1 bfs
  have hql:=h.qlen
  by_cases hi:i < st.2.length
  ·dsimp only
   rw [lt_dec,decide_eq_true hi,cond_true,idx_nat,List.getElem?_eq_getElem hi,Option.bind_some]
   have hu:st.2[i]?=some st.2[i]:=List.getElem?_eq_getElem hi
   have hnn:=at_nn (h.q _ (List.getElem_mem hi)).1
   rw [h.len] at hnn
   obtain ⟨l,hl,hlm⟩:=idx_of (xs:=g) hnn.1 hnn.2
   rw [hl,Option.bind_some]
   have hz:((0:Nat):Int)=0:=rfl
   have:=m115_l2_spec g a st.2[i] i hg hgl l (hrow l hlm).2 (fun x hx=>⟨l,hl,hx⟩) ((i:Int),st.1,st.2) rfl f 0 st h hu (by omega) (by have:=(hrow l hlm).1;omega)
   rw [hz] at this
   rw [this,Option.bind_some,wr_nat (by omega)]
   have h2:=(h.next hg hu)
   rw [hl] at h2
   simp only [Option.getD_some,List.drop_zero] at h2 ⊢
   have ih:=m115_l1_spec f g a hg hgl hrow n (i + 1) _ h2.1 (by omega)
   rw [hl]
   exact ih
  ·dsimp only
   rw [lt_dec,decide_eq_false hi,cond_false,List.getElem?_eq_none (by omega)]
   exact ⟨_,rfl⟩
def FF:Nat:=100000
theorem rep_tab:((List.range 41).all fun n=>n == 0 || (m99 100000 [(-1:Int)] (n:Int) == some (List.replicate n (-1))))=true:=by kernel_rfl
theorem rep_spec {n:Nat} (h0:0 < n) (h:n≤40):m99 FF [(-1:Int)] (n:Int)=some (List.replicate n (-1)):=by
 have:=List.all_eq_true.1 rep_tab n (List.mem_range.2 (by omega))
 have h1:(n == 0)=false:=by simp;omega
 rw [h1] at this
 show m99 100000 _ _=_
 simpa using this
theorem m115_spec {g:List (List Int)} {a:Int} (hg:Gd_ g) (hgl:g.length≤40) (hrow:∀ l∈g,l.length < 100000) (h0:0≤a) (h1:a < g.length):m115 FF g a=some (lev g a):=by
 unfold m115
 rw [rep_spec (by omega) hgl,Option.bind_some,idx_at h0 (by simpa using h1),Option.bind_some]
 obtain ⟨z,hz⟩:=m115_l1_spec FF g a hg (by omega) (fun l hl=>⟨hrow l hl,by have:=hrow l hl;omega⟩) FF 0 _ (Iv.init h0 h1) (by unfold FF;omega)
 have e0:((0:Nat):Int)=0:=rfl
 rw [e0] at hz
 rw [hz,Option.bind_some]
 have hb:∀ (n i:Nat) (st:List Int×List Int),Iv g a i st→g.length < n + i→(bfs g n i st).1=lev g a:=fun n i st h hn=>
  Lv.unique (bfs_lv hg n i h hn) (lev_lv hg h0 h1)
 rw [hb _ _ _ (Iv.init h0 h1) (by unfold FF;omega)]
def oto (g:List (List Int)) (i j:Nat):List (List Int):=(List.range g.length).map fun (k:Nat)=>
 ((List.range i).flatMap fun (i:Nat)=>((g.getD i []).filter (· == (k:Int))).map fun _=>(i:Int)) ++ (((g.getD i []).take j).filter (· == (k:Int))).map fun _=>(i:Int)
theorem oto_len {g:List (List Int)} {i j:Nat}:(oto g i j).length=g.length:=by simp [oto]
theorem oto_get {g:List (List Int)} {i j k:Nat} (h:k < g.length):(oto g i j)[k]?=some (((List.range i).flatMap fun (i:Nat)=>((g.getD i []).filter (· == (k:Int))).map fun _=>(i:Int)) ++ (((g.getD i []).take j).filter (· == (k:Int))).map fun _=>(i:Int)):=by
 simp [oto,h]
theorem oto_next {g:List (List Int)} {i:Nat}:oto g i (g.getD i []).length=oto g (i + 1) 0:=by
 unfold oto
 refine List.map_congr_left fun k _=>?_
 rw [List.range_succ,List.flatMap_append]
 simp
theorem oto_opp {g:List (List Int)}:oto g g.length 0=opp g:=by
 unfold oto opp oprow
 refine List.map_congr_left fun k _=>?_
 simp
theorem oto_zero {g:List (List Int)}:oto g 0 0=List.replicate g.length []:=by
 unfold oto
 simp [List.map_const']
theorem oto_step {g:List (List Int)} {i j:Nat} {l:List Int} {k:Int} {r:List Int} (hl:g[i]?=some l) (hj:l[j]?=some k) (hk0:0≤k) (hk:k < g.length) (hr:idx (oto g i j) k=some r):(oto g i j).set k.toNat (r ++ [(i:Int)])=oto g i (j + 1):=by
 have hgd:g.getD i []=l:=by simp [hl]
 refine List.ext_getElem? fun q=>?_
 by_cases hq:q < g.length
 ·by_cases e:q=k.toNat
  ·subst e
   rw [List.getElem?_set_self (by rw [oto_len];omega)]
   rw [oto_get hq]
   have h2:(oto g i j)[k.toNat]?=some r:=(idx_some hr).2.2
   rw [oto_get hq] at h2
   have h2:=Option.some.inj h2
   rw [← h2,hgd]
   have hkk:((k.toNat:Nat):Int)=k:=by omega
   rw [hkk]
   have ht:l.take (j + 1)=l.take j ++ [k]:=by
    rw [List.take_add_one,hj];rfl
   rw [ht]
   simp
  ·rw [List.getElem?_set_ne (by omega),oto_get hq,oto_get hq,hgd]
   have ht:l.take (j + 1)=l.take j ++ [k]:=by
    rw [List.take_add_one,hj];rfl
   have hne:(k == (q:Int))=false:=by simp;omega
   rw [ht]
   simp [List.filter_append,hne]
 ·rw [List.getElem?_eq_none (by simp [oto_len];omega),List.getElem?_eq_none (by simp [oto_len];omega)]
theorem oto_row {g:List (List Int)} {i j:Nat} {B:Nat} (hB:∀ l∈g,l.length≤B) (hj:j≤B):∀ r∈oto g i j,r.length≤(i + 1) * B:=by
 intro r hr
 unfold oto at hr
 obtain ⟨k,hk,rfl⟩:=List.mem_map.1 hr
 have h1:∀ i:Nat,((g.getD i []).filter (· == (k:Int))).length≤B:=fun i=>by
  refine Nat.le_trans (List.length_filter_le _ _) ?_
  cases h:g[i]? with
  | none=>simp [h]
  | some l=>simpa [h] using hB l (List.mem_of_getElem? h)
 rw [List.length_append,List.length_map]
 have h2:∀ i:Nat,((List.range i).flatMap fun (i:Nat)=>((g.getD i []).filter (· == (k:Int))).map fun _=>(i:Int)).length≤i * B:=by
  intro i
  induction i with
  | zero=>simp
  | succ i ih=>
   rw [List.range_succ,List.flatMap_append,List.length_append]
   have:=h1 i
   simp only [List.flatMap_cons,List.flatMap_nil,List.append_nil,List.length_map]
   rw [Nat.succ_mul];omega
 have h3:(((g.getD i []).take j).filter (· == (k:Int))).length≤B:=by
  refine Nat.le_trans (List.length_filter_le _ _) ?_
  rw [List.length_take];omega
 have:=h2 i
 rw [Nat.succ_mul];omega
theorem m116_l2_spec (g:List (List Int)) (hg:Gd_ g) (i0:Nat) (l:List Int) (hl:g[i0]?=some l) (B:Nat) (hB:∀ l∈g,l.length≤B) (hBs:(i0 + 1) * B < 1000000000) (z3:Int×List (List Int)) (hz:z3.1=i0) :
  ∀ (n i:Nat),i≤l.length→l.length - i < n→∃ z,m116_l2 z3 l n (i,oto g i0 i)=some (z,oto g i0 l.length)
 | 0,i,_,h=>by omega
 | n + 1,i,h1,h2=>by
  unfold m116_l2
  have hlB:=hB l (List.mem_of_getElem? hl)
  have hB1:B≤(i0 + 1) * B:=Nat.le_mul_of_pos_left _ (by omega)
  by_cases hi:i < l.length
  ·dsimp only
   have hx:=List.getElem_mem hi
   have hxl:=hg l (List.mem_of_getElem? hl) _ hx
   rw [lt_dec,decide_eq_true hi,cond_true,idx_nat,List.getElem?_eq_getElem hi,Option.bind_some]
   obtain ⟨r,hr,hrm⟩:=idx_of (xs:=oto g i0 i) hxl.1 (by rw [oto_len];exact hxl.2)
   rw [hr,Option.bind_some]
   unfold app
   have hrl:=oto_row (g:=g) (i:=i0) hB (show i≤B by omega) r hrm
   rw [if_pos (by simp;omega),Option.bind_some,hz,oto_step hl (List.getElem?_eq_getElem hi) hxl.1 hxl.2 hr,wr_nat (by omega)]
   exact m116_l2_spec g hg i0 l hl B hB hBs z3 hz n (i + 1) (by omega) (by omega)
  ·dsimp only
   rw [lt_dec,decide_eq_false hi,cond_false]
   have:i=l.length:=by omega
   subst this;exact ⟨_,rfl⟩
theorem m116_l1_spec (f:Nat) (g:List (List Int)) (hg:Gd_ g) (B:Nat) (hB:∀ l∈g,l.length≤B) (hBs:(g.length + 1) * B < 1000000000) (hf:B < f) :
  ∀ (n i:Nat),i≤g.length→g.length - i < n→g.length < 1000000000→∃ z,m116_l1 f g n (i,oto g i 0)=some (z,opp g)
 | 0,i,_,h,_=>by omega
 | n + 1,i,h1,h2,h3=>by
  unfold m116_l1
  by_cases hi:i < g.length
  ·dsimp only
   rw [lt_dec,decide_eq_true hi,cond_true,idx_nat,List.getElem?_eq_getElem hi,Option.bind_some]
   have hl:g[i]?=some g[i]:=List.getElem?_eq_getElem hi
   have hlB:=hB _ (List.getElem_mem hi)
   obtain ⟨z,hz⟩:=m116_l2_spec g hg i g[i] hl B hB (Nat.lt_of_le_of_lt (Nat.mul_le_mul_right _ (by omega)) hBs) ((i:Int),oto g i 0) rfl f 0 (by omega) (by omega)
   have e0:((0:Nat):Int)=0:=rfl
   rw [e0] at hz
   rw [hz,Option.bind_some,wr_nat (by omega)]
   have hn:oto g i g[i].length=oto g (i + 1) 0:=by rw [← oto_next];simp [hl]
   rw [hn]
   exact m116_l1_spec f g hg B hB hBs hf n (i + 1) (by omega) (by omega) h3
  ·dsimp only
   rw [lt_dec,decide_eq_false hi,cond_false]
   have:i=g.length:=by omega
   subst this;rw [oto_opp];exact ⟨_,rfl⟩
theorem m116_spec {g:List (List Int)} (hg:Gd_ g) (hgl:g.length≤40) (hrow:∀ l∈g,l.length≤40):m116 FF g=some (opp g):=by
 unfold m116 mks
 rw [if_pos (by omega),Option.bind_some,Int.toNat_natCast,← oto_zero]
 obtain ⟨z,hz⟩:=m116_l1_spec FF g hg 40 hrow (by omega) (by unfold FF;omega) FF 0 (by omega) (by unfold FF;omega) (by omega)
 have e0:((0:Nat):Int)=0:=rfl
 rw [e0] at hz
 rw [hz,Option.bind_some]
theorem opp_row {g:List (List Int)} (hgl:g.length≤40) (hrow:∀ l∈g,l.length≤40):∀ l∈opp g,l.length < 100000:=by
 intro l hl
 rw [← oto_opp] at hl
 have:=oto_row (g:=g) (i:=g.length) hrow (show 0≤40 by omega) l hl
 omega
theorem opp_len {g:List (List Int)}:(opp g).length=g.length:=by simp [opp]
def bad (n:Nat) (k:Int):Bool:=decide (k < 0) || decide (k≥(n:Int))
theorem m122_l1_spec (f:Nat) (xs:List Int) (v:Space) (hl:xs.length < 4611686018427387904):∀ (n i:Nat),i≤xs.length→xs.length - i < n →
  (∃ j:Nat,m122_l1 f xs v n i=some (.ret j)∧(xs.drop i).any (bad v.States.length)=true)∨(∃ z,m122_l1 f xs v n i=some (.brk z)∧(xs.drop i).any (bad v.States.length)=false)
 | 0,i,_,h=>by omega
 | n + 1,i,h1,h2=>by
  unfold m122_l1
  by_cases hi:i < xs.length
  ·rw [lt_dec,decide_eq_true hi,cond_true,idx_nat,List.getElem?_eq_getElem hi,Option.bind_some]
   have hd:xs.drop i=xs[i] :: xs.drop (i + 1):=List.drop_eq_getElem_cons hi
   unfold m193
   rw [Option.bind_some,hd,List.any_cons]
   change _∨_
   by_cases hx:bad v.States.length xs[i]=true
   ·left
    unfold bad at hx ⊢
    rw [hx]
    exact ⟨i,rfl,rfl⟩
   ·have hx:=Bool.eq_false_iff.2 hx
    rw [hx]
    unfold bad at hx
    rw [hx,cond_false,wr_nat (by omega),Bool.false_or]
    exact m122_l1_spec f xs v hl n (i + 1) (by omega) (by omega)
  ·rw [lt_dec,decide_eq_false hi,cond_false]
   refine .inr ⟨_,rfl,?_⟩
   rw [List.drop_eq_nil_of_le (by omega)];rfl
theorem m192_spec {f:Nat} {xs:List Int} {v:Space} (hl:xs.length < 4611686018427387904) (hf:xs.length < f):m192 f xs v=some (xs.any (bad v.States.length)):=by
 unfold m192 m122
 have h0:((0:Nat):Int)=0:=rfl
 rw [← h0]
 rcases m122_l1_spec f xs v hl f 0 (by omega) (by omega) with ⟨j,h,hm⟩ | ⟨z,h,hn⟩
 ·rw [h];simp only [List.drop_zero] at hm;rw [hm];simp
 ·rw [h];simp only [List.drop_zero] at hn;rw [hn];simp
theorem m114_l1_spec (f:Nat) (v:Space) (hl:v.Moves.length < 4611686018427387904) (hrow:∀ l∈v.Moves,l.length < f∧l.length < 4611686018427387904):∀ (n i:Nat),i≤v.Moves.length→v.Moves.length - i < n →
  (m114_l1 f v n i=some (.ret 6)∧(v.Moves.drop i).any (fun l=>l.any (bad v.States.length))=true)∨(∃ z,m114_l1 f v n i=some (.brk z)∧(v.Moves.drop i).any (fun l=>l.any (bad v.States.length))=false)
 | 0,i,_,h=>by omega
 | n + 1,i,h1,h2=>by
  unfold m114_l1
  by_cases hi:i < v.Moves.length
  ·have hr:=hrow _ (List.getElem_mem hi)
   rw [lt_dec,decide_eq_true hi,cond_true,idx_nat,List.getElem?_eq_getElem hi,Option.bind_some,m192_spec hr.2 hr.1,Option.bind_some]
   have hd:v.Moves.drop i=v.Moves[i] :: v.Moves.drop (i + 1):=List.drop_eq_getElem_cons hi
   rw [hd,List.any_cons]
   cases hx:v.Moves[i].any (bad v.States.length) with
   | true=>exact .inl ⟨rfl,rfl⟩
   | false=>
    rw [cond_false,wr_nat (by omega),Bool.false_or]
    exact m114_l1_spec f v hl hrow n (i + 1) (by omega) (by omega)
  ·rw [lt_dec,decide_eq_false hi,cond_false]
   refine .inr ⟨_,rfl,?_⟩
   rw [List.drop_eq_nil_of_le (by omega)];rfl
theorem m56_l2_spec (v:Space) (i0:Nat) (l:List Int) (hl0:v.Moves[i0]?=some l) (hl:l.length < 4611686018427387904):∀ (n i:Nat),i≤l.length→l.length - i < n →
  (m56_l2 v i0 n i=some (.ret 6)∧(l.drop i).any (bad v.States.length)=true)∨(∃ z,m56_l2 v i0 n i=some (.brk z)∧(l.drop i).any (bad v.States.length)=false)
 | 0,i,_,h=>by omega
 | n + 1,i,h1,h2=>by
  unfold m56_l2
  rw [idx_nat,hl0,Option.bind_some]
  by_cases hi:i < l.length
  ·rw [lt_dec,decide_eq_true hi,cond_true]
   simp only [Option.bind_some,idx_nat,List.getElem?_eq_getElem hi]
   have hd:l.drop i=l[i] :: l.drop (i + 1):=List.drop_eq_getElem_cons hi
   rw [hd,List.any_cons]
   have hb:(bif decide (l[i] < (0:Int)) then some true else some (decide (l[i]≥((v.States.length:Nat):Int))))=some (bad v.States.length l[i]):=by
    unfold bad
    cases decide (l[i] < (0:Int)) <;> rfl
   rw [hb,Option.bind_some]
   cases hx:bad v.States.length l[i] with
   | true=>exact .inl ⟨rfl,rfl⟩
   | false=>
    rw [cond_false,wr_nat (by omega),Bool.false_or]
    exact m56_l2_spec v i0 l hl0 hl n (i + 1) (by omega) (by omega)
  ·rw [lt_dec,decide_eq_false hi,cond_false]
   refine .inr ⟨_,rfl,?_⟩
   rw [List.drop_eq_nil_of_le (by omega)];rfl
theorem m56_l1_spec (f:Nat) (v:Space) (hl:v.Moves.length < 4611686018427387904) (hrow:∀ l∈v.Moves,l.length < f∧l.length < 4611686018427387904):∀ (n i:Nat),i≤v.Moves.length→v.Moves.length - i < n →
  (m56_l1 f v n i=some (.ret 6)∧(v.Moves.drop i).any (fun l=>l.any (bad v.States.length))=true)∨(∃ z,m56_l1 f v n i=some (.brk z)∧(v.Moves.drop i).any (fun l=>l.any (bad v.States.length))=false)
 | 0,i,_,h=>by omega
 | n + 1,i,h1,h2=>by
  unfold m56_l1
  by_cases hi:i < v.Moves.length
  ·have hr:=hrow _ (List.getElem_mem hi)
   rw [lt_dec,decide_eq_true hi,cond_true]
   have hd:v.Moves.drop i=v.Moves[i] :: v.Moves.drop (i + 1):=List.drop_eq_getElem_cons hi
   rw [hd,List.any_cons]
   have h0:((0:Nat):Int)=0:=rfl
   rcases m56_l2_spec v i v.Moves[i] (List.getElem?_eq_getElem hi) hr.2 f 0 (by omega) (by omega) with ⟨h,hm⟩ | ⟨z,h,hn⟩
   ·rw [h0] at h
    rw [h];simp only [List.drop_zero] at hm;rw [hm]
    exact .inl ⟨rfl,rfl⟩
   ·rw [h0] at h
    rw [h];simp only [List.drop_zero] at hn;rw [hn]
    rw [Option.bind_some]
    dsimp only
    rw [wr_nat (by omega),Bool.false_or]
    exact m56_l1_spec f v hl hrow n (i + 1) (by omega) (by omega)
  ·rw [lt_dec,decide_eq_false hi,cond_false]
   refine .inr ⟨_,rfl,?_⟩
   rw [List.drop_eq_nil_of_le (by omega)];rfl
def shp (v:Space):Int:=
 bif v.States.length == 0 then 13 else bif decide (v.States.length > 16384) then 5 else bif v.Moves.length != v.States.length then 8 else bif v.Moves.any (fun l=>l.any (bad v.States.length)) then 6 else 0
theorem beq_cast {a b:Nat}:(((a:Nat):Int) == ((b:Nat):Int))=(a == b):=by
 rw [Bool.eq_iff_iff];simp;omega
theorem m114_spec {f:Nat} {v:Space} (hl:v.Moves.length < f) (hl2:v.Moves.length < 4611686018427387904) (hrow:∀ l∈v.Moves,l.length < f∧l.length < 4611686018427387904):m114 f v=some (shp v):=by
 have h0:((0:Nat):Int)=0:=rfl
 have h1:decide ((v.States.length:Int) > 16384)=decide (v.States.length > 16384):=decide_eq_decide.2 (by omega)
 have h2:(((v.Moves.length:Nat):Int) != ((v.States.length:Nat):Int))=(v.Moves.length != v.States.length):=congrArg (!·) beq_cast
 have h3:(((v.States.length:Nat):Int) == (0:Int))=(v.States.length == 0):=beq_cast (b:=0)
 unfold m114 shp
 rw [h3,h1,h2]
 cases v.States.length == 0
 ·cases decide (v.States.length > 16384)
  ·cases v.Moves.length != v.States.length
   ·simp only [cond_false]
    rcases m114_l1_spec f v hl2 hrow f 0 (by omega) (by omega) with ⟨h,hm⟩ | ⟨z,h,hn⟩
    ·rw [h0] at h;rw [h];simp only [List.drop_zero] at hm;rw [hm];rfl
    ·rw [h0] at h;rw [h];simp only [List.drop_zero] at hn;rw [hn];rfl
   ·rfl
  ·rfl
 ·rfl
theorem m56_spec {f:Nat} {v:Space} (hl:v.Moves.length < f) (hl2:v.Moves.length < 4611686018427387904) (hrow:∀ l∈v.Moves,l.length < f∧l.length < 4611686018427387904):m56 f v=some (shp v):=by
 have h0:((0:Nat):Int)=0:=rfl
 have h1:decide ((v.States.length:Int) > 16384)=decide (v.States.length > 16384):=decide_eq_decide.2 (by omega)
 have h2:(((v.Moves.length:Nat):Int) != ((v.States.length:Nat):Int))=(v.Moves.length != v.States.length):=congrArg (!·) beq_cast
 have h3:(((v.States.length:Nat):Int) == (0:Int))=(v.States.length == 0):=beq_cast (b:=0)
 unfold m56 shp
 rw [h3,h1,h2]
 cases v.States.length == 0
 ·cases decide (v.States.length > 16384)
  ·cases v.Moves.length != v.States.length
   ·simp only [cond_false]
    rcases m56_l1_spec f v hl2 hrow f 0 (by omega) (by omega) with ⟨h,hm⟩ | ⟨z,h,hn⟩
    ·rw [h0] at h;rw [h];simp only [List.drop_zero] at hm;rw [hm];rfl
    ·rw [h0] at h;rw [h];simp only [List.drop_zero] at hn;rw [hn];rfl
   ·rfl
  ·rfl
 ·rfl
theorem shp_zero {v:Space} (h:shp v=0):0 < v.States.length∧v.Moves.length=v.States.length∧Gd_ v.Moves:=by
 unfold shp at h
 cases h1:v.States.length == 0 <;> rw [h1] at h
 case true=>simp at h
 cases h2:decide (v.States.length > 16384) <;> rw [h2] at h
 case true=>simp at h
 cases h3:v.Moves.length != v.States.length <;> rw [h3] at h
 case true=>simp at h
 cases h4:v.Moves.any (fun l=>l.any (bad v.States.length)) <;> rw [h4] at h
 case true=>simp at h
 have h1:v.States.length≠0:=by simpa using h1
 have h3:v.Moves.length=v.States.length:=by simpa using h3
 refine ⟨by omega,h3,fun l hl k hk=>?_⟩
 rw [List.any_eq_false] at h4
 have h5:=h4 l hl
 rw [Bool.not_eq_true,List.any_eq_false] at h5
 have h6:=h5 k hk
 unfold bad at h6
 simp at h6
 omega
theorem m47_spec {f:Nat} (hf:300 < f) (v:Space):∃ b,m47 f v=some b∧(b=true→v.States.length≤40∧v.Moves.length≤200∧∀ l∈v.Moves,l.length≤40):=by
 have h0:((0:Nat):Int)=0:=rfl
 have h1:∀ (n i:Nat),v.Moves.length≤200→i≤v.Moves.length→v.Moves.length - i < n→(m47_l2 v n i=some (.ret false))∨(∃ z,m47_l2 v n i=some (.brk z)∧∀ l∈v.Moves.drop i,l.length≤40):=by
  intro n
  induction n with
  | zero=>intro i _ _ h;omega
  | succ n ih=>
   intro i hm h1 h2
   unfold m47_l2
   by_cases hi:i < v.Moves.length
   ·rw [lt_dec,decide_eq_true hi,cond_true,idx_nat,List.getElem?_eq_getElem hi,Option.bind_some]
    by_cases hx:((v.Moves[i].length:Int) > 40)
    ·rw [decide_eq_true hx];exact .inl rfl
    ·rw [decide_eq_false hx,cond_false,wr_nat (by omega)]
     refine (ih (i + 1) hm (by omega) (by omega)).imp id fun ⟨z,h,hn⟩=>⟨z,h,?_⟩
     rw [List.drop_eq_getElem_cons hi]
     exact fun l hl=>(List.mem_cons.1 hl).elim (fun e=>by subst e;omega) (hn l)
   ·rw [lt_dec,decide_eq_false hi,cond_false]
    refine .inr ⟨_,rfl,?_⟩
    rw [List.drop_eq_nil_of_le (by omega)];simp
 have h2:∀ (n i:Nat),v.States.length≤40→i≤v.States.length→v.States.length - i < n→(m47_l1 f v n i=some (.ret false))∨(∃ z,m47_l1 f v n i=some (.brk z)):=by
  intro n
  induction n with
  | zero=>intro i _ _ h;omega
  | succ n ih=>
   intro i hm h1 h2
   unfold m47_l1
   by_cases hi:i < v.States.length
   ·rw [lt_dec,decide_eq_true hi,cond_true,idx_nat,List.getElem?_eq_getElem hi,Option.bind_some]
    unfold m48
    rw [Option.bind_some]
    generalize (!_:Bool)=c
    cases c
    ·rw [cond_false,wr_nat (by omega)]
     exact ih (i + 1) hm (by omega) (by omega)
    ·exact .inl rfl
   ·rw [lt_dec,decide_eq_false hi,cond_false]
    exact .inr ⟨_,rfl⟩
 unfold m47
 by_cases hs:(((v.States.length:Nat):Int) > 40)
 ·rw [decide_eq_true hs];exact ⟨false,rfl,by simp⟩
 ·rw [decide_eq_false hs,Bool.false_or]
  by_cases hm:(((v.Moves.length:Nat):Int) > 200)
  ·rw [decide_eq_true hm];exact ⟨false,rfl,by simp⟩
  ·rw [decide_eq_false hm,cond_false]
   have hs:v.States.length≤40:=by omega
   have hm:v.Moves.length≤200:=by omega
   rcases h2 f 0 hs (by omega) (by omega) with h | ⟨z,h⟩
   ·rw [h0] at h;rw [h];exact ⟨false,rfl,by simp⟩
   ·rw [h0] at h;rw [h,Option.bind_some]
    rcases h1 f 0 hm (by omega) (by omega) with h | ⟨z,h,hn⟩
    ·rw [h0] at h;dsimp only;rw [h];exact ⟨false,rfl,by simp⟩
    ·rw [h0] at h;dsimp only;rw [h];exact ⟨true,rfl,fun _=>⟨hs,hm,by simpa using hn⟩⟩
theorem m49_l1_spec (v:Space) (hl:v.Moves.length≤1000000):∀ (n i:Nat) (acc:List Int),acc.length≤i→i≤v.Moves.length→v.Moves.length - i < n →
  ∃ z r,m49_l1 v n (i,acc)=some (z,acc ++ r)∧r.length + i≤v.Moves.length∧∀ k,k∈r↔(i:Int)≤k∧idx v.Moves k=some []
 | 0,i,_,_,_,h=>by omega
 | n + 1,i,acc,ha,h1,h2=>by
  unfold m49_l1
  by_cases hi:i < v.Moves.length
  ·dsimp only
   rw [lt_dec,decide_eq_true hi,cond_true,idx_nat,List.getElem?_eq_getElem hi,Option.bind_some]
   have key:∀ k:Int,idx v.Moves k=some []→(i:Int)≤k→k≠i→(i:Int) + 1≤k:=fun k _ _ _=>by omega
   by_cases hx:v.Moves[i]=[]
   ·rw [hx]
    unfold app
    simp only [List.length_nil]
    rw [show (((0:Nat):Int) == 0)=true by rfl,cond_true,if_pos (by simp;omega),Option.bind_some,Option.bind_some,wr_nat (by omega)]
    obtain ⟨z,r,h,hrl,hr⟩:=m49_l1_spec v hl n (i + 1) (acc ++ [(i:Int)]) (by simp;omega) (by omega) (by omega)
    refine ⟨z,(i:Int) :: r,by rw [h];simp,by simp;omega,fun k=>?_⟩
    rw [List.mem_cons,hr]
    constructor
    ·rintro (rfl | ⟨h3,h4⟩)
     ·exact ⟨by omega,by rw [idx_nat,List.getElem?_eq_getElem hi,hx]⟩
     ·exact ⟨by omega,h4⟩
    ·rintro ⟨h3,h4⟩
     by_cases e:k=i
     ·exact .inl e
     ·exact .inr ⟨by omega,h4⟩
   ·have hne:(((v.Moves[i].length:Nat):Int) == 0)=false:=by
     have:v.Moves[i].length≠0:=fun h=>hx (List.eq_nil_of_length_eq_zero h)
     simp;omega
    rw [hne,cond_false,Option.bind_some,wr_nat (by omega)]
    obtain ⟨z,r,h,hrl,hr⟩:=m49_l1_spec v hl n (i + 1) acc (by omega) (by omega) (by omega)
    refine ⟨z,r,h,by omega,fun k=>?_⟩
    rw [hr]
    constructor
    ·rintro ⟨h3,h4⟩;exact ⟨by omega,h4⟩
    ·rintro ⟨h3,h4⟩
     refine ⟨?_,h4⟩
     by_cases e:k=i
     ·subst e;rw [idx_nat,List.getElem?_eq_getElem hi] at h4
      exact absurd (Option.some.inj h4) hx
     ·omega
  ·dsimp only
   rw [lt_dec,decide_eq_false hi,cond_false]
   refine ⟨_,[],by simp;rfl,by simp;omega,fun k=>⟨fun h=>by simp at h,fun ⟨h3,h4⟩=>?_⟩⟩
   have:=idx_some h4;omega
theorem m49_spec {v:Space} (h:shp v=0) (hs:v.States.length≤40) (hrow:∀ l∈v.Moves,l.length≤40):∃ r,m49 FF v=some (r,0)∧r.length≤40∧∀ k,k∈r↔idx v.Moves k=some []:=by
 obtain ⟨_,hm,_⟩:=shp_zero h
 unfold m49
 rw [m114_spec (by unfold FF;omega) (by omega) (fun l hl=>by have:=hrow l hl;unfold FF;omega),h,Option.bind_some]
 obtain ⟨z,r,h1,hrl,h2⟩:=m49_l1_spec v (by omega) FF 0 [] (by simp) (by omega) (by unfold FF;omega)
 have h0:((0:Nat):Int)=0:=rfl
 rw [h0] at h1
 refine ⟨r,?_,by omega,fun k=>?_⟩
 ·rw [show ((0:Int) != 0)=false by rfl,cond_false,h1];rfl
 ·rw [h2]
  constructor
  ·exact fun h=>h.2
  ·exact fun h=>⟨by have:=idx_some h;omega,h⟩
end Go.Pn

import Derived.Test.YtpahlccmojdgdaaGreatDoorAp3
set_option linter.unusedVariables false
set_option linter.unusedSimpArgs false
namespace Go.Pn
open Go Go.RowKit Go.Proofs
set_option maxRecDepth 100000 in
theorem s248 (f:Nat) (v0:Control) (r:Int) (hm:m248 f v0=some r):Sp Tryz.prog 248 [Va (v0)] (Va (r)):=by
 unfold m248 at hm
 refine ens Tryz.func248 (by kernel_rfl) rfl Tryz.ntmps248 rfl rfl fun M w_0 a hM hD s=>?_
 refine se (rg (sq s (bx (t rfl)) rfl fun a w s=>sq s (sa ci) rfl fun a w s=>nl ?_))
 refine se (rg (sq s (fa (f:=Control.Actuators) (t rfl)) rfl fun a w s=>sq s (ld (t rfl)) rfl fun a w s=>sq s (ml ci (t rfl)) rfl fun a w s=>sq s (fa (f:=Control.Inputs) (t rfl)) rfl fun a w s=>sq s (ld (t rfl)) rfl fun a w s=>sq s (ln (t rfl)) rfl fun a w s=>sq s (ad (t rfl) (t rfl)) rfl fun a w s=>sq s (sa (t rfl)) rfl fun a w s=>nl ?_))
 obtain rfl:=si hm
 refine wpIn_ret ?_
 exact rn hD s rfl (rv1 (rt rfl))
def m227 (f:Nat) (v0:Control):Option (Int):=(m248 f v0).bind fun x1=>some (wr (x1 + (((v0).Signals).length:Int)))
set_option maxRecDepth 100000 in
theorem s227 (f:Nat) (v0:Control) (r:Int) (hm:m227 f v0=some r):Sp Tryz.prog 227 [Va (v0)] (Va (r)):=by
 unfold m227 at hm
 refine ens Tryz.func227 (by kernel_rfl) rfl Tryz.ntmps227 rfl rfl fun M w_0 a hM hD s=>?_
 refine se (rg (sq s (bx (t rfl)) rfl fun a w s=>sq s (sa ci) rfl fun a w s=>nl ?_))
 obtain ⟨x1,hx1,hm⟩:=bs hm
 refine se (flow s (m:=6) (.cons (.cons (.cons (.cons (.cons (.cons .nil rfl (ld (t rfl))) rfl (cc rfl (oc (t rfl) on) (s248 f _ _ hx1))) rfl (fa (f:=Control.Signals) (t rfl))) rfl (ld (t rfl))) rfl (ln (t rfl))) rfl (ad (t rfl) (t rfl))) (by kernel_rfl) rfl rfl fun a w s=>sq s (sa (t rfl)) rfl fun a w s=>nl ?_)
 obtain rfl:=si hm
 refine wpIn_ret ?_
 exact rn hD s rfl (rv1 (rt rfl))
def m288 (f:Nat) (v0:Expr):Option (Expr):=some v0
set_option maxRecDepth 100000 in
theorem s288 (f:Nat) (v0:Expr) (r:Expr) (hm:m288 f v0=some r):Sp Tryz.prog 288 [Va (v0)] (Rz (fun x:Value=>Qv (fv 308 [] [x])) (fun x=>[At x (Pt (r))])):=by
 unfold m288 at hm
 refine ens Tryz.func288 (by kernel_rfl) rfl Tryz.ntmps288 rfl rfl fun M w_0 a hM hD s=>?_
 refine se (rg (sq s (bx (t rfl)) rfl fun a w s=>sq s (saq cq) rfl fun a w s=>nl ?_))
 refine se (rg (nmk (d:=1) 1000 s rfl rfl fun c1 s=>sq s (mkf rfl rfl qn (qc (t rfl) qn)) rfl fun a w s=>sq s (saq (t rfl)) rfl fun a w s=>nl ?_))
 obtain rfl:=si hm
 refine wpIn_ret ?_
 exact rz [1000] c1 hM hD s rfl (rv1 (rt rfl)) (kc rfl kn) rfl
def m315 (f:Nat) (v0:Bool):Option (Bool):=some v0
set_option maxRecDepth 100000 in
theorem s315 (f:Nat) (v0:Bool) (r:Bool) (hm:m315 f v0=some r):Sp Tryz.prog 315 [Va (v0)] (Rz (fun x:Value=>Qv (fv 324 [] [x])) (fun x=>[At x (Pt (r))])):=by
 unfold m315 at hm
 refine ens Tryz.func315 (by kernel_rfl) rfl Tryz.ntmps315 rfl rfl fun M w_0 a hM hD s=>?_
 refine se (rg (sq s (bx (t rfl)) rfl fun a w s=>sq s (saq cq) rfl fun a w s=>nl ?_))
 refine se (rg (nmk (d:=1) 1000 s rfl rfl fun c1 s=>sq s (mkf rfl rfl qn (qc (t rfl) qn)) rfl fun a w s=>sq s (saq (t rfl)) rfl fun a w s=>nl ?_))
 obtain rfl:=si hm
 refine wpIn_ret ?_
 exact rz [1000] c1 hM hD s rfl (rv1 (rt rfl)) (kc rfl kn) rfl
def m298 (f:Nat) :Option (Int×Int×Int×Int×Int×Int×Int×Int×Int×Int×Bool×Bool):=(m315 f false).bind fun x2=>(m315 f true).bind fun x4=>some ((0:Int),(0:Int),(0:Int),(0:Int),(1:Int),(1:Int),(2:Int),(256:Int),(2:Int),(256:Int),x2,x4)
set_option maxRecDepth 100000 in
theorem s298 (f:Nat) (r:Int×Int×Int×Int×Int×Int×Int×Int×Int×Int×Bool×Bool) (hm:m298 f =some r):Sp Tryz.prog 298 [] (Rz (fun x:Value×Value=>Qa [(.int .i64 r.1),(.int .i64 r.2.1),.nilFunc,(.int .i64 r.2.2.1),(.int .i64 r.2.2.2.1),.nilFunc,(.int .i64 r.2.2.2.2.1),(.int .i64 r.2.2.2.2.2.1),(fv 324 [] [x.1]),(.int .i64 r.2.2.2.2.2.2.1),(.int .i64 r.2.2.2.2.2.2.2.1),(fv 324 [] [x.2]),(.int .i64 r.2.2.2.2.2.2.2.2.1),(.int .i64 r.2.2.2.2.2.2.2.2.2.1),(fv 316 [] [])]) (fun x=>[At x.1 (Pt (r.2.2.2.2.2.2.2.2.2.2.1)),At x.2 (Pt (r.2.2.2.2.2.2.2.2.2.2.2))])):=by
 unfold m298 at hm
 refine ens Tryz.func298 (by kernel_rfl) rfl Tryz.ntmps298 rfl rfl fun M w_0 a hM hD s=>?_
 refine se (rg (sqr 1000 s (alr (cs:=[(.int .i64 (0:Int)),(.int .i64 (0:Int)),.nilFunc,(.int .i64 (0:Int)),(.int .i64 (0:Int)),.nilFunc,(.int .i64 (0:Int)),(.int .i64 (0:Int)),.nilFunc,(.int .i64 (0:Int)),(.int .i64 (0:Int)),.nilFunc,(.int .i64 (0:Int)),(.int .i64 (0:Int)),.nilFunc]) (z:=.agg #[(.int .i64 (0:Int)),(.int .i64 (0:Int)),.nilFunc,(.int .i64 (0:Int)),(.int .i64 (0:Int)),.nilFunc,(.int .i64 (0:Int)),(.int .i64 (0:Int)),.nilFunc,(.int .i64 (0:Int)),(.int .i64 (0:Int)),.nilFunc,(.int .i64 (0:Int)),(.int .i64 (0:Int)),.nilFunc]) (by kernel_rfl) rfl rfl) rfl rfl fun b1 a w s=>nl ?_))
 obtain ⟨x2,hx2,hm⟩:=bs hm
 obtain ⟨x4,hx4,hm⟩:=bs hm
 refine se (rg (sq s (bla (L:=[(0,1),(1,1),(2,1)]) (z:=[(.int .i64 (0:Int)),(.int .i64 (0:Int)),.nilFunc]) (res:=[(.int .i64 (0:Int)),(.int .i64 (0:Int)),.nilFunc]) rfl (by kernel_rfl) (by kernel_rfl) pdn rfl rfl) rfl fun a w s=>sq s (bla (L:=[(0,1),(1,1),(2,1)]) (z:=[(.int .i64 (0:Int)),(.int .i64 (0:Int)),.nilFunc]) (res:=[(.int .i64 (0:Int)),(.int .i64 (0:Int)),.nilFunc]) rfl (by kernel_rfl) (by kernel_rfl) pdn rfl rfl) rfl fun a w s=>sqz [1001] hM s (cc rfl (oc cb on) (s315 f _ _ hx2)) (fun _=>rfl) rfl rfl fun y3 a w s=>sq s (bla (L:=[(0,1),(1,1),(2,1)]) (z:=[(.int .i64 (0:Int)),(.int .i64 (0:Int)),.nilFunc]) (res:=[(.int .i64 (1:Int)),(.int .i64 (1:Int)),(fv 324 [] [y3])]) rfl (by kernel_rfl) (by kernel_rfl) (pdq (iq ci) (ocr rfl) (pdq (iq ci) (ocr rfl) (pdq (t rfl) (ocr rfl) pdn))) rfl rfl) rfl fun a w s=>sqz [1002] hM s (cc rfl (oc cb on) (s315 f _ _ hx4)) (fun _=>rfl) rfl rfl fun y5 a w s=>sq s (bla (L:=[(0,1),(1,1),(2,1)]) (z:=[(.int .i64 (0:Int)),(.int .i64 (0:Int)),.nilFunc]) (res:=[(.int .i64 (2:Int)),(.int .i64 (256:Int)),(fv 324 [] [y5])]) rfl (by kernel_rfl) (by kernel_rfl) (pdq (iq ci) (ocr rfl) (pdq (iq ci) (ocr rfl) (pdq (t rfl) (ocr rfl) pdn))) rfl rfl) rfl fun a w s=>sq s (bla (L:=[(0,1),(1,1),(2,1)]) (z:=[(.int .i64 (0:Int)),(.int .i64 (0:Int)),.nilFunc]) (res:=[(.int .i64 (2:Int)),(.int .i64 (256:Int)),(fv 316 [] [])]) rfl (by kernel_rfl) (by kernel_rfl) (pdq (iq ci) (ocr rfl) (pdq (iq ci) (ocr rfl) (pdq qf (ocr rfl) pdn))) rfl rfl) rfl fun a w s=>sq s (blyA (e:=355) (len:=5) (sz:=3) (z:=[(.int .i64 (0:Int)),(.int .i64 (0:Int)),.nilFunc,(.int .i64 (0:Int)),(.int .i64 (0:Int)),.nilFunc,(.int .i64 (0:Int)),(.int .i64 (0:Int)),.nilFunc,(.int .i64 (0:Int)),(.int .i64 (0:Int)),.nilFunc,(.int .i64 (0:Int)),(.int .i64 (0:Int)),.nilFunc]) (css:=[[(.int .i64 (0:Int)),(.int .i64 (0:Int)),.nilFunc],[(.int .i64 (0:Int)),(.int .i64 (0:Int)),.nilFunc],[(.int .i64 (1:Int)),(.int .i64 (1:Int)),(fv 324 [] [y3])],[(.int .i64 (2:Int)),(.int .i64 (256:Int)),(fv 324 [] [y5])],[(.int .i64 (2:Int)),(.int .i64 (256:Int)),(fv 316 [] [])]]) (cs:=[(.int .i64 (0:Int)),(.int .i64 (0:Int)),.nilFunc,(.int .i64 (0:Int)),(.int .i64 (0:Int)),.nilFunc,(.int .i64 (1:Int)),(.int .i64 (1:Int)),(fv 324 [] [y3]),(.int .i64 (2:Int)),(.int .i64 (256:Int)),(fv 324 [] [y5]),(.int .i64 (2:Int)),(.int .i64 (256:Int)),(fv 316 [] [])]) rfl (ca1 (t rfl) (ca1 (t rfl) (ca1 (t rfl) (ca1 (t rfl) (ca1 (t rfl) ca0))))) (by kernel_rfl) (by kernel_rfl) (by kernel_rfl) rfl rfl rfl) rfl fun a w s=>sra (K:=1000) (m:=[(.int .i64 (0:Int)),(.int .i64 (0:Int)),.nilFunc,(.int .i64 (0:Int)),(.int .i64 (0:Int)),.nilFunc,(.int .i64 (1:Int)),(.int .i64 (1:Int)),(fv 324 [] [y3]),(.int .i64 (2:Int)),(.int .i64 (256:Int)),(fv 324 [] [y5]),(.int .i64 (2:Int)),(.int .i64 (256:Int)),(fv 316 [] [])]) (cs':=[(.int .i64 (0:Int)),(.int .i64 (0:Int)),.nilFunc,(.int .i64 (0:Int)),(.int .i64 (0:Int)),.nilFunc,(.int .i64 (1:Int)),(.int .i64 (1:Int)),(fv 324 [] [y3]),(.int .i64 (2:Int)),(.int .i64 (256:Int)),(fv 324 [] [y5]),(.int .i64 (2:Int)),(.int .i64 (256:Int)),(fv 316 [] [])]) s (t rfl) rfl (t rfl) (by kernel_rfl) rfl rfl rfl fun w s=>nl ?_))
 obtain rfl:=si hm
 refine wpIn_ret ?_
 exact rz [1001,1002] (y3,y5) hM hD s rfl (rv1 (rca (K:=1000) rfl rfl (by kernel_rfl) rfl (by kernel_rfl))) (kc rfl (kc rfl kn)) rfl
def m289 (f:Nat) (v0:Expr) (v1:Int):Option (Int):=(bif ((decide ((v0).Op < (0:Int))) || (decide ((v0).Op≥(5:Int)))) then some (1:Int) else (m298 f).bind fun x1=>(idx (List.range 5) ((v0).Op)).bind fun x4=>(bif ((decide ((((v0).Args).length:Int) < (([x1.1,x1.2.2.1,x1.2.2.2.2.1,x1.2.2.2.2.2.2.1,x1.2.2.2.2.2.2.2.2.1]:List Int).getD x4 0))) || (decide ((((v0).Args).length:Int) > (([x1.2.1,x1.2.2.2.1,x1.2.2.2.2.2.1,x1.2.2.2.2.2.2.2.1,x1.2.2.2.2.2.2.2.2.2.1]:List Int).getD x4 0)))) then some (3:Int) else (bif ((v0).Op == (0:Int)) then some (1:Int) else (bif ((v0).Op == (1:Int)) then some (wr (v1 - (1:Int))) else some (0:Int)).bind fun z6=>some z6).bind fun z5=>(bif ((decide ((v0).Index < (0:Int))) || (decide ((v0).Index > z5))) then some (2:Int) else some (0:Int))))
set_option maxRecDepth 100000 in
set_option maxHeartbeats 2000000 in
theorem s289 (f:Nat) (v0:Expr) (v1:Int) (r:Int) (hm:m289 f v0 v1=some r):Sp Tryz.prog 289 [Va (v0),Va (v1)] (Va (r)):=by
 unfold m289 at hm
 refine ens Tryz.func289 (by kernel_rfl) rfl Tryz.ntmps289 rfl rfl fun M w_0 a hM hD s=>?_
 refine se (rg (sq s (bx (t rfl)) rfl fun a w s=>sq s (sa ci) rfl fun a w s=>nl ?_))
 refine se ?_
 refine se (rg (sq s (fa (f:=Expr.Op) (t rfl)) rfl fun a w s=>sq s (ld (t rfl)) rfl fun a w s=>sq s (lt (t rfl) ci) rfl fun a w s=>sq s (mv (t rfl)) rfl fun a w s=>sg s rfl rfl (fun hb=>(fa (f:=Expr.Op) (t rfl))) rfl fun a w s=>sg s rfl rfl (fun hb=>(ld (tg rfl hb))) rfl fun a w s=>sg s rfl rfl (fun hb=>(ge (tg rfl hb) ci)) rfl fun a w s=>sq s (poP (t rfl) rfl) rfl fun a w s=>nl ?_))
 refine cm s rfl hm (fun hb hm=>?_) (fun hb hm=>?_)
 ·refine se (rg (sq s (sa ci) rfl fun a w s=>nl ?_))
  obtain rfl:=si hm
  refine wpIn_ret ?_
  exact rn hD s rfl (rv1 (rt rfl))
 ·refine wpIn_skip ?_
  obtain ⟨x1,hx1,hm⟩:=bs hm
  obtain ⟨x4,hx4,hm⟩:=bs hm
  refine se (flow2 [] [0,1,2] [15,16,17] [] [] [5] [(3,[]),(5,[5])] s (.skip (.late (.skip (.cons (.cons (.cons .nil rfl rfl (cc rfl on (s298 f _ hx1))) rfl rfl (fa (f:=Expr.Op) (t rfl))) rfl rfl (ld (t rfl))) rfl) rfl rfl (alr (cs:=[(.int .i64 (0:Int)),(.int .i64 (0:Int)),.nilFunc]) (z:=.agg #[(.int .i64 (0:Int)),(.int .i64 (0:Int)),.nilFunc]) (by kernel_rfl) rfl rfl)) rfl) (by kernel_rfl) (by kernel_rfl) rfl rfl sb0 rfl (by decide) rfl rfl ?_)
  refine ⟨⟨fun _=>rfl,rfl,.inr ⟨sb0,sb0,sn0⟩⟩,by kernel_rfl,_,rfl,fun Ψ a w s=>opz (d:=15) [1002,1003] s rfl (fun _=>rfl) rfl fun y3 s=>sq s (aixA (e:=355) (len:=5) (sz:=3) (cols:=[[(.int .i64 x1.1),(.int .i64 x1.2.2.1),(.int .i64 x1.2.2.2.2.1),(.int .i64 x1.2.2.2.2.2.2.1),(.int .i64 x1.2.2.2.2.2.2.2.2.1)],[(.int .i64 x1.2.1),(.int .i64 x1.2.2.2.1),(.int .i64 x1.2.2.2.2.2.1),(.int .i64 x1.2.2.2.2.2.2.2.1),(.int .i64 x1.2.2.2.2.2.2.2.2.2.1)],[.nilFunc,.nilFunc,(fv 324 [] [y3.1]),(fv 324 [] [y3.2]),(fv 316 [] [])]]) (t rfl) (t rfl) (by kernel_rfl) (by kernel_rfl) (by kernel_rfl) rfl hx4) rfl fun a w s=>nl ?_⟩
  refine nxt Ψ s ?_
  refine ⟨⟨fun _=>rfl,rfl,.inr ⟨sb0,sb0,sn0⟩⟩,by kernel_rfl,_,rfl,fun Ψ a w s=>opr (d:=5) 1004 s rfl rfl fun b2 s=>sra (K:=1004) (m:=[(selv x4 [(.int .i64 x1.1),(.int .i64 x1.2.2.1),(.int .i64 x1.2.2.2.2.1),(.int .i64 x1.2.2.2.2.2.2.1),(.int .i64 x1.2.2.2.2.2.2.2.2.1)]),(selv x4 [(.int .i64 x1.2.1),(.int .i64 x1.2.2.2.1),(.int .i64 x1.2.2.2.2.2.1),(.int .i64 x1.2.2.2.2.2.2.2.1),(.int .i64 x1.2.2.2.2.2.2.2.2.2.1)]),(selv x4 [.nilFunc,.nilFunc,(fv 324 [] [y3.1]),(fv 324 [] [y3.2]),(fv 316 [] [])])]) (cs':=[(selv x4 [(.int .i64 x1.1),(.int .i64 x1.2.2.1),(.int .i64 x1.2.2.2.2.1),(.int .i64 x1.2.2.2.2.2.2.1),(.int .i64 x1.2.2.2.2.2.2.2.2.1)]),(selv x4 [(.int .i64 x1.2.1),(.int .i64 x1.2.2.2.1),(.int .i64 x1.2.2.2.2.2.1),(.int .i64 x1.2.2.2.2.2.2.2.1),(.int .i64 x1.2.2.2.2.2.2.2.2.2.1)]),(selv x4 [.nilFunc,.nilFunc,(fv 324 [] [y3.1]),(fv 324 [] [y3.2]),(fv 316 [] [])])]) s (t rfl) rfl (t rfl) (by kernel_rfl) rfl rfl rfl fun w s=>nl ?_⟩
  refine nxt Ψ s ?_
  refine ⟨⟨fun _=>rfl,rfl,.inl rfl⟩,fun a w s=>?_⟩
  replace s:St M w_0 50 [(0,Va (v0)),(1,Va (v1)),(2,Pt (v0)),(4,Va ((0:Int))),(5,Qv (pb b2 0)),(1004,Mr b2 [(selv x4 [(.int .i64 x1.1),(.int .i64 x1.2.2.1),(.int .i64 x1.2.2.2.2.1),(.int .i64 x1.2.2.2.2.2.2.1),(.int .i64 x1.2.2.2.2.2.2.2.2.1)]),(selv x4 [(.int .i64 x1.2.1),(.int .i64 x1.2.2.2.1),(.int .i64 x1.2.2.2.2.2.1),(.int .i64 x1.2.2.2.2.2.2.2.1),(.int .i64 x1.2.2.2.2.2.2.2.2.2.1)]),(selv x4 [.nilFunc,.nilFunc,(fv 324 [] [y3.1]),(fv 324 [] [y3.2]),(fv 316 [] [])])]),(1002,At y3.1 (Pt (x1.2.2.2.2.2.2.2.2.2.2.1))),(1003,At y3.2 (Pt (x1.2.2.2.2.2.2.2.2.2.2.2)))] a w:=s.pick [0,1,2,4,5,1004,1002,1003]
  refine se ?_
  refine se (rg (sq s (fa (f:=Expr.Args) (t rfl)) rfl fun a w s=>sq s (ld (t rfl)) rfl fun a w s=>sq s (ln (t rfl)) rfl fun a w s=>sq s (fm_ (off:=0) (m:=0) (q:=0) (t rfl) (by kernel_rfl) rfl) rfl fun a w s=>sq s (lrc (K:=1004) Int (t rfl) rfl rfl rfl rfl) rfl fun a w s=>sq s (lt (t rfl) (qsi (xs:=([x1.1,x1.2.2.1,x1.2.2.2.2.1,x1.2.2.2.2.2.2.1,x1.2.2.2.2.2.2.2.2.1]:List Int)) (t rfl) rfl (idxr hx4).1)) rfl fun a w s=>sq s (mv (t rfl)) rfl fun a w s=>sg s rfl rfl (fun hb=>(fa (f:=Expr.Args) (t rfl))) rfl fun a w s=>sg s rfl rfl (fun hb=>(ld (tg rfl hb))) rfl fun a w s=>sg s rfl rfl (fun hb=>(ln (tg rfl hb))) rfl fun a w s=>sg s rfl rfl (fun hb=>(fm_ (off:=1) (m:=0) (q:=1) (t rfl) (by kernel_rfl) rfl)) rfl fun a w s=>sg s rfl rfl (fun hb=>(lrc (K:=1004) Int (tg rfl hb) rfl rfl rfl rfl)) rfl fun a w s=>sg s rfl rfl (fun hb=>(gt (tg rfl hb) (qsi (xs:=([x1.2.1,x1.2.2.2.1,x1.2.2.2.2.2.1,x1.2.2.2.2.2.2.2.1,x1.2.2.2.2.2.2.2.2.2.1]:List Int)) (tg rfl hb) rfl (idxr hx4).1))) rfl fun a w s=>sq s (poP (t rfl) rfl) rfl fun a w s=>nl ?_))
  refine cm s rfl hm (fun hb hm=>?_) (fun hb hm=>?_)
  ·refine se (rg (sq s (sa ci) rfl fun a w s=>nl ?_))
   obtain rfl:=si hm
   refine wpIn_ret ?_
   exact rn hD s rfl (rv1 (rt rfl))
  ·refine wpIn_skip ?_
   refine se (rg (sq s (sa ci) rfl fun a w s=>nl ?_))
   refine se ?_
   refine se (rg (sq s (fa (f:=Expr.Op) (t rfl)) rfl fun a w s=>sq s (ld (t rfl)) rfl fun a w s=>nl ?_))
   refine wpIn_block ?_
   refine se (rg (sq s (eq (t rfl) ci) rfl fun a w s=>sq s (sa (t rfl)) rfl fun a w s=>nl ?_))
   obtain ⟨z5,hz5,hkz5⟩:=bs hm
   refine cpI (fun a w=>St M w_0 50 [(0,Va (v0)),(1,Va (v1)),(2,Pt (v0)),(4,Va ((0:Int))),(5,Qv (pb b2 0)),(6,Va (z5)),(34,Va ((v0).Op)),(1004,Mr b2 [(selv x4 [(.int .i64 x1.1),(.int .i64 x1.2.2.1),(.int .i64 x1.2.2.2.2.1),(.int .i64 x1.2.2.2.2.2.2.1),(.int .i64 x1.2.2.2.2.2.2.2.2.1)]),(selv x4 [(.int .i64 x1.2.1),(.int .i64 x1.2.2.2.1),(.int .i64 x1.2.2.2.2.2.1),(.int .i64 x1.2.2.2.2.2.2.2.1),(.int .i64 x1.2.2.2.2.2.2.2.2.2.1)]),(selv x4 [.nilFunc,.nilFunc,(fv 324 [] [y3.1]),(fv 324 [] [y3.2]),(fv 316 [] [])])]),(1002,At y3.1 (Pt (x1.2.2.2.2.2.2.2.2.2.2.1))),(1003,At y3.2 (Pt (x1.2.2.2.2.2.2.2.2.2.2.2)))] a w) ?_ fun a w s=>?_
   ·refine cm s rfl hz5 (fun hb hm=>?_) (fun hb hm=>?_)
    ·refine rg (sq s (sa ci) rfl fun a w s=>nl ?_)
     obtain rfl:=si hm
     exact s.pick [0,1,2,4,5,6,34,1004,1002,1003]
    ·refine se (rg (sq s (eq (t rfl) ci) rfl fun a w s=>sq s (sa (t rfl)) rfl fun a w s=>nl ?_))
     obtain ⟨z6,hz6,hkz6⟩:=bs hm
     refine cpI (fun a w=>St M w_0 50 [(0,Va (v0)),(1,Va (v1)),(2,Pt (v0)),(4,Va ((0:Int))),(5,Qv (pb b2 0)),(6,Va (z6)),(34,Va ((v0).Op)),(1004,Mr b2 [(selv x4 [(.int .i64 x1.1),(.int .i64 x1.2.2.1),(.int .i64 x1.2.2.2.2.1),(.int .i64 x1.2.2.2.2.2.2.1),(.int .i64 x1.2.2.2.2.2.2.2.2.1)]),(selv x4 [(.int .i64 x1.2.1),(.int .i64 x1.2.2.2.1),(.int .i64 x1.2.2.2.2.2.1),(.int .i64 x1.2.2.2.2.2.2.2.1),(.int .i64 x1.2.2.2.2.2.2.2.2.2.1)]),(selv x4 [.nilFunc,.nilFunc,(fv 324 [] [y3.1]),(fv 324 [] [y3.2]),(fv 316 [] [])])]),(1002,At y3.1 (Pt (x1.2.2.2.2.2.2.2.2.2.2.1))),(1003,At y3.2 (Pt (x1.2.2.2.2.2.2.2.2.2.2.2)))] a w) ?_ fun a w s=>?_
     ·refine cm s rfl hz6 (fun hb hm=>?_) (fun hb hm=>?_)
      ·refine rg (sq s (mv (t rfl)) rfl fun a w s=>sq s (sb (t rfl) ci) rfl fun a w s=>sq s (sa (t rfl)) rfl fun a w s=>nl ?_)
       obtain rfl:=si hm
       exact s.pick [0,1,2,4,5,6,34,1004,1002,1003]
      ·refine wpIn_skip ?_
       obtain rfl:=si hm
       exact s.pick [0,1,2,4,5,6,34,1004,1002,1003]
     ·replace hm:=hkz6
      obtain rfl:=si hm
      exact s.pick [0,1,2,4,5,6,34,1004,1002,1003]
   ·replace hm:=hkz5
    refine se ?_
    refine se (rg (sq s (fa (f:=Expr.Index) (t rfl)) rfl fun a w s=>sq s (ld (t rfl)) rfl fun a w s=>sq s (lt (t rfl) ci) rfl fun a w s=>sq s (mv (t rfl)) rfl fun a w s=>sg s rfl rfl (fun hb=>(fa (f:=Expr.Index) (t rfl))) rfl fun a w s=>sg s rfl rfl (fun hb=>(ld (tg rfl hb))) rfl fun a w s=>sg s rfl rfl (fun hb=>(mv (t rfl))) rfl fun a w s=>sg s rfl rfl (fun hb=>(gt (tg rfl hb) (tg rfl hb))) rfl fun a w s=>sq s (poP (t rfl) rfl) rfl fun a w s=>nl ?_))
    refine cm s rfl hm (fun hb hm=>?_) (fun hb hm=>?_)
    ·refine se (rg (sq s (sa ci) rfl fun a w s=>nl ?_))
     obtain rfl:=si hm
     refine wpIn_ret ?_
     exact rn hD s rfl (rv1 (rt rfl))
    ·refine wpIn_skip ?_
     refine se (rg (sq s (sa ci) rfl fun a w s=>nl ?_))
     obtain rfl:=si hm
     refine wpIn_ret ?_
     exact rn hD s rfl (rv1 (rt rfl))
def m309_l1 {σ:Type} (g309:Expr→Int→σ→Option (Bool×σ)) (v0:Expr) (v1:Int):Nat→(Int×σ)→Option (Lo (Int×σ) (Bool×σ))
 | 0,_=>none
 | n+1,z3=>(bif (decide (z3.1 < (((v0).Args).length:Int))) then (idx ((v0).Args) z3.1).bind fun x5=>bif (decide (v1≤(16:Int))) then ((g309 x5 (wr (v1 + (1:Int))) z3.2).bind fun x7=>(bif (bif (decide (v1≤(16:Int))) then (!x7.1) else false) then some (.ret (false,x7.2)) else m309_l1 g309 v0 v1 n ((wr (z3.1 + (1:Int))),x7.2))) else (bif false then some (.ret (false,z3.2)) else m309_l1 g309 v0 v1 n ((wr (z3.1 + (1:Int))),z3.2)) else some (.brk (z3.1,z3.2)))
def m309 {σ:Type} (gy:(Int×Expr)→σ→Option (Bool×σ)):Nat→Expr→Int→σ→Option (Bool×σ)
 | 0,_,_,_=>none
 | f+1,v0,v1,v2=>(gy (v1,v0) v2).bind fun x1=>(bif (!x1.1) then some (false,x1.2) else ((m309_l1 (m309 gy f) v0 v1 f ((0:Int),x1.2)).bind fun o4=>match o4 with | .brk o4s=>some (true,o4s.2) | .ret r=>some r))
set_option maxRecDepth 100000 in
theorem s309 {σ:Type} (E:σ→Ent) [hE:∀ s,Gh (E s)] (n2:Nat) (gy:(Int×Expr)→σ→Option (Bool×σ)) (ihy:∀ x s r,gy x s=some r→Cy Tryz.prog n2 [Va x.1,Va x.2] [E s] (Rz (fun _:Unit=>Va r.1) fun _=>[E r.2])):∀ (f:Nat) (n0:Nat) (n1:Nat) (v0:Expr) (v1:Int) (v2:σ) (r:Bool×σ),m309 gy f v0 v1 v2=some r→Cg Tryz.prog 309 [Va (v0),Va (v1),Qv (pb n0 0),Qv (pb n1 0)] [Mr n0 [(yv n2)],E (v2),Mr n1 [(fv 309 [] [(pb n0 0),(pb n1 0)])]] (Rz (fun x:Unit=>Va (r.1)) (fun x=>[Mr n0 [(yv n2)],E (r.2),Mr n1 [(fv 309 [] [(pb n0 0),(pb n1 0)])]])):=by
 intro f
 induction f with
 | zero=>intro n0 n1 v0 v1 v2 r hm;cases hm
 | succ f ih=>
 intro n0 n1 v0 v1 v2 r hm
 unfold m309 at hm
 refine eng Tryz.func309 (by kernel_rfl) rfl Tryz.ntmps309 rfl rfl fun M w_0 a hM hD s=>?_
 refine se (rg (sq s (bx (t rfl)) rfl fun a w s=>sq s (sa cb) rfl fun a w s=>nl ?_))
 refine se ?_
 obtain ⟨x1,hx1,hm⟩:=bs hm
 refine se (rg (sq s (lrp (K:=1000) (t rfl) rfl rfl (by kernel_rfl)) rfl fun a w s=>sq s (mv (t rfl)) rfl fun a w s=>sq s (ld (t rfl)) rfl fun a w s=>cgy [1001] [1001] hM s (t rfl) rfl (oc (t rfl) (oc (t rfl) on)) (ihy _ _ _ hx1) (kc rfl kn) rfl (fun _=>rfl) rfl rfl rfl fun y2 a w s=>sq s (nt (t rfl)) rfl fun a w s=>nl ?_))
 refine cm s rfl hm (fun hb hm=>?_) (fun hb hm=>?_)
 ·refine se (rg (sq s (sa cb) rfl fun a w s=>nl ?_))
  obtain rfl:=si hm
  refine wpIn_ret ?_
  exact rz [1000,1001,1002] () hM hD s rfl (rv1 (rt rfl)) (kc rfl (kc rfl (kc rfl kn))) rfl
 ·refine wpIn_skip ?_
  refine se ?_
  refine se (rg (sq s (fa (f:=Expr.Args) (t rfl)) rfl fun a w s=>sq s (ld (t rfl)) rfl fun a w s=>sq s (ln (t rfl)) rfl fun a w s=>sq s (mv ci) rfl fun a w s=>nl ?_))
  obtain ⟨o4,hoo4,hko4⟩:=bs hm
  refine lcI o4 (fun o4s a w=>St M w_0 32 [(0,Va (v0)),(1,Va (v1)),(2,Qv (pb n0 0)),(3,Qv (pb n1 0)),(4,Pt (v0)),(6,Va (false)),(15,Va ((v0).Args)),(16,Va ((((v0).Args).length:Int))),(17,Va (o4s.1)),(1000,Mr n0 [(yv n2)]),(1001,E (o4s.2)),(1002,Mr n1 [(fv 309 [] [(pb n0 0),(pb n1 0)])])] a w) ?_ fun o4s a w ho s=>?_
  ·refine wpIn_block ?_
   refine loI (fun n z3=>m309_l1 (m309 gy f) v0 v1 n z3) o4 (fun z3 a w=>St M w_0 32 [(0,Va (v0)),(1,Va (v1)),(2,Qv (pb n0 0)),(3,Qv (pb n1 0)),(4,Pt (v0)),(6,Va (false)),(15,Va ((v0).Args)),(16,Va ((((v0).Args).length:Int))),(17,Va (z3.1)),(1000,Mr n0 [(yv n2)]),(1001,E (z3.2)),(1002,Mr n1 [(fv 309 [] [(pb n0 0),(pb n1 0)])])] a w) f ((0:Int),x1.2) (s.pick [0,1,2,3,4,6,15,16,17,1000,1001,1002]) hoo4 (fun _=>rfl) fun n z3 a w hm s=>?_
   replace hm:m309_l1 (m309 gy f) v0 v1 (n + 1) z3=some o4:=hm
   unfold m309_l1 at hm
   refine se (rg (sq s (lt (t rfl) (t rfl)) rfl fun a w s=>nl ?_))
   refine se ?_
   refine cm s rfl hm (fun hb hm=>?_) (fun hb hm=>?_)
   ·refine wpIn_skip ?_
    refine se ?_
    refine wpIn_block ?_
    obtain ⟨x5,hx5,hm⟩:=bs hm
    refine se (rg (sq s (ix (t rfl) (t rfl) hx5) rfl fun a w s=>sq s (ld (t rfl)) rfl fun a w s=>sqr 1003 s (alr (cs:=[(.int .i64 (0:Int)),(.int .i64 (0:Int)),(.slice none 0 0)]) (z:=.agg #[(.int .i64 (0:Int)),(.int .i64 (0:Int)),(.slice none 0 0)]) (by kernel_rfl) rfl rfl) rfl rfl fun b6 a w s=>swd (K:=1003) s (t rfl) rfl (t rfl) rfl fun w s=>nl ?_))
    rcases bfc hm with ⟨hb0,hm⟩ | ⟨hb0,hm⟩
    ·obtain ⟨x7,hx7,hm⟩:=bs hm
     refine se (rg (sq s (mv (t rfl)) rfl fun a w s=>sq s (le (t rfl) ci) rfl fun a w s=>sq s (mv (t rfl)) rfl fun a w s=>gon s rfl rfl hb0 <| sq s (lrp (K:=1002) (t rfl) rfl rfl (by kernel_rfl)) rfl fun a w s=>gon s rfl rfl hb0 <| sq s (lm (K:=1003) (t rfl) rfl) rfl fun a w s=>gon s rfl rfl hb0 <| sq s (mv (t rfl)) rfl fun a w s=>gon s rfl rfl hb0 <| sq s (ad (t rfl) ci) rfl fun a w s=>gon s rfl rfl hb0 <| cgv [1000,1001,1002] [1000,1001,1002] hM s (t rfl) rfl (oc (t rfl) (oc (t rfl) on)) vn (vq (vq vn)) (ih n0 n1 _ _ _ _ hx7) (kc rfl (kc rfl (kc rfl kn))) rfl (fun _=>rfl) rfl rfl rfl fun y8 a w s=>gon s rfl rfl hb0 <| sq s (nt (t rfl)) rfl fun a w s=>sq s (pk (t rfl) (t rfl) cb) rfl fun a w s=>nl ?_))
     refine cm s rfl hm (fun hb hm=>?_) (fun hb hm=>?_)
     ·refine se (rg (sq s (sa cb) rfl fun a w s=>nl ?_))
      obtain rfl:=si hm
      replace hm:=hko4
      dsimp only at hm
      obtain rfl:=si hm
      refine wpIn_ret ?_
      exact rz [1000,1001,1002] () hM hD s rfl (rv1 (rt rfl)) (kc rfl (kc rfl (kc rfl kn))) rfl
     ·refine wpIn_skip ?_
      refine rg (sq s (ad (t rfl) ci) rfl fun a w s=>sq s (mv (t rfl)) rfl fun a w s=>nl ?_)
      exact ⟨_,hm,s.pick [0,1,2,3,4,6,15,16,17,1000,1001,1002]⟩
    ·refine se (rg (sq s (mv (t rfl)) rfl fun a w s=>sq s (le (t rfl) ci) rfl fun a w s=>sq s (mv (t rfl)) rfl fun a w s=>goff s rfl rfl hb0 rfl fun a w s=>goff s rfl rfl hb0 rfl fun a w s=>goff s rfl rfl hb0 rfl fun a w s=>goff s rfl rfl hb0 rfl fun a w s=>goff s rfl rfl hb0 rfl fun a w s=>goff s rfl rfl hb0 rfl fun a w s=>sq s (pkF (t rfl) hb0 cb) rfl fun a w s=>nl ?_))
     refine cm s rfl hm (fun hb hm=>?_) (fun hb hm=>?_)
     ·refine se (rg (sq s (sa cb) rfl fun a w s=>nl ?_))
      obtain rfl:=si hm
      replace hm:=hko4
      dsimp only at hm
      obtain rfl:=si hm
      refine wpIn_ret ?_
      exact rz [1000,1001,1002] () hM hD s rfl (rv1 (rt rfl)) (kc rfl (kc rfl (kc rfl kn))) rfl
     ·refine wpIn_skip ?_
      refine rg (sq s (ad (t rfl) ci) rfl fun a w s=>sq s (mv (t rfl)) rfl fun a w s=>nl ?_)
      exact ⟨_,hm,s.pick [0,1,2,3,4,6,15,16,17,1000,1001,1002]⟩
   ·refine wpIn_exit ?_
    exact ⟨_,(si hm).symm,s.pick [0,1,2,3,4,6,15,16,17,1000,1001,1002]⟩
  ·subst ho
   replace hm:=hko4
   dsimp only at hm
   refine se (rg (sq s (sa cb) rfl fun a w s=>nl ?_))
   obtain rfl:=si hm
   refine wpIn_ret ?_
   exact rz [1000,1001,1002] () hM hD s rfl (rv1 (rt rfl)) (kc rfl (kc rfl (kc rfl kn))) rfl
def m308 {σ:Type} (gy:(Int×Expr)→σ→Option (Bool×σ)) (f:Nat) (v0:Expr) (v1:σ):Option (σ):=(m309 gy f v0 (1:Int) v1).bind fun x3=>some x3.2
set_option maxRecDepth 100000 in
theorem s308 {σ:Type} (E:σ→Ent) [hE:∀ s,Gh (E s)] (n0:Nat) (gy:(Int×Expr)→σ→Option (Bool×σ)) (ihy:∀ x s r,gy x s=some r→Cy Tryz.prog n0 [Va x.1,Va x.2] [E s] (Rz (fun _:Unit=>Va r.1) fun _=>[E r.2])) (f:Nat) (v0:Expr) (v1:σ) (r:σ) (hm:m308 gy f v0 v1=some r):Cg Tryz.prog 308 [Qv (yv n0),Pt (v0)] [E (v1)] (Rz (fun x:Unit=>Dd) (fun x=>[E (r)])):=by
 unfold m308 at hm
 refine eng Tryz.func308 (by kernel_rfl) rfl Tryz.ntmps308 rfl rfl fun M w_0 a hM hD s=>?_
 refine se (rg (sqr 1001 s (bxr (t rfl) (ocr rfl)) rfl rfl fun b1 a w s=>nl ?_))
 refine se (rg (sqr 1002 s (alr (cs:=[.nilFunc]) (z:=.nilFunc) (by kernel_rfl) rfl rfl) rfl rfl fun b2 a w s=>nl ?_))
 refine se (rg (sq s (mkf rfl rfl qn (qc (t rfl) (qc (t rfl) qn))) rfl fun a w s=>srq (K:=1002) (cs':=[(fv 309 [] [(pb b1 0),(pb b2 0)])]) s (t rfl) rfl (t rfl) (by kernel_rfl) (ocr rfl) rfl rfl fun w s=>nl ?_))
 obtain ⟨x3,hx3,hm⟩:=bs hm
 refine rg (sq s (lrp (K:=1002) (t rfl) rfl rfl (by kernel_rfl)) rfl fun a w s=>sq s (ld (t rfl)) rfl fun a w s=>cgv [1001,1000,1002] [1001,1000,1002] hM s (t rfl) rfl (oc (t rfl) (oc ci on)) vn (vq (vq vn)) (s309 E n0 gy ihy f b1 b2 _ _ _ _ hx3) (kc rfl (kc rfl (kc rfl kn))) rfl (fun _=>rfl) rfl rfl rfl fun y4 a w s=>nl ?_)
 obtain rfl:=si hm
 exact rze [1000] () hM hD s rfl rv0 (kc rfl kn) rfl
def m287_r1 :(Int×Expr)→(Int×Int)×Nat→Option (Bool×((Int×Int)×Nat)):=fun u10 z8=>match z8 with
 | (z8,0)=>(bif ((decide ((wr (z8.1 + (1:Int))) > (256:Int))) || (decide (u10.1 > (16:Int)))) then some (false,(((wr (z8.1 + (1:Int))),(if u10.1 > z8.2 then u10.1 else z8.2)),1)) else some (true,(((wr (z8.1 + (1:Int))),(if u10.1 > z8.2 then u10.1 else z8.2)),0)))
 | (_,_ + 1)=>none
def m287 (f:Nat) (v0:Expr):Option (Int×Int×Bool):=(m288 f v0).bind fun x6=>(m308 (m287_r1) f x6 (((0:Int),(0:Int)),0)).bind fun o11=>(bif o11.2 == 0 then some (o11.1.1,o11.1.2,true) else (bif o11.2 == 1 then some ((0:Int),(0:Int),false) else none))
set_option maxRecDepth 100000 in
theorem s287 (f:Nat) (v0:Expr) (r:Int×Int×Bool) (hm:m287 f v0=some r):Sp Tryz.prog 287 [Va (v0)] (T3 (Va (r.1)) (Va (r.2.1)) (Va (r.2.2))):=by
 unfold m287 at hm
 refine ens Tryz.func287 (by kernel_rfl) rfl Tryz.ntmps287 rfl rfl fun M w_0 a hM hD s=>?_
 refine se (rg (sq s (bx (t rfl)) rfl fun a w s=>sqb 1000 s (al (z:=(0:Int))) rfl rfl fun b1 a w s=>sqb 1001 s (al (z:=(0:Int))) rfl rfl fun b2 a w s=>sqb 1002 s (al (z:=false)) rfl rfl fun b3 a w s=>nl ?_))
 refine se (rg (sqb 1003 s (al (z:=(0:Int))) rfl rfl fun b4 a w s=>sqb 1004 s (al (z:=(0:Int))) rfl rfl fun b5 a w s=>sw (K:=1003) s (t rfl) rfl ci rfl fun w s=>sw (K:=1004) s (t rfl) rfl ci rfl fun w s=>nl ?_))
 refine se ?_
 obtain ⟨x6,hx6,hm⟩:=bs hm
 refine se (rg (sq s (ld (t rfl)) rfl fun a w s=>sqz [1005] hM s (cc rfl (oc (t rfl) on) (s288 f _ _ hx6)) (fun _=>rfl) rfl rfl fun y7 a w s=>nl ?_))
 refine wpIn_block ?_
 obtain ⟨o11,ho11,hko11⟩:=bs hm
 refine rfn (α:=Int×Expr) (X:=Unit) (σ:=Int×Int) (pe:=fun x=>[Va x.1,Va x.2]) (gb:=(m287_r1)) (r:=o11) [(2,Qv (pb b1 0)),(3,Qv (pb b2 0)),(4,Qv (pb b3 0)),(5,Qv (pb b4 0)),(6,Qv (pb b5 0))] [.ret] (fun z8 n9=>[Mg b1 ((0:Int)),Mg b2 ((0:Int)),Mg b3 (false),Mg b4 (z8.1),Mg b5 (z8.2)]) ((0:Int),(0:Int)) () 1008 1006 1007 [1000,1001,1002,1003,1004] hM s (t rfl) vn (va (k:=1005) rfl vn) (kc rfl (kc rfl (kc rfl (kc rfl (kc rfl kn))))) rfl (fun _ _=>rfl) (fun _ _ h=>look_pick (l:=[2,3,4,5,6]) h) (zs1 (zs1 (zs1 (zs1 (zs1 zs0))))) rfl rfl rfl (fun E _ l ihy=>s308 E l (m287_r1) ihy f _ _ _ ho11) (fun l fn D tm htm u10 z8 r hm=>?_) (fun d12 a w n13 s=>?_)
 ·rcases z8 with ⟨z8,_ | j⟩
  ·unfold m287_r1 at hm
   dsimp only at hm
   refine Cy.mk (KL:=1006) (KT:=1007) [1000,1001,1002,1003,1004] [10,11] z8 htm rfl rfl rfl rfl rfl rfl (fun _=>rfl) fun M w_0 a n9 TB hM hD hTB s=>?_
   refine rg (sq s (sa (t rfl)) rfl fun a w s=>nl ?_)
   refine bgn (K:=1006) s rfl rfl fun RB w hRB s=>?_
   refine wpIn_block ?_
   refine se (rg (sq s (lm (K:=1003) (t rfl) rfl) rfl fun a w s=>sq s (ad (t rfl) ci) rfl fun a w s=>sw (K:=1003) s (t rfl) rfl (t rfl) rfl fun w s=>nl ?_))
   refine se (rg (sq s (lm (K:=1004) (t rfl) rfl) rfl fun a w s=>sq s (mv (t rfl)) rfl fun a w s=>sq s (mx (t rfl) (t rfl)) rfl fun a w s=>sw (K:=1004) s (t rfl) rfl (t rfl) rfl fun w s=>nl ?_))
   refine se (rg (sq s (lm (K:=1003) (t rfl) rfl) rfl fun a w s=>sq s (gt (t rfl) ci) rfl fun a w s=>sq s (mv (t rfl)) rfl fun a w s=>sg s rfl rfl (fun hb=>(mv (t rfl))) rfl fun a w s=>sg s rfl rfl (fun hb=>(gt (tg rfl hb) ci)) rfl fun a w s=>sq s (poP (t rfl) rfl) rfl fun a w s=>nl ?_))
   refine cm s rfl hm (fun hb hm=>?_) (fun hb hm=>?_)
   ·refine se (rg (sw (K:=1000) s (t rfl) rfl ci rfl fun w s=>sw (K:=1001) s (t rfl) rfl ci rfl fun w s=>sw (K:=1002) s (t rfl) rfl cb rfl fun w s=>nl ?_))
    obtain rfl:=si hm
    refine wpIn_ret ?_
    exact rde (KL:=1006) (KT:=1007) [1000,1001,1002,1003,1004] (some (.ret)) 1 false ((wr (z8.1 + (1:Int))),(if u10.1 > z8.2 then u10.1 else z8.2)) () hM s rfl rfl hRB hTB (kc rfl (kc rfl (kc rfl (kc rfl (kc rfl kn))))) rfl rfl rfl rfl
   ·refine wpIn_skip ?_
    obtain rfl:=si hm
    exact rde (KL:=1006) (KT:=1007) [1000,1001,1002,1003,1004] none 0 true ((wr (z8.1 + (1:Int))),(if u10.1 > z8.2 then u10.1 else z8.2)) () hM s rfl rfl hRB hTB (kc rfl (kc rfl (kc rfl (kc rfl (kc rfl kn))))) rfl rfl rfl rfl
  ·unfold m287_r1 at hm
   cases hm
 ·replace hm:=hko11
  rcases bfc hm with ⟨hj,hm⟩ | ⟨hj,hm⟩
  ·refine af0 hj ?_
   refine se (flow2 [(6,Qv (pb b5 0)),(1004,Mg b5 (o11.1.2))] [0] [23] [] [] [24] [(2,[]),(3,[24]),(4,[])] s (.skip (.skip (.skip (.late (.cons .nil rfl rfl (lm (K:=1003) (t rfl) rfl)) rfl rfl (lm (K:=1004) (t rfl) rfl)) rfl) rfl) rfl) (by kernel_rfl) (by kernel_rfl) rfl rfl (sb1 rfl (sb1 rfl sb0)) rfl (by decide) rfl rfl ?_)
   refine ⟨⟨fun _=>rfl,rfl,.inr ⟨(sb1 rfl (sb1 rfl sb0)),sb0,sn0⟩⟩,by kernel_rfl,_,rfl,fun Ψ a w s=>sw (K:=1000) s (t rfl) rfl (t rfl) rfl fun w s=>nl ?_⟩
   refine nxt Ψ s ?_
   refine ⟨⟨fun _=>rfl,rfl,.inr ⟨(sb1 rfl (sb1 rfl sb0)),sb0,sn0⟩⟩,by kernel_rfl,_,rfl,fun Ψ a w s=>sw (K:=1001) s (t rfl) rfl (t rfl) rfl fun w s=>nl ?_⟩
   refine nxt Ψ s ?_
   refine ⟨⟨fun _=>rfl,rfl,.inl rfl⟩,by kernel_rfl,_,rfl,fun Ψ a w s=>sw (K:=1002) s (t rfl) rfl cb rfl fun w s=>nl ?_⟩
   refine nxt Ψ s ?_
   refine ⟨⟨fun _=>rfl,rfl,.inl rfl⟩,fun a w s=>?_⟩
   replace s:St (mf d12 M) w_0 25 [(0,Va (v0)),(1,Pt (v0)),(2,Qv (pb b1 0)),(3,Qv (pb b2 0)),(4,Qv (pb b3 0)),(5,Qv (pb b4 0)),(6,Qv (pb b5 0)),(9,Qv (fv 308 [] [y7])),(1000,Mg b1 (o11.1.1)),(1001,Mg b2 (o11.1.2)),(1002,Mg b3 (true)),(1003,Mg b4 (o11.1.1)),(1004,Mg b5 (o11.1.2)),(1005,At y7 (Pt (x6))),(1008,Dk d12)] a w:=s.pick [0,1,2,3,4,5,6,9,1000,1001,1002,1003,1004,1005,1008]
   obtain rfl:=si hm
   refine wpIn_ret ?_
   refine lvm (KD:=1008) s rfl rfl rfl fun a w ha s=>?_
   rw [← ha]
   exact rn hD s rfl (rv3 (rc (K:=1000) rfl rfl) (rc (K:=1001) rfl rfl) (rc (K:=1002) rfl rfl))
  ·rcases bfc hm with ⟨hj,hm⟩ | ⟨hj,hm⟩
   ·refine af1 (k:=0) hj rfl ?_
    obtain rfl:=si hm
    refine wpIn_ret ?_
    refine lvm (KD:=1008) s rfl rfl rfl fun a w ha s=>?_
    rw [← ha]
    exact rn hD s rfl (rv3 (rc (K:=1000) rfl rfl) (rc (K:=1001) rfl rfl) (rc (K:=1002) rfl rfl))
   ·cases hm
def m260_r1 (f:Nat) (v1:Int):(Int×Expr)→(Int)×Nat→Option (Bool×((Int)×Nat)):=fun u7 z5=>match z5 with
 | (z5,0)=>(m289 f u7.2 v1).bind fun x9=>(bif (x9 != (0:Int)) then some (false,(x9,1)) else some (true,(z5,0)))
 | (_,_ + 1)=>none
def m260 (f:Nat) (v0:Expr) (v1:Int):Option (Int):=(bif ((decide (v1 < (0:Int))) || (decide (v1 > (256:Int)))) then some (2:Int) else (m287 f v0).bind fun x2=>(bif (!x2.2.2) then some (5:Int) else (m288 f v0).bind fun x3=>(m308 (m260_r1 f v1) f x3 ((0:Int),0)).bind fun o10=>(bif o10.2 == 0 then some (0:Int) else (bif o10.2 == 1 then some o10.1 else none))))
set_option maxRecDepth 100000 in
theorem s260 (f:Nat) (v0:Expr) (v1:Int) (r:Int) (hm:m260 f v0 v1=some r):Sp Tryz.prog 260 [Va (v0),Va (v1)] (Va (r)):=by
 unfold m260 at hm
 refine ens Tryz.func260 (by kernel_rfl) rfl Tryz.ntmps260 rfl rfl fun M w_0 a hM hD s=>?_
 refine se (rg (sq s (bx (t rfl)) rfl fun a w s=>sq s (bx (t rfl)) rfl fun a w s=>sqb 1000 s (al (z:=(0:Int))) rfl rfl fun b1 a w s=>nl ?_))
 refine se ?_
 refine se (rg (sq s (ld (t rfl)) rfl fun a w s=>sq s (lt (t rfl) ci) rfl fun a w s=>sq s (mv (t rfl)) rfl fun a w s=>sg s rfl rfl (fun hb=>(ld (t rfl))) rfl fun a w s=>sg s rfl rfl (fun hb=>(gt (tg rfl hb) ci)) rfl fun a w s=>sq s (poP (t rfl) rfl) rfl fun a w s=>nl ?_))
 refine cm s rfl hm (fun hb hm=>?_) (fun hb hm=>?_)
 ·refine se (rg (sw (K:=1000) s (t rfl) rfl ci rfl fun w s=>nl ?_))
  obtain rfl:=si hm
  refine wpIn_ret ?_
  exact rn hD s rfl (rv1 (rc (K:=1000) rfl rfl))
 ·refine wpIn_skip ?_
  refine se ?_
  obtain ⟨x2,hx2,hm⟩:=bs hm
  refine se (rg (sq s (ld (t rfl)) rfl fun a w s=>sq s (cc rfl (oc (t rfl) on) (s287 f _ _ hx2)) rfl fun a w s=>sq s (mve (t rfl)) rfl fun a w s=>sq s (Pn.x30 (t rfl)) rfl fun a w s=>sq s (Pn.x31 (t rfl)) rfl fun a w s=>sq s (Pn.x32 (t rfl)) rfl fun a w s=>sq s (sa (t rfl)) rfl fun a w s=>sq s (sa (t rfl)) rfl fun a w s=>sq s (sa (t rfl)) rfl fun a w s=>nl ?_))
  refine se (rg (sq s (mv (t rfl)) rfl fun a w s=>sq s (nt (t rfl)) rfl fun a w s=>nl ?_))
  refine cm s rfl hm (fun hb hm=>?_) (fun hb hm=>?_)
  ·refine se (rg (sw (K:=1000) s (t rfl) rfl ci rfl fun w s=>nl ?_))
   obtain rfl:=si hm
   refine wpIn_ret ?_
   exact rn hD s rfl (rv1 (rc (K:=1000) rfl rfl))
  ·refine wpIn_skip ?_
   refine se ?_
   obtain ⟨x3,hx3,hm⟩:=bs hm
   refine se (rg (sq s (ld (t rfl)) rfl fun a w s=>sqz [1001] hM s (cc rfl (oc (t rfl) on) (s288 f _ _ hx3)) (fun _=>rfl) rfl rfl fun y4 a w s=>nl ?_))
   refine wpIn_block ?_
   obtain ⟨o10,ho10,hko10⟩:=bs hm
   refine rfn (α:=Int×Expr) (X:=Unit) (σ:=Int) (pe:=fun x=>[Va x.1,Va x.2]) (gb:=(m260_r1 f v1)) (r:=o10) [(3,Pt (v1)),(4,Qv (pb b1 0))] [.ret] (fun z5 n6=>[Mg b1 (z5)]) (0:Int) () 1004 1002 1003 [1000] hM s (t rfl) vn (va (k:=1001) rfl vn) (kc rfl kn) rfl (fun _ _=>rfl) (fun _ _ h=>look_pick (l:=[3,4]) h) (zs1 (zs1 zs0)) rfl rfl rfl (fun E _ l ihy=>s308 E l (m260_r1 f v1) ihy f _ _ _ ho10) (fun l fn D tm htm u7 z5 r hm=>?_) (fun d11 a w n12 s=>?_)
   ·rcases z5 with ⟨z5,_ | j⟩
    ·unfold m260_r1 at hm
     dsimp only at hm
     refine Cy.mk (KL:=1002) (KT:=1003) [1000] [27,28] z5 htm rfl rfl rfl rfl rfl rfl (fun _=>rfl) fun M w_0 a n6 TB hM hD hTB s=>?_
     refine rg (sqr 1005 s (alr (cs:=[(.int .i64 (0:Int)),(.int .i64 (0:Int)),(.slice none 0 0)]) (z:=.agg #[(.int .i64 (0:Int)),(.int .i64 (0:Int)),(.slice none 0 0)]) (by kernel_rfl) rfl rfl) rfl rfl fun b8 a w s=>swd (K:=1005) s (t rfl) rfl (t rfl) rfl fun w s=>nl ?_)
     refine bgn (K:=1002) s rfl rfl fun RB w hRB s=>?_
     refine wpIn_block ?_
     obtain ⟨x9,hx9,hm⟩:=bs hm
     refine se (rg (sq s (lm (K:=1005) (t rfl) rfl) rfl fun a w s=>sq s (ld (t rfl)) rfl fun a w s=>sq s (cc rfl (oc (t rfl) (oc (t rfl) on)) (s289 f _ _ _ hx9)) rfl fun a w s=>sq s (sa (t rfl)) rfl fun a w s=>nl ?_))
     refine se (rg (sq s (mv (t rfl)) rfl fun a w s=>sq s (ne (t rfl) ci) rfl fun a w s=>nl ?_))
     refine cm s rfl hm (fun hb hm=>?_) (fun hb hm=>?_)
     ·refine se (rg (sq s (mv (t rfl)) rfl fun a w s=>sw (K:=1000) s (t rfl) rfl (t rfl) rfl fun w s=>nl ?_))
      obtain rfl:=si hm
      refine wpIn_ret ?_
      exact rde (KL:=1002) (KT:=1003) [1000] (some (.ret)) 1 false x9 () hM s rfl rfl hRB hTB (kc rfl kn) rfl rfl rfl rfl
     ·refine wpIn_skip ?_
      obtain rfl:=si hm
      exact rde (KL:=1002) (KT:=1003) [1000] none 0 true z5 () hM s rfl rfl hRB hTB (kc rfl kn) rfl rfl rfl rfl
    ·unfold m260_r1 at hm
     cases hm
   ·replace hm:=hko10
    rcases bfc hm with ⟨hj,hm⟩ | ⟨hj,hm⟩
    ·refine af0 hj ?_
     refine se (rg (sw (K:=1000) s (t rfl) rfl ci rfl fun w s=>nl ?_))
     obtain rfl:=si hm
     refine wpIn_ret ?_
     refine lvm (KD:=1004) s rfl rfl rfl fun a w ha s=>?_
     rw [← ha]
     exact rn hD s rfl (rv1 (rc (K:=1000) rfl rfl))
    ·rcases bfc hm with ⟨hj,hm⟩ | ⟨hj,hm⟩
     ·refine af1 (k:=0) hj rfl ?_
      obtain rfl:=si hm
      refine wpIn_ret ?_
      refine lvm (KD:=1004) s rfl rfl rfl fun a w ha s=>?_
      rw [← ha]
      exact rn hD s rfl (rv1 (rc (K:=1000) rfl rfl))
     ·cases hm
def m205_l2 (v0:List (List Int)):Nat→(Int×(List Int))→Option (Int×(List Int))
 | 0,_=>none
 | n+1,z6=>(bif (decide (z6.1 < (v0.length:Int))) then (idx v0 z6.1).bind fun x8=>(app z6.2 x8).bind fun x9=>m205_l2 v0 n ((wr (z6.1 + (1:Int))),x9) else some (z6.1,z6.2))
def m205_l1 (v0:List (List Int)):Nat→(Int×Int)→Option (Int×Int)
 | 0,_=>none
 | n+1,z1=>(bif (decide (z1.2 < (v0.length:Int))) then (idx v0 z1.2).bind fun x3=>(bif (decide ((wr (z1.1 + (x3.length:Int))) < (0:Int))) then none else m205_l1 v0 n ((wr (z1.1 + (x3.length:Int))),(wr (z1.2 + (1:Int))))) else some (z1.1,z1.2))
def m205 (f:Nat) (v0:List (List Int)):Option ((List Int)):=(m205_l1 v0 f ((0:Int),(0:Int))).bind fun o2s=>(m252 f o2s.1).bind fun x4=>(m205_l2 v0 f ((0:Int),([]:List Int))).bind fun o7s=>some o7s.2
set_option maxRecDepth 100000 in
theorem s205 (f:Nat) (v0:List (List Int)) (r:(List Int)) (hm:m205 f v0=some r):Sp Tryz.prog 205 [Va (v0)] (Rz (fun x:Value=>Qv x) (fun x=>[Ow 3 x (r)])):=by
 unfold m205 at hm
 refine ens Tryz.func205 (by kernel_rfl) rfl Tryz.ntmps205 rfl rfl fun M w_0 a hM hD s=>?_
 refine se (rg (sq s (saq cq) rfl fun a w s=>nl ?_))
 refine se (rg (sq s (sa ci) rfl fun a w s=>nl ?_))
 refine se ?_
 refine se (rg (sq s (mv (t rfl)) rfl fun a w s=>sq s (ln (t rfl)) rfl fun a w s=>sq s (mv ci) rfl fun a w s=>nl ?_))
 obtain ⟨o2s,hoo2,hko2⟩:=bs hm
 refine cpI (fun a w=>St M w_0 36 [(0,Va (v0)),(2,Qv (.slice none 0 0)),(3,Va (o2s.1)),(9,Va (v0)),(10,Va ((v0.length:Int))),(11,Va (o2s.2))] a w) ?_ fun a w s=>?_
 ·refine wpIn_block ?_
  refine loI (fun n z1=>m205_l1 v0 n z1) o2s (fun z1 a w=>St M w_0 36 [(0,Va (v0)),(2,Qv (.slice none 0 0)),(3,Va (z1.1)),(9,Va (v0)),(10,Va ((v0.length:Int))),(11,Va (z1.2))] a w) f ((0:Int),(0:Int)) (s.pick [0,2,3,9,10,11]) hoo2 (fun _=>rfl) fun n z1 a w hm s=>?_
  replace hm:m205_l1 v0 (n + 1) z1=some o2s:=hm
  unfold m205_l1 at hm
  refine se (rg (sq s (lt (t rfl) (t rfl)) rfl fun a w s=>nl ?_))
  refine se ?_
  refine cm s rfl hm (fun hb hm=>?_) (fun hb hm=>?_)
  ·refine wpIn_skip ?_
   refine se ?_
   refine wpIn_block ?_
   obtain ⟨x3,hx3,hm⟩:=bs hm
   refine se (rg (sq s (ix (t rfl) (t rfl) hx3) rfl fun a w s=>sq s (ld (t rfl)) rfl fun a w s=>sq s (sa (t rfl)) rfl fun a w s=>nl ?_))
   refine se (rg (sq s (mv (t rfl)) rfl fun a w s=>sq s (mv (t rfl)) rfl fun a w s=>sq s (ln (t rfl)) rfl fun a w s=>sq s (ad (t rfl) (t rfl)) rfl fun a w s=>sq s (sa (t rfl)) rfl fun a w s=>nl ?_))
   refine se (rg (sq s (mv (t rfl)) rfl fun a w s=>sq s (lt (t rfl) ci) rfl fun a w s=>nl ?_))
   refine cm s rfl hm (fun hb hm=>?_) (fun hb hm=>?_)
   ·cases hm
   ·refine wpIn_skip ?_
    refine rg (sq s (ad (t rfl) ci) rfl fun a w s=>sq s (mv (t rfl)) rfl fun a w s=>nl ?_)
    exact ⟨_,hm,s.pick [0,2,3,9,10,11]⟩
  ·refine wpIn_exit ?_
   obtain rfl:=si hm
   exact s.pick [0,2,3,9,10,11]
 ·replace hm:=hko2
  obtain ⟨x4,hx4,hm⟩:=bs hm
  refine se (rg (sq s (mv (t rfl)) rfl fun a w s=>sqz [1000] hM s (cc rfl (oc cq (oc (t rfl) on)) (s252 f _ _ hx4)) (fun _=>rfl) rfl rfl fun y5 a w s=>sq s (saq (t rfl)) rfl fun a w s=>nl ?_))
  refine se ?_
  refine se (rg (sq s (mv (t rfl)) rfl fun a w s=>sq s (ln (t rfl)) rfl fun a w s=>sq s (mv ci) rfl fun a w s=>nl ?_))
  obtain ⟨o7s,hoo7,hko7⟩:=bs hm
  refine cpI (fun a w=>∃ (o7sc0:Value),St M w_0 36 [(0,Va (v0)),(2,Qv (.slice none 0 0)),(3,Va (o2s.1)),(6,Qv o7sc0),(9,Va (v0)),(10,Va ((v0.length:Int))),(11,Va (o2s.2)),(25,Va (v0)),(26,Va ((v0.length:Int))),(27,Va (o7s.1)),(1000,Ow 3 o7sc0 (o7s.2))] a w) ?_ fun a w s=>?_
  ·refine wpIn_block ?_
   refine loI (fun n z6=>m205_l2 v0 n z6) o7s (fun z6 a w=>∃ (z6c0:Value),St M w_0 36 [(0,Va (v0)),(2,Qv (.slice none 0 0)),(3,Va (o2s.1)),(6,Qv z6c0),(9,Va (v0)),(10,Va ((v0.length:Int))),(11,Va (o2s.2)),(25,Va (v0)),(26,Va ((v0.length:Int))),(27,Va (z6.1)),(1000,Ow 3 z6c0 (z6.2))] a w) f ((0:Int),([]:List Int)) ⟨y5,s.pick [0,2,3,6,9,10,11,25,26,27,1000]⟩ hoo7 (fun _=>rfl) fun n z6 a w hm s=>?_
   obtain ⟨z6c0,s⟩:=s
   replace hm:m205_l2 v0 (n + 1) z6=some o7s:=hm
   unfold m205_l2 at hm
   refine se (rg (sq s (lt (t rfl) (t rfl)) rfl fun a w s=>nl ?_))
   refine se ?_
   refine cm s rfl hm (fun hb hm=>?_) (fun hb hm=>?_)
   ·refine wpIn_skip ?_
    refine se ?_
    refine wpIn_block ?_
    obtain ⟨x8,hx8,hm⟩:=bs hm
    refine se (rg (sq s (ix (t rfl) (t rfl) hx8) rfl fun a w s=>sq s (ld (t rfl)) rfl fun a w s=>sq s (sa (t rfl)) rfl fun a w s=>nl ?_))
    obtain ⟨x9,hx9,hm⟩:=bs hm
    refine rg (sq s (mvq (t rfl)) rfl fun a w s=>sq s (mv (t rfl)) rfl fun a w s=>apd (α:=Int) (k:=1000) s (t rfl) rfl (t rfl) hx9 rfl rfl fun c10 a w s=>sq s (saq (t rfl)) rfl fun a w s=>nl ?_)
    refine rg (sq s (ad (t rfl) ci) rfl fun a w s=>sq s (mv (t rfl)) rfl fun a w s=>nl ?_)
    exact ⟨_,hm,⟨c10,s.pick [0,2,3,6,9,10,11,25,26,27,1000]⟩⟩
   ·refine wpIn_exit ?_
    obtain rfl:=si hm
    exact ⟨z6c0,s.pick [0,2,3,6,9,10,11,25,26,27,1000]⟩
  ·obtain ⟨o7sc0,s⟩:=s
   replace hm:=hko7
   refine se (rg (sq s (mvq (t rfl)) rfl fun a w s=>sq s (saq (t rfl)) rfl fun a w s=>nl ?_))
   obtain rfl:=si hm
   refine wpIn_ret ?_
   exact rz [1000] o7sc0 hM hD s rfl (rv1 (rt rfl)) (kc rfl kn) rfl
def m259 (f:Nat) (v0:Expr):Option (Bool):=some ((((v0).Op == (0:Int)) && ((v0).Index == (0:Int))) && ((((v0).Args).length:Int) == (0:Int)))
set_option maxRecDepth 100000 in
theorem s259 (f:Nat) (v0:Expr) (r:Bool) (hm:m259 f v0=some r):Sp Tryz.prog 259 [Va (v0)] (Va (r)):=by
 unfold m259 at hm
 refine ens Tryz.func259 (by kernel_rfl) rfl Tryz.ntmps259 rfl rfl fun M w_0 a hM hD s=>?_
 refine se (rg (sq s (bx (t rfl)) rfl fun a w s=>sq s (sa cb) rfl fun a w s=>nl ?_))
 refine se (rg (sq s (fa (f:=Expr.Op) (t rfl)) rfl fun a w s=>sq s (ld (t rfl)) rfl fun a w s=>sq s (eq (t rfl) ci) rfl fun a w s=>sq s (mv (t rfl)) rfl fun a w s=>sg s rfl rfl (fun hb=>(fa (f:=Expr.Index) (t rfl))) rfl fun a w s=>sg s rfl rfl (fun hb=>(ld (tg rfl hb))) rfl fun a w s=>sg s rfl rfl (fun hb=>(eq (tg rfl hb) ci)) rfl fun a w s=>sq s (paP (t rfl) rfl) rfl fun a w s=>sq s (mv (t rfl)) rfl fun a w s=>sg s rfl rfl (fun hb=>(fa (f:=Expr.Args) (t rfl))) rfl fun a w s=>sg s rfl rfl (fun hb=>(ld (tg rfl hb))) rfl fun a w s=>sg s rfl rfl (fun hb=>(ln (tg rfl hb))) rfl fun a w s=>sg s rfl rfl (fun hb=>(eq (tg rfl hb) ci)) rfl fun a w s=>sq s (paP (t rfl) rfl) rfl fun a w s=>sq s (sa (t rfl)) rfl fun a w s=>nl ?_))
 obtain rfl:=si hm
 refine wpIn_ret ?_
 exact rn hD s rfl (rv1 (rt rfl))
def m223 (f:Nat) (v0:Control) (v1:Int):Option (ByteArray):=(m248 f v0).bind fun x1=>(bif (decide (v1 < (wr ((2:Int) * (v0).Actuators)))) then (cat (runeStr (Ik.toI (Ik.ofI (Ik.toI (wr ((97:Int) + (wr (v1.tdiv (2:Int)))))):Kd .i32))) (runeStr (Ik.toI (Ik.ofI (Ik.toI (wr ((48:Int) + (v1.tmod (2:Int))))):Kd .i32)))).bind fun x2=>some x2 else (bif (decide (v1 < x1)) then (idx ((v0).Inputs) (wr (v1 - (wr ((2:Int) * (v0).Actuators))))).bind fun x3=>some x3 else (idx ((v0).Signals) (wr (v1 - x1))).bind fun x4=>some ((x4).Name)))
set_option maxRecDepth 100000 in
theorem s223 (f:Nat) (v0:Control) (v1:Int) (r:ByteArray) (hm:m223 f v0 v1=some r):Sp Tryz.prog 223 [Va (v0),Va (v1)] (Va (r)):=by
 unfold m223 at hm
 refine ens Tryz.func223 (by kernel_rfl) rfl Tryz.ntmps223 rfl rfl fun M w_0 a hM hD s=>?_
 refine se (rg (sq s (bx (t rfl)) rfl fun a w s=>sq s (sa cs) rfl fun a w s=>nl ?_))
 obtain ⟨x1,hx1,hm⟩:=bs hm
 refine se (rg (sq s (ld (t rfl)) rfl fun a w s=>sq s (cc rfl (oc (t rfl) on) (s248 f _ _ hx1)) rfl fun a w s=>sq s (sa (t rfl)) rfl fun a w s=>nl ?_))
 refine wpIn_block ?_
 refine se (rg (sq s (mv (t rfl)) rfl fun a w s=>sq s (fa (f:=Control.Actuators) (t rfl)) rfl fun a w s=>sq s (ld (t rfl)) rfl fun a w s=>sq s (ml ci (t rfl)) rfl fun a w s=>sq s (lt (t rfl) (t rfl)) rfl fun a w s=>sq s (sa (t rfl)) rfl fun a w s=>nl ?_))
 refine cm s rfl hm (fun hb hm=>?_) (fun hb hm=>?_)
 ·obtain ⟨x2,hx2,hm⟩:=bs hm
  refine se (rg (sq s (mv (t rfl)) rfl fun a w s=>sq s (qu (t rfl) ci (by decide)) rfl fun a w s=>sq s (ad ci (t rfl)) rfl fun a w s=>sq s (cvk (t rfl) (by kernel_rfl) (by kernel_rfl)) rfl fun a w s=>sq s (cvs (t rfl) (by kernel_rfl) (by kernel_rfl)) rfl fun a w s=>sq s (mv (t rfl)) rfl fun a w s=>sq s (rm (t rfl) ci (by decide)) rfl fun a w s=>sq s (ad ci (t rfl)) rfl fun a w s=>sq s (cvk (t rfl) (by kernel_rfl) (by kernel_rfl)) rfl fun a w s=>sq s (cvs (t rfl) (by kernel_rfl) (by kernel_rfl)) rfl fun a w s=>sq s (ct (t rfl) (t rfl) hx2) rfl fun a w s=>sq s (sa (t rfl)) rfl fun a w s=>nl ?_))
  obtain rfl:=si hm
  refine wpIn_ret ?_
  exact rn hD s rfl (rv1 (rt rfl))
 ·refine se (rg (sq s (mv (t rfl)) rfl fun a w s=>sq s (mv (t rfl)) rfl fun a w s=>sq s (lt (t rfl) (t rfl)) rfl fun a w s=>sq s (sa (t rfl)) rfl fun a w s=>nl ?_))
  refine cm s rfl hm (fun hb hm=>?_) (fun hb hm=>?_)
  ·obtain ⟨x3,hx3,hm⟩:=bs hm
   refine se (rg (sq s (fa (f:=Control.Inputs) (t rfl)) rfl fun a w s=>sq s (ld (t rfl)) rfl fun a w s=>sq s (mv (t rfl)) rfl fun a w s=>sq s (fa (f:=Control.Actuators) (t rfl)) rfl fun a w s=>sq s (ld (t rfl)) rfl fun a w s=>sq s (ml ci (t rfl)) rfl fun a w s=>sq s (sb (t rfl) (t rfl)) rfl fun a w s=>sq s (ix (t rfl) (t rfl) hx3) rfl fun a w s=>sq s (ld (t rfl)) rfl fun a w s=>sq s (sa (t rfl)) rfl fun a w s=>nl ?_))
   obtain rfl:=si hm
   refine wpIn_ret ?_
   exact rn hD s rfl (rv1 (rt rfl))
  ·obtain ⟨x4,hx4,hm⟩:=bs hm
   refine se (rg (sq s (fa (f:=Control.Signals) (t rfl)) rfl fun a w s=>sq s (ld (t rfl)) rfl fun a w s=>sq s (mv (t rfl)) rfl fun a w s=>sq s (mv (t rfl)) rfl fun a w s=>sq s (sb (t rfl) (t rfl)) rfl fun a w s=>sq s (ix (t rfl) (t rfl) hx4) rfl fun a w s=>sq s (fa (f:=Signal.Name) (t rfl)) rfl fun a w s=>sq s (ld (t rfl)) rfl fun a w s=>sq s (sa (t rfl)) rfl fun a w s=>nl ?_))
   obtain rfl:=si hm
   refine wpIn_ret ?_
   exact rn hD s rfl (rv1 (rt rfl))
def m310_l1 (f:Nat) (v0:ByteArray) (v1:Bool):Nat→Int→Option (Lo (Int) (Int))
 | 0,_=>none
 | n+1,z2=>(bif (decide (z2 < (v0.size:Int))) then (m262 f (srn v0 z2)).bind fun x4=>(bif (x4 == v1) then some (.ret z2) else m310_l1 f v0 v1 n (snx v0 z2)) else some (.brk (snx v0 z2)))
def m310 (f:Nat) (v0:ByteArray) (v1:Bool):Option (Int):=((m310_l1 f v0 v1 f (0:Int)).bind fun o3=>match o3 with | .brk o3s=>some (-1:Int) | .ret r=>some r)
set_option maxRecDepth 100000 in
theorem s310 (f:Nat) (v0:ByteArray) (v1:Bool) (r:Int) (hm:m310 f v0 v1=some r):Sp Tryz.prog 310 [Va (v0),Qv (fv 262 [] []),Va (v1)] (Va (r)):=by
 unfold m310 at hm
 refine ens Tryz.func310 (by kernel_rfl) rfl Tryz.ntmps310 rfl rfl fun M w_0 a hM hD s=>?_
 refine se (rg (sq s (sa ci) rfl fun a w s=>nl ?_))
 refine se ?_
 refine se (rg (sq s (mv (t rfl)) rfl fun a w s=>sqsi 1000 s (rgs (t rfl) Tryz.underlying9) rfl rfl fun b1 a w s=>nl ?_))
 obtain ⟨o3,hoo3,hko3⟩:=bs hm
 refine lcI o3 (fun o3s a w=>St M w_0 21 [(0,Va (v0)),(1,Qv (fv 262 [] [])),(2,Va (v1)),(6,Va ((0:Int))),(10,Qv (pb b1 0)),(1000,Si b1 (v0) (o3s))] a w) ?_ fun o3s a w ho s=>?_
 ·refine wpIn_block ?_
  refine loI (fun n z2=>m310_l1 f v0 v1 n z2) o3 (fun z2 a w=>St M w_0 21 [(0,Va (v0)),(1,Qv (fv 262 [] [])),(2,Va (v1)),(6,Va ((0:Int))),(10,Qv (pb b1 0)),(1000,Si b1 (v0) (z2))] a w) f (0:Int) (s.pick [0,1,2,6,10,1000]) hoo3 (fun _=>rfl) fun n z2 a w hm s=>?_
  replace hm:m310_l1 f v0 v1 (n + 1) z2=some o3:=hm
  unfold m310_l1 at hm
  refine se (rg (nxs (K:=1000) s (t rfl) rfl rfl rfl fun a w s=>sq s (nx0 (t rfl)) rfl fun a w s=>nl ?_))
  refine se ?_
  refine cm s rfl hm (fun hb hm=>?_) (fun hb hm=>?_)
  ·refine wpIn_skip ?_
   refine wpIn_block ?_
   refine se (rg (sq s (nx1 (t rfl) hb) rfl fun a w s=>sq s (nx2 (t rfl) hb) rfl fun a w s=>sq s (sa (t rfl)) rfl fun a w s=>sq s (sa (t rfl)) rfl fun a w s=>nl ?_))
   obtain ⟨x4,hx4,hm⟩:=bs hm
   refine se (rg (sq s (mvq (t rfl)) rfl fun a w s=>sq s (mv (t rfl)) rfl fun a w s=>sq s (ccv (t rfl) rfl (oc (t rfl) on) vn vn (s262 f _ _ hx4)) rfl fun a w s=>sq s (mv (t rfl)) rfl fun a w s=>sq s (beq (t rfl) (t rfl) Tryz.underlying4) rfl fun a w s=>nl ?_))
   refine cm s rfl hm (fun hb hm=>?_) (fun hb hm=>?_)
   ·refine se (rg (sq s (mv (t rfl)) rfl fun a w s=>sq s (sa (t rfl)) rfl fun a w s=>nl ?_))
    obtain rfl:=si hm
    replace hm:=hko3
    dsimp only at hm
    obtain rfl:=si hm
    refine wpIn_ret ?_
    exact rn hD s rfl (rv1 (rt rfl))
   ·refine wpIn_skip ?_
    exact ⟨_,hm,s.pick [0,1,2,6,10,1000]⟩
  ·refine wpIn_exit ?_
   exact ⟨_,(si hm).symm,s.pick [0,1,2,6,10,1000]⟩
 ·subst ho
  replace hm:=hko3
  dsimp only at hm
  refine se (rg (sq s (sa ci) rfl fun a w s=>nl ?_))
  obtain rfl:=si hm
  refine wpIn_ret ?_
  exact rn hD s rfl (rv1 (rt rfl))
def m290 (f:Nat) (v0:ByteArray):Option (Int):=(m310 f v0 true).bind fun x1=>some x1
set_option maxRecDepth 100000 in
theorem s290 (f:Nat) (v0:ByteArray) (r:Int) (hm:m290 f v0=some r):Sp Tryz.prog 290 [Va (v0),Qv (fv 262 [] [])] (Va (r)):=by
 unfold m290 at hm
 refine ens Tryz.func290 (by kernel_rfl) rfl Tryz.ntmps290 rfl rfl fun M w_0 a hM hD s=>?_
 refine se (rg (sq s (sa ci) rfl fun a w s=>nl ?_))
 obtain ⟨x1,hx1,hm⟩:=bs hm
 refine se (rg (sq s (mv (t rfl)) rfl fun a w s=>sq s (mvq (t rfl)) rfl fun a w s=>sq s (cc rfl (oc (t rfl) (oc (t rfl) (oc cb on))) (s310 f _ _ _ hx1)) rfl fun a w s=>sq s (sa (t rfl)) rfl fun a w s=>nl ?_))
 obtain rfl:=si hm
 refine wpIn_ret ?_
 exact rn hD s rfl (rv1 (rt rfl))
def m261 (f:Nat) (v0:ByteArray):Option (Bool):=(m290 f v0).bind fun x1=>some (decide (x1≥(0:Int)))
set_option maxRecDepth 100000 in
theorem s261 (f:Nat) (v0:ByteArray) (r:Bool) (hm:m261 f v0=some r):Sp Tryz.prog 261 [Va (v0),Qv (fv 262 [] [])] (Va (r)):=by
 unfold m261 at hm
 refine ens Tryz.func261 (by kernel_rfl) rfl Tryz.ntmps261 rfl rfl fun M w_0 a hM hD s=>?_
 refine se (rg (sq s (sa cb) rfl fun a w s=>nl ?_))
 obtain ⟨x1,hx1,hm⟩:=bs hm
 refine se (rg (sq s (mv (t rfl)) rfl fun a w s=>sq s (mvq (t rfl)) rfl fun a w s=>sq s (cc rfl (oc (t rfl) (oc (t rfl) on)) (s290 f _ _ hx1)) rfl fun a w s=>sq s (ge (t rfl) ci) rfl fun a w s=>sq s (sa (t rfl)) rfl fun a w s=>nl ?_))
 obtain rfl:=si hm
 refine wpIn_ret ?_
 exact rn hD s rfl (rv1 (rt rfl))
def m224 (f:Nat) (v0:ByteArray) (v1:Int) (v2:List ByteArray) (v3:List Signal) (v4:List Int) (v5:List Int) (v6:List (ByteArray×Int)):Option (Int×(List (ByteArray×Int))):=(bif (v0.toList == (⟨#[]⟩:ByteArray).toList) then some true else (sidx v0 (0:Int)).bind fun x1=>some (decide ((x1.toNat:Int) < (UInt8.ofNat 97).toNat))).bind fun r2=>(bif r2 then some true else (sidx v0 (0:Int)).bind fun x3=>some (decide ((x3.toNat:Int) > (UInt8.ofNat 122).toNat))).bind fun r4=>(bif r4 then some true else (m261 f v0).bind fun x5=>some x5).bind fun r6=>(bif r6 then some ((3:Int),v6) else (bif (decide ((v0.size:Int) > (24:Int))) then some ((17:Int),v6) else (bif (mat eqqS v6 v0).isSome then some ((7:Int),v6) else some ((0:Int),(mput eqqS v6 v0 (v6.length:Int))))))
set_option maxRecDepth 100000 in
theorem s224 (f:Nat) (n0:Nat) (n1:Value) (n2:Value) (n3:Value) (n4:Value) (n5:Nat) (v0:ByteArray) (v1:Int) (v2:List ByteArray) (v3:List Signal) (v4:List Int) (v5:List Int) (v6:List (ByteArray×Int)) (r:Int×(List (ByteArray×Int))) (hm:m224 f v0 v1 v2 v3 v4 v5 v6=some r):Cg Tryz.prog 224 [Qv (pb n0 0),Va (v0)] [Mr n0 [(.int .i64 v1),n1,n2,n3,n4,(.map (some n5)),(fv 220 [(pb n0 0)] []),(fv 221 [(pb n0 0)] []),(fv 222 [(pb n0 0)] [])],At n1 (Va (v2)),At n2 (Va (v3)),At n3 (Va (v4)),At n4 (Va (v5)),Om n5 (v6:List (ByteArray×Int))] (Rz (fun x:Unit=>Va (r.1)) (fun x=>[Mr n0 [(.int .i64 v1),n1,n2,n3,n4,(.map (some n5)),(fv 220 [(pb n0 0)] []),(fv 221 [(pb n0 0)] []),(fv 222 [(pb n0 0)] [])],At n1 (Va (v2)),At n2 (Va (v3)),At n3 (Va (v4)),At n4 (Va (v5)),Om n5 (r.2:List (ByteArray×Int))])):=by
 unfold m224 at hm
 refine eng Tryz.func224 (by kernel_rfl) rfl Tryz.ntmps224 rfl rfl fun M w_0 a hM hD s=>?_
 refine se (rg (sq s (sa ci) rfl fun a w s=>nl ?_))
 refine se ?_
 obtain ⟨r2,hr2,hm⟩:=bs hm
 have gr2:=gF hr2
 have er2:=gT hr2
 obtain ⟨x1,hx1,gr2⟩:=gx gr2
 obtain ⟨r4,hr4,hm⟩:=bs hm
 have gr4:=gF hr4
 have er4:=gT hr4
 obtain ⟨x3,hx3,gr4⟩:=gx gr4
 obtain ⟨r6,hr6,hm⟩:=bs hm
 have gr6:=gF hr6
 have er6:=gT hr6
 obtain ⟨x5,hx5,gr6⟩:=gx gr6
 refine se (rg (sq s (mv (t rfl)) rfl fun a w s=>sq s (seq (t rfl) cs) rfl fun a w s=>sq s (mv (t rfl)) rfl fun a w s=>sg s rfl rfl (fun hb=>(mv (t rfl))) rfl fun a w s=>sg s rfl rfl (fun hb=>(sx (tg rfl hb) ci Tryz.underlying9 (hx1 hb))) rfl fun a w s=>sg s rfl rfl (fun hb=>(lt8 (tg rfl hb) (c8 (by decide)))) rfl fun a w s=>sq s (po (t rfl) rfl (fun h=>si (gr2 h)) (fun h=>(si (er2 h)).symm)) rfl fun a w s=>sq s (mv (t rfl)) rfl fun a w s=>sg s rfl rfl (fun hb=>(mv (t rfl))) rfl fun a w s=>sg s rfl rfl (fun hb=>(sx (tg rfl hb) ci Tryz.underlying9 (hx3 hb))) rfl fun a w s=>sg s rfl rfl (fun hb=>(gt8 (tg rfl hb) (c8 (by decide)))) rfl fun a w s=>sq s (po (t rfl) rfl (fun h=>si (gr4 h)) (fun h=>(si (er4 h)).symm)) rfl fun a w s=>sq s (mv (t rfl)) rfl fun a w s=>sg s rfl rfl (fun hb=>(mv (t rfl))) rfl fun a w s=>sg s rfl rfl (fun hb=>(cc rfl (oc (tg rfl hb) (oc qf on)) (s261 f _ _ (hx5 hb)))) rfl fun a w s=>sq s (po (t rfl) rfl (fun h=>si (gr6 h)) (fun h=>(si (er6 h)).symm)) rfl fun a w s=>nl ?_))
 refine cm s rfl hm (fun hb hm=>?_) (fun hb hm=>?_)
 ·refine se (rg (sq s (sa ci) rfl fun a w s=>nl ?_))
  obtain rfl:=si hm
  refine wpIn_ret ?_
  exact rz [1000,1001,1002,1003,1004,1005] () hM hD s rfl (rv1 (rt rfl)) (kc rfl (kc rfl (kc rfl (kc rfl (kc rfl (kc rfl kn)))))) rfl
 ·refine wpIn_skip ?_
  refine se ?_
  refine se (rg (sq s (mv (t rfl)) rfl fun a w s=>sq s (lns (t rfl) Tryz.underlying9) rfl fun a w s=>sq s (gt (t rfl) ci) rfl fun a w s=>nl ?_))
  refine cm s rfl hm (fun hb hm=>?_) (fun hb hm=>?_)
  ·refine se (rg (sq s (sa ci) rfl fun a w s=>nl ?_))
   obtain rfl:=si hm
   refine wpIn_ret ?_
   exact rz [1000,1001,1002,1003,1004,1005] () hM hD s rfl (rv1 (rt rfl)) (kc rfl (kc rfl (kc rfl (kc rfl (kc rfl (kc rfl kn)))))) rfl
  ·refine wpIn_skip ?_
   refine se ?_
   refine se (rg (sq s (mvq (t rfl)) rfl fun a w s=>sq s (nkq (t rfl)) rfl fun a w s=>sq s (fm_ (off:=5) (m:=0) (q:=5) (t rfl) (by kernel_rfl) rfl) rfl fun a w s=>sq s (lrp (K:=1000) (t rfl) rfl rfl (by kernel_rfl)) rfl fun a w s=>sq s (mv (t rfl)) rfl fun a w s=>sq s (lko (K:=9) (E:=3) (KK:=1005) (z:=(0:Int)) (t rfl) rfl (t rfl) (by kernel_rfl) (by kernel_rfl)) rfl fun a w s=>sq s (mve (t rfl)) rfl fun a w s=>sq s (Pn.x20 (t rfl)) rfl fun a w s=>sq s (Pn.x21 (t rfl)) rfl fun a w s=>sq s (sa (t rfl)) rfl fun a w s=>sq s (sa (t rfl)) rfl fun a w s=>nl ?_))
   refine se (rg (sq s (mv (t rfl)) rfl fun a w s=>nl ?_))
   refine cm s rfl hm (fun hb hm=>?_) (fun hb hm=>?_)
   ·refine se (rg (sq s (sa ci) rfl fun a w s=>nl ?_))
    obtain rfl:=si hm
    refine wpIn_ret ?_
    exact rz [1000,1001,1002,1003,1004,1005] () hM hD s rfl (rv1 (rt rfl)) (kc rfl (kc rfl (kc rfl (kc rfl (kc rfl (kc rfl kn)))))) rfl
   ·refine wpIn_skip ?_
    refine se (flow s (m:=10) (.cons (.cons (.cons (.cons (.cons (.cons (.cons (.cons (.cons (.cons .nil rfl (mvq (t rfl))) rfl (nkq (t rfl))) rfl (fm_ (off:=5) (m:=0) (q:=5) (t rfl) (by kernel_rfl) rfl)) rfl (lrp (K:=1000) (t rfl) rfl rfl (by kernel_rfl))) rfl (mv (t rfl))) rfl (mvq (t rfl))) rfl (nkq (t rfl))) rfl (fm_ (off:=5) (m:=0) (q:=5) (t rfl) (by kernel_rfl) rfl)) rfl (lrp (K:=1000) (t rfl) rfl rfl (by kernel_rfl))) rfl (lnm (K:=9) (E:=3) (KK:=1005) (t rfl) rfl (by kernel_rfl))) (by kernel_rfl) rfl rfl fun a w s=>stm (K:=9) (E:=3) (KK:=1005) s (t rfl) rfl (t rfl) (t rfl) (by kernel_rfl) fun w s=>nl ?_)
    refine se (rg (sq s (sa ci) rfl fun a w s=>nl ?_))
    obtain rfl:=si hm
    refine wpIn_ret ?_
    exact rz [1000,1001,1002,1003,1004,1005] () hM hD s rfl (rv1 (rt rfl)) (kc rfl (kc rfl (kc rfl (kc rfl (kc rfl (kc rfl kn)))))) rfl
def m258 (f:Nat) (v0:Int) (v1:Int) (v2:Int) (v3:List ByteArray) (v4:List Signal) (v5:List Int) (v6:List Int) (v7:List (ByteArray×Int)) (v8:Bool):Option (Bool):=(m248 f (⟨v2,v3,v4,v5,v6⟩:Control)).bind fun x1=>(bif v8 then some true else (bif (decide ((wr (v0 - x1))≥v1)) then (idx v4 (wr (v0 - x1))).bind fun x2=>some ((x2).Kind == (0:Int)) else some false).bind fun r3=>some r3).bind fun r4=>some r4
set_option maxRecDepth 100000 in
theorem s258 (f:Nat) (n0:Nat) (n1:Nat) (n2:Nat) (n3:Value) (n4:Value) (n5:Value) (n6:Value) (n7:Nat) (v0:Int) (v1:Int) (v2:Int) (v3:List ByteArray) (v4:List Signal) (v5:List Int) (v6:List Int) (v7:List (ByteArray×Int)) (v8:Bool) (r:Bool) (hm:m258 f v0 v1 v2 v3 v4 v5 v6 v7 v8=some r):Cg Tryz.prog 258 [Va (v0),Qv (pb n0 0),Qv (pb n1 0),Pt (v1)] [Mr n0 [(pb n2 0)],Mr n2 [(.int .i64 v2),n3,n4,n5,n6,(.map (some n7)),(fv 220 [(pb n2 0)] []),(fv 221 [(pb n2 0)] []),(fv 222 [(pb n2 0)] [])],At n3 (Va (v3)),At n4 (Va (v4)),At n5 (Va (v5)),At n6 (Va (v6)),Om n7 (v7:List (ByteArray×Int)),Mg n1 (v8)] (Rz (fun x:Unit=>Dd) (fun x=>[Mr n0 [(pb n2 0)],Mr n2 [(.int .i64 v2),n3,n4,n5,n6,(.map (some n7)),(fv 220 [(pb n2 0)] []),(fv 221 [(pb n2 0)] []),(fv 222 [(pb n2 0)] [])],At n3 (Va (v3)),At n4 (Va (v4)),At n5 (Va (v5)),At n6 (Va (v6)),Om n7 (v7:List (ByteArray×Int)),Mg n1 (r)])):=by
 unfold m258 at hm
 refine eng Tryz.func258 (by kernel_rfl) rfl Tryz.ntmps258 rfl rfl fun M w_0 a hM hD s=>?_
 obtain ⟨x1,hx1,hm⟩:=bs hm
 refine se (rg (sq s (mv (t rfl)) rfl fun a w s=>sq s (lrp (K:=1000) (t rfl) rfl rfl (by kernel_rfl)) rfl fun a w s=>sq s (nkq (t rfl)) rfl fun a w s=>sq s (fm_ (off:=0) (m:=4) (q:=0) (t rfl) (by kernel_rfl) rfl) rfl fun a w s=>sq s (lra (K:=1001) (ds:=[(.int .i64 v2),n3,n4,n5,n6]) Control (t rfl) rfl rfl rfl rfl) rfl fun a w s=>sq s (cc rfl (oc (qad (y:=(⟨v2,v3,v4,v5,v6⟩:Control)) (t rfl) (rpS25 (l:=([(.int .i64 v2)],[n3],[n4],[n5],[n6])) rpi (rpz (k:=1002) rfl) (rpz (k:=1003) rfl) (rpz (k:=1004) rfl) (rpz (k:=1005) rfl)) rfl) on) (s248 f _ _ hx1)) rfl fun a w s=>sq s (sb (t rfl) (t rfl)) rfl fun a w s=>sq s (sa (t rfl)) rfl fun a w s=>nl ?_))
 obtain ⟨r4,hr4,hm⟩:=bs hm
 have gr4:=gF hr4
 have er4:=gT hr4
 obtain ⟨r3,hr3,gr4⟩:=gx gr4
 have gr3:=gT2 hr3
 have er3:=gF1 hr3
 obtain ⟨x2,hx2,gr3⟩:=gx gr3
 refine rg (sq s (lm (K:=1007) (t rfl) rfl) rfl fun a w s=>sq s (mv (t rfl)) rfl fun a w s=>sg s rfl rfl (fun hb=>(mv (t rfl))) rfl fun a w s=>sg s rfl rfl (fun hb=>(ld (t rfl))) rfl fun a w s=>sg s rfl rfl (fun hb=>(ge (tg rfl hb) (tg rfl hb))) rfl fun a w s=>sg s rfl rfl (fun hb=>(mv (tg rfl hb))) rfl fun a w s=>sn s rfl rfl (fun hb hc=>(lrp (K:=1000) (t rfl) rfl rfl (by kernel_rfl))) rfl fun a w s=>sn s rfl rfl (fun hb hc=>(nkq (tg rfl (g2 hb hc)))) rfl fun a w s=>sn s rfl rfl (fun hb hc=>(fm_ (off:=0) (m:=4) (q:=0) (tg rfl (g2 hb hc)) (by kernel_rfl) rfl)) rfl fun a w s=>sn s rfl rfl (fun hb hc=>(fm_ (off:=2) (m:=0) (q:=2) (tg rfl (g2 hb hc)) (by kernel_rfl) rfl)) rfl fun a w s=>sn s rfl rfl (fun hb hc=>(lrc (K:=1001) (List Signal) (tg rfl (g2 hb hc)) rfl rfl rfl rfl)) rfl fun a w s=>sn s rfl rfl (fun hb hc=>(mv (t rfl))) rfl fun a w s=>sn s rfl rfl (fun hb hc=>(ix (ta (k:=1003) (tg rfl (g2 hb hc)) rfl) (tg rfl (g2 hb hc)) (hx2 (g2 hb hc)))) rfl fun a w s=>sn s rfl rfl (fun hb hc=>(fa (f:=Signal.Kind) (tg rfl (g2 hb hc)))) rfl fun a w s=>sn s rfl rfl (fun hb hc=>(ld (tg rfl (g2 hb hc)))) rfl fun a w s=>sn s rfl rfl (fun hb hc=>(eq (tg rfl (g2 hb hc)) ci)) rfl fun a w s=>sg s rfl rfl (fun hb=>(pag (tg rfl hb) rfl (fun h=>g2 hb h) (fun h=>si (gr3 (g2 hb h))) (fun h=>(si (er3 hb h)).symm))) rfl fun a w s=>sq s (po (t rfl) rfl (fun h=>si (gr4 h)) (fun h=>(si (er4 h)).symm)) rfl fun a w s=>sw (K:=1007) s (t rfl) rfl (t rfl) rfl fun w s=>nl ?_)
 obtain rfl:=si hm
 exact rze [1000,1001,1002,1003,1004,1005,1006,1007] () hM hD s rfl rv0 (kc rfl (kc rfl (kc rfl (kc rfl (kc rfl (kc rfl (kc rfl (kc rfl kn)))))))) rfl
def m286_l1 (g286:Expr→Int→(List ByteArray)→(List Signal)→(List Int)→(List Int)→(List (ByteArray×Int))→Bool→Int→Option (Bool)) (v0:Expr) (v1:Int) (v2:List ByteArray) (v3:List Signal) (v4:List Int) (v5:List Int) (v6:List (ByteArray×Int)) (v8:Int):Nat→(Int×Bool)→Option (Int×Bool)
 | 0,_=>none
 | n+1,z4=>(bif (decide (z4.1 < (((v0).Args).length:Int))) then (idx ((v0).Args) z4.1).bind fun x6=>(g286 x6 v1 v2 v3 v4 v5 v6 z4.2 v8).bind fun x8=>m286_l1 g286 v0 v1 v2 v3 v4 v5 v6 v8 n ((wr (z4.1 + (1:Int))),x8) else some (z4.1,z4.2))
def m286:Nat→Expr→Int→(List ByteArray)→(List Signal)→(List Int)→(List Int)→(List (ByteArray×Int))→Bool→Int→Option (Bool)
 | 0,_,_,_,_,_,_,_,_,_=>none
 | f+1,v0,v1,v2,v3,v4,v5,v6,v7,v8=>(bif ((v0).Op == (1:Int)) then (m258 f ((v0).Index) v8 v1 v2 v3 v4 v5 v6 v7).bind fun x2=>some x2 else some v7).bind fun z1=>(m286_l1 (m286 f) v0 v1 v2 v3 v4 v5 v6 v8 f ((0:Int),z1)).bind fun o5s=>some o5s.2
set_option maxRecDepth 100000 in
theorem s286:∀ (f:Nat) (n0:Nat) (n1:Nat) (n2:Nat) (n3:Nat) (n4:Value) (n5:Nat) (n6:Value) (n7:Value) (n8:Value) (n9:Value) (n10:Nat) (v0:Expr) (v1:Int) (v2:List ByteArray) (v3:List Signal) (v4:List Int) (v5:List Int) (v6:List (ByteArray×Int)) (v7:Bool) (v8:Int) (r:Bool),m286 f v0 v1 v2 v3 v4 v5 v6 v7 v8=some r→Cg Tryz.prog 286 [Va (v0),Qv (pb n0 0),Qv (pb n1 0)] [Mr n0 [(fv 258 [] [(pb n2 0),(pb n3 0),n4])],Mr n2 [(pb n5 0)],Mr n5 [(.int .i64 v1),n6,n7,n8,n9,(.map (some n10)),(fv 220 [(pb n5 0)] []),(fv 221 [(pb n5 0)] []),(fv 222 [(pb n5 0)] [])],At n6 (Va (v2)),At n7 (Va (v3)),At n8 (Va (v4)),At n9 (Va (v5)),Om n10 (v6:List (ByteArray×Int)),Mg n3 (v7),At n4 (Pt (v8)),Mr n1 [(fv 286 [] [(pb n0 0),(pb n1 0)])]] (Rz (fun x:Unit=>Dd) (fun x=>[Mr n0 [(fv 258 [] [(pb n2 0),(pb n3 0),n4])],Mr n2 [(pb n5 0)],Mr n5 [(.int .i64 v1),n6,n7,n8,n9,(.map (some n10)),(fv 220 [(pb n5 0)] []),(fv 221 [(pb n5 0)] []),(fv 222 [(pb n5 0)] [])],At n6 (Va (v2)),At n7 (Va (v3)),At n8 (Va (v4)),At n9 (Va (v5)),Om n10 (v6:List (ByteArray×Int)),Mg n3 (r),At n4 (Pt (v8)),Mr n1 [(fv 286 [] [(pb n0 0),(pb n1 0)])]])):=by
 intro f
 induction f with
 | zero=>intro n0 n1 n2 n3 n4 n5 n6 n7 n8 n9 n10 v0 v1 v2 v3 v4 v5 v6 v7 v8 r hm;cases hm
 | succ f ih=>
 intro n0 n1 n2 n3 n4 n5 n6 n7 n8 n9 n10 v0 v1 v2 v3 v4 v5 v6 v7 v8 r hm
 unfold m286 at hm
 refine eng Tryz.func286 (by kernel_rfl) rfl Tryz.ntmps286 rfl rfl fun M w_0 a hM hD s=>?_
 refine se (rg (sq s (bx (t rfl)) rfl fun a w s=>nl ?_))
 refine se ?_
 refine se (rg (sq s (fa (f:=Expr.Op) (t rfl)) rfl fun a w s=>sq s (ld (t rfl)) rfl fun a w s=>sq s (eq (t rfl) ci) rfl fun a w s=>nl ?_))
 obtain ⟨z1,hz1,hkz1⟩:=bs hm
 refine cpI (fun a w=>St M w_0 24 [(0,Va (v0)),(1,Qv (pb n0 0)),(2,Qv (pb n1 0)),(3,Pt (v0)),(1000,Mr n0 [(fv 258 [] [(pb n2 0),(pb n3 0),n4])]),(1001,Mr n2 [(pb n5 0)]),(1002,Mr n5 [(.int .i64 v1),n6,n7,n8,n9,(.map (some n10)),(fv 220 [(pb n5 0)] []),(fv 221 [(pb n5 0)] []),(fv 222 [(pb n5 0)] [])]),(1003,At n6 (Va (v2))),(1004,At n7 (Va (v3))),(1005,At n8 (Va (v4))),(1006,At n9 (Va (v5))),(1007,Om n10 (v6:List (ByteArray×Int))),(1008,Mg n3 (z1)),(1009,At n4 (Pt (v8))),(1010,Mr n1 [(fv 286 [] [(pb n0 0),(pb n1 0)])])] a w) ?_ fun a w s=>?_
 ·refine cm s rfl hz1 (fun hb hm=>?_) (fun hb hm=>?_)
  ·obtain ⟨x2,hx2,hm⟩:=bs hm
   refine rg (sq s (lrp (K:=1000) (t rfl) rfl rfl (by kernel_rfl)) rfl fun a w s=>sq s (fa (f:=Expr.Index) (t rfl)) rfl fun a w s=>sq s (ld (t rfl)) rfl fun a w s=>cgv [1001,1002,1003,1004,1005,1006,1007,1008] [1001,1002,1003,1004,1005,1006,1007,1008] hM s (t rfl) rfl (oc (t rfl) on) vn (vq (vq (va (k:=1009) rfl vn))) (s258 f n2 n3 n5 n6 n7 n8 n9 n10 _ _ _ _ _ _ _ _ _ _ hx2) (kc rfl (kc rfl (kc rfl (kc rfl (kc rfl (kc rfl (kc rfl (kc rfl kn)))))))) rfl (fun _=>rfl) rfl rfl rfl fun y3 a w s=>nl ?_)
   obtain rfl:=si hm
   exact s.pick [0,1,2,3,1000,1001,1002,1003,1004,1005,1006,1007,1008,1009,1010]
  ·refine wpIn_skip ?_
   obtain rfl:=si hm
   exact s.pick [0,1,2,3,1000,1001,1002,1003,1004,1005,1006,1007,1008,1009,1010]
 ·replace hm:=hkz1
  refine se (rg (sq s (fa (f:=Expr.Args) (t rfl)) rfl fun a w s=>sq s (ld (t rfl)) rfl fun a w s=>sq s (ln (t rfl)) rfl fun a w s=>sq s (mv ci) rfl fun a w s=>nl ?_))
  obtain ⟨o5s,hoo5,hko5⟩:=bs hm
  refine cpI (fun a w=>St M w_0 24 [(0,Va (v0)),(1,Qv (pb n0 0)),(2,Qv (pb n1 0)),(3,Pt (v0)),(14,Va ((v0).Args)),(15,Va ((((v0).Args).length:Int))),(16,Va (o5s.1)),(1000,Mr n0 [(fv 258 [] [(pb n2 0),(pb n3 0),n4])]),(1001,Mr n2 [(pb n5 0)]),(1002,Mr n5 [(.int .i64 v1),n6,n7,n8,n9,(.map (some n10)),(fv 220 [(pb n5 0)] []),(fv 221 [(pb n5 0)] []),(fv 222 [(pb n5 0)] [])]),(1003,At n6 (Va (v2))),(1004,At n7 (Va (v3))),(1005,At n8 (Va (v4))),(1006,At n9 (Va (v5))),(1007,Om n10 (v6:List (ByteArray×Int))),(1008,Mg n3 (o5s.2)),(1009,At n4 (Pt (v8))),(1010,Mr n1 [(fv 286 [] [(pb n0 0),(pb n1 0)])])] a w) ?_ fun a w s=>?_
  ·refine wpIn_block ?_
   refine loI (fun n z4=>m286_l1 (m286 f) v0 v1 v2 v3 v4 v5 v6 v8 n z4) o5s (fun z4 a w=>St M w_0 24 [(0,Va (v0)),(1,Qv (pb n0 0)),(2,Qv (pb n1 0)),(3,Pt (v0)),(14,Va ((v0).Args)),(15,Va ((((v0).Args).length:Int))),(16,Va (z4.1)),(1000,Mr n0 [(fv 258 [] [(pb n2 0),(pb n3 0),n4])]),(1001,Mr n2 [(pb n5 0)]),(1002,Mr n5 [(.int .i64 v1),n6,n7,n8,n9,(.map (some n10)),(fv 220 [(pb n5 0)] []),(fv 221 [(pb n5 0)] []),(fv 222 [(pb n5 0)] [])]),(1003,At n6 (Va (v2))),(1004,At n7 (Va (v3))),(1005,At n8 (Va (v4))),(1006,At n9 (Va (v5))),(1007,Om n10 (v6:List (ByteArray×Int))),(1008,Mg n3 (z4.2)),(1009,At n4 (Pt (v8))),(1010,Mr n1 [(fv 286 [] [(pb n0 0),(pb n1 0)])])] a w) f ((0:Int),z1) (s.pick [0,1,2,3,14,15,16,1000,1001,1002,1003,1004,1005,1006,1007,1008,1009,1010]) hoo5 (fun _=>rfl) fun n z4 a w hm s=>?_
   replace hm:m286_l1 (m286 f) v0 v1 v2 v3 v4 v5 v6 v8 (n + 1) z4=some o5s:=hm
   unfold m286_l1 at hm
   refine se (rg (sq s (lt (t rfl) (t rfl)) rfl fun a w s=>nl ?_))
   refine se ?_
   refine cm s rfl hm (fun hb hm=>?_) (fun hb hm=>?_)
   ·refine wpIn_skip ?_
    refine se ?_
    refine wpIn_block ?_
    obtain ⟨x6,hx6,hm⟩:=bs hm
    refine se (rg (sq s (ix (t rfl) (t rfl) hx6) rfl fun a w s=>sq s (ld (t rfl)) rfl fun a w s=>sqr 1012 s (alr (cs:=[(.int .i64 (0:Int)),(.int .i64 (0:Int)),(.slice none 0 0)]) (z:=.agg #[(.int .i64 (0:Int)),(.int .i64 (0:Int)),(.slice none 0 0)]) (by kernel_rfl) rfl rfl) rfl rfl fun b7 a w s=>swd (K:=1012) s (t rfl) rfl (t rfl) rfl fun w s=>nl ?_))
    obtain ⟨x8,hx8,hm⟩:=bs hm
    refine rg (sq s (lrp (K:=1010) (t rfl) rfl rfl (by kernel_rfl)) rfl fun a w s=>sq s (lm (K:=1012) (t rfl) rfl) rfl fun a w s=>cgv [1000,1001,1002,1003,1004,1005,1006,1007,1008,1009,1010] [1000,1001,1002,1003,1004,1005,1006,1007,1008,1009,1010] hM s (t rfl) rfl (oc (t rfl) on) vn (vq (vq vn)) (ih n0 n1 n2 n3 n4 n5 n6 n7 n8 n9 n10 _ _ _ _ _ _ _ _ _ _ hx8) (kc rfl (kc rfl (kc rfl (kc rfl (kc rfl (kc rfl (kc rfl (kc rfl (kc rfl (kc rfl (kc rfl kn))))))))))) rfl (fun _=>rfl) rfl rfl rfl fun y9 a w s=>nl ?_)
    refine rg (sq s (ad (t rfl) ci) rfl fun a w s=>sq s (mv (t rfl)) rfl fun a w s=>nl ?_)
    exact ⟨_,hm,s.pick [0,1,2,3,14,15,16,1000,1001,1002,1003,1004,1005,1006,1007,1008,1009,1010]⟩
   ·refine wpIn_exit ?_
    obtain rfl:=si hm
    exact s.pick [0,1,2,3,14,15,16,1000,1001,1002,1003,1004,1005,1006,1007,1008,1009,1010]
  ·replace hm:=hko5
   obtain rfl:=si hm
   exact rze [1000,1001,1002,1003,1004,1005,1006,1007,1008,1009,1010] () hM hD s rfl rv0 (kc rfl (kc rfl (kc rfl (kc rfl (kc rfl (kc rfl (kc rfl (kc rfl (kc rfl (kc rfl (kc rfl kn))))))))))) rfl
def m257 (f:Nat) (v0:Expr) (v1:Int) (v2:List ByteArray) (v3:List Signal) (v4:List Int) (v5:List Int) (v6:List (ByteArray×Int)) (v7:Bool) (v8:Int):Option (Bool):=(m286 f v0 v1 v2 v3 v4 v5 v6 v7 v8).bind fun x3=>some x3
set_option maxRecDepth 100000 in
theorem s257 (f:Nat) (n0:Nat) (n1:Nat) (n2:Value) (n3:Nat) (n4:Value) (n5:Value) (n6:Value) (n7:Value) (n8:Nat) (v0:Expr) (v1:Int) (v2:List ByteArray) (v3:List Signal) (v4:List Int) (v5:List Int) (v6:List (ByteArray×Int)) (v7:Bool) (v8:Int) (r:Bool) (hm:m257 f v0 v1 v2 v3 v4 v5 v6 v7 v8=some r):Cg Tryz.prog 257 [Va (v0),Qv (fv 258 [] [(pb n0 0),(pb n1 0),n2])] [Mr n0 [(pb n3 0)],Mr n3 [(.int .i64 v1),n4,n5,n6,n7,(.map (some n8)),(fv 220 [(pb n3 0)] []),(fv 221 [(pb n3 0)] []),(fv 222 [(pb n3 0)] [])],At n4 (Va (v2)),At n5 (Va (v3)),At n6 (Va (v4)),At n7 (Va (v5)),Om n8 (v6:List (ByteArray×Int)),Mg n1 (v7),At n2 (Pt (v8))] (Rz (fun x:Unit=>Dd) (fun x=>[Mr n0 [(pb n3 0)],Mr n3 [(.int .i64 v1),n4,n5,n6,n7,(.map (some n8)),(fv 220 [(pb n3 0)] []),(fv 221 [(pb n3 0)] []),(fv 222 [(pb n3 0)] [])],At n4 (Va (v2)),At n5 (Va (v3)),At n6 (Va (v4)),At n7 (Va (v5)),Om n8 (v6:List (ByteArray×Int)),Mg n1 (r),At n2 (Pt (v8))])):=by
 unfold m257 at hm
 refine eng Tryz.func257 (by kernel_rfl) rfl Tryz.ntmps257 rfl rfl fun M w_0 a hM hD s=>?_
 refine se (rg (sq s (bx (t rfl)) rfl fun a w s=>sqr 1009 s (bxr (t rfl) (ocr rfl)) rfl rfl fun b1 a w s=>nl ?_))
 refine se (rg (sqr 1010 s (alr (cs:=[.nilFunc]) (z:=.nilFunc) (by kernel_rfl) rfl rfl) rfl rfl fun b2 a w s=>nl ?_))
 refine se (rg (sq s (mkf rfl rfl qn (qc (t rfl) (qc (t rfl) qn))) rfl fun a w s=>srq (K:=1010) (cs':=[(fv 286 [] [(pb b1 0),(pb b2 0)])]) s (t rfl) rfl (t rfl) (by kernel_rfl) (ocr rfl) rfl rfl fun w s=>nl ?_))
 obtain ⟨x3,hx3,hm⟩:=bs hm
 refine rg (sq s (lrp (K:=1010) (t rfl) rfl rfl (by kernel_rfl)) rfl fun a w s=>sq s (ld (t rfl)) rfl fun a w s=>cgv [1009,1000,1001,1002,1003,1004,1005,1006,1007,1008,1010] [1009,1000,1001,1002,1003,1004,1005,1006,1007,1008,1010] hM s (t rfl) rfl (oc (t rfl) on) vn (vq (vq vn)) (s286 f b1 b2 n0 n1 n2 n3 n4 n5 n6 n7 n8 _ _ _ _ _ _ _ _ _ _ hx3) (kc rfl (kc rfl (kc rfl (kc rfl (kc rfl (kc rfl (kc rfl (kc rfl (kc rfl (kc rfl (kc rfl kn))))))))))) rfl (fun _=>rfl) rfl rfl rfl fun y4 a w s=>nl ?_)
 obtain rfl:=si hm
 exact rze [1000,1001,1002,1003,1004,1005,1006,1007,1008] () hM hD s rfl rv0 (kc rfl (kc rfl (kc rfl (kc rfl (kc rfl (kc rfl (kc rfl (kc rfl (kc rfl kn))))))))) rfl
def m220 (f:Nat) (v0:Int) (v1:Int) (v2:List ByteArray) (v3:List Signal) (v4:List Int) (v5:List Int) (v6:List (ByteArray×Int)):Option (Int):=(idx v3 v0).bind fun x2=>(m257 f ((x2).On) v1 v2 v3 v4 v5 v6 false v0).bind fun x6=>(bif x6 then some (9:Int) else (m259 f ((x2).Off)).bind fun x8=>(bif (((!x8) || (x2).Init) || ((x2).Delay != (0:Int))) then some (3:Int) else some (0:Int)))
set_option maxRecDepth 100000 in
theorem s220 (f:Nat) (n0:Nat) (n1:Value) (n2:Value) (n3:Value) (n4:Value) (n5:Nat) (v0:Int) (v1:Int) (v2:List ByteArray) (v3:List Signal) (v4:List Int) (v5:List Int) (v6:List (ByteArray×Int)) (r:Int) (hm:m220 f v0 v1 v2 v3 v4 v5 v6=some r):Cg Tryz.prog 220 [Qv (pb n0 0),Va (v0)] [Mr n0 [(.int .i64 v1),n1,n2,n3,n4,(.map (some n5)),(fv 220 [(pb n0 0)] []),(fv 221 [(pb n0 0)] []),(fv 222 [(pb n0 0)] [])],At n1 (Va (v2)),At n2 (Va (v3)),At n3 (Va (v4)),At n4 (Va (v5)),Om n5 (v6:List (ByteArray×Int))] (Rz (fun x:Unit=>Va (r)) (fun x=>[Mr n0 [(.int .i64 v1),n1,n2,n3,n4,(.map (some n5)),(fv 220 [(pb n0 0)] []),(fv 221 [(pb n0 0)] []),(fv 222 [(pb n0 0)] [])],At n1 (Va (v2)),At n2 (Va (v3)),At n3 (Va (v4)),At n4 (Va (v5)),Om n5 (v6:List (ByteArray×Int))])):=by
 unfold m220 at hm
 refine eng Tryz.func220 (by kernel_rfl) rfl Tryz.ntmps220 rfl rfl fun M w_0 a hM hD s=>?_
 refine se (rg (sqr 1006 s (bxr (t rfl) (ocr rfl)) rfl rfl fun b1 a w s=>sq s (bx (t rfl)) rfl fun a w s=>sq s (sa ci) rfl fun a w s=>nl ?_))
 obtain ⟨x2,hx2,hm⟩:=bs hm
 refine se (flow s (m:=10) (.cons (.cons (.cons (.cons (.cons (.cons (.cons (.cons (.cons (.cons .nil rfl (lrp (K:=1006) (t rfl) rfl rfl (by kernel_rfl))) rfl (nkq (t rfl))) rfl (fm_ (off:=0) (m:=4) (q:=0) (t rfl) (by kernel_rfl) rfl)) rfl (fm_ (off:=2) (m:=0) (q:=2) (t rfl) (by kernel_rfl) rfl)) rfl (lrc (K:=1000) (List Signal) (t rfl) rfl rfl rfl rfl)) rfl (ld (t rfl))) rfl (ix (ta (k:=1002) (t rfl) rfl) (t rfl) hx2)) rfl (ld (t rfl))) rfl (alr (cs:=[(.string ByteArray.empty),(.int .i64 (0:Int)),(.int .i64 (0:Int)),(.int .i64 (0:Int)),(.slice none 0 0),(.int .i64 (0:Int)),(.int .i64 (0:Int)),(.slice none 0 0),(.int .i64 (0:Int)),(.bool false)]) (z:=.agg #[(.string ByteArray.empty),(.int .i64 (0:Int)),(.int .i64 (0:Int)),(.int .i64 (0:Int)),(.slice none 0 0),(.int .i64 (0:Int)),(.int .i64 (0:Int)),(.slice none 0 0),(.int .i64 (0:Int)),(.bool false)]) (by kernel_rfl) rfl rfl)) rfl (al (z:=false))) (by kernel_rfl) rfl rfl fun a w s=>opr (d:=5) 1007 s rfl rfl fun b3 s=>opb (d:=6) 1008 s rfl rfl fun b4 s=>swd (K:=1007) s (t rfl) rfl (t rfl) rfl fun w s=>sw (K:=1008) s (t rfl) rfl cb rfl fun w s=>nl ?_)
 obtain ⟨x6,hx6,hm⟩:=bs hm
 refine se (rg (sq s (fm_ (off:=2) (m:=2) (q:=2) (t rfl) (by kernel_rfl) rfl) rfl fun a w s=>sq s (lf (K:=1007) (f:=Signal.On) (t rfl) rfl) rfl fun a w s=>nmk (d:=3) 1009 s rfl rfl fun c5 s=>sq s (mkf rfl rfl qn (qc (t rfl) (qc (t rfl) (qc (t rfl) qn)))) rfl fun a w s=>cgv [1006,1000,1001,1002,1003,1004,1005,1008,1009] [1006,1000,1001,1002,1003,1004,1005,1008,1009] hM s qf rfl (oc (t rfl) (oc (t rfl) on)) vn vn (s257 f b1 b4 c5 n0 n1 n2 n3 n4 n5 _ _ _ _ _ _ _ _ _ _ hx6) (kc rfl (kc rfl (kc rfl (kc rfl (kc rfl (kc rfl (kc rfl (kc rfl (kc rfl kn))))))))) rfl (fun _=>rfl) rfl rfl rfl fun y7 a w s=>nl ?_))
 refine se ?_
 refine wpIn_block ?_
 refine se (rg (sq s (lm (K:=1008) (t rfl) rfl) rfl fun a w s=>sq s (sa (t rfl)) rfl fun a w s=>nl ?_))
 refine cm s rfl hm (fun hb hm=>?_) (fun hb hm=>?_)
 ·refine se (rg (sq s (sa ci) rfl fun a w s=>nl ?_))
  obtain rfl:=si hm
  refine wpIn_ret ?_
  exact rz [1000,1001,1002,1003,1004,1005] () hM hD s rfl (rv1 (rt rfl)) (kc rfl (kc rfl (kc rfl (kc rfl (kc rfl (kc rfl kn)))))) rfl
 ·obtain ⟨x8,hx8,hm⟩:=bs hm
  refine se (rg (sq s (fm_ (off:=5) (m:=2) (q:=5) (t rfl) (by kernel_rfl) rfl) rfl fun a w s=>sq s (lf (K:=1007) (f:=Signal.Off) (t rfl) rfl) rfl fun a w s=>sq s (cc rfl (oc (t rfl) on) (s259 f _ _ hx8)) rfl fun a w s=>sq s (nt (t rfl)) rfl fun a w s=>sq s (mv (t rfl)) rfl fun a w s=>sg s rfl rfl (fun hb=>(fm_ (off:=9) (m:=0) (q:=9) (t rfl) (by kernel_rfl) rfl)) rfl fun a w s=>sg s rfl rfl (fun hb=>(lf (K:=1007) (f:=Signal.Init) (tg rfl hb) rfl)) rfl fun a w s=>sq s (poP (t rfl) rfl) rfl fun a w s=>sq s (mv (t rfl)) rfl fun a w s=>sg s rfl rfl (fun hb=>(fm_ (off:=8) (m:=0) (q:=8) (t rfl) (by kernel_rfl) rfl)) rfl fun a w s=>sg s rfl rfl (fun hb=>(lf (K:=1007) (f:=Signal.Delay) (tg rfl hb) rfl)) rfl fun a w s=>sg s rfl rfl (fun hb=>(ne (tg rfl hb) ci)) rfl fun a w s=>sq s (poP (t rfl) rfl) rfl fun a w s=>sq s (sa (t rfl)) rfl fun a w s=>nl ?_))
  refine cm s rfl hm (fun hb hm=>?_) (fun hb hm=>?_)
  ·refine se (rg (sq s (sa ci) rfl fun a w s=>nl ?_))
   obtain rfl:=si hm
   refine wpIn_ret ?_
   exact rz [1000,1001,1002,1003,1004,1005] () hM hD s rfl (rv1 (rt rfl)) (kc rfl (kc rfl (kc rfl (kc rfl (kc rfl (kc rfl kn)))))) rfl
  ·refine wpIn_skip ?_
   refine se (rg (sq s (sa ci) rfl fun a w s=>nl ?_))
   obtain rfl:=si hm
   refine wpIn_ret ?_
   exact rz [1000,1001,1002,1003,1004,1005] () hM hD s rfl (rv1 (rt rfl)) (kc rfl (kc rfl (kc rfl (kc rfl (kc rfl (kc rfl kn)))))) rfl
def m221 (f:Nat) (v0:Int) (v1:Int) (v2:List ByteArray) (v3:List Signal) (v4:List Int) (v5:List Int) (v6:List (ByteArray×Int)):Option (Int):=(idx v3 v0).bind fun x1=>(m227 f (⟨v1,v2,v3,v4,v5⟩:Control)).bind fun x2=>(m260 f ((x1).Off) x2).bind fun x3=>(bif (x3 != (0:Int)) then some x3 else (idx v3 v0).bind fun x4=>(bif ((x4).Delay != (0:Int)) then some (3:Int) else some (0:Int)))
set_option maxRecDepth 100000 in
theorem s221 (f:Nat) (n0:Nat) (n1:Value) (n2:Value) (n3:Value) (n4:Value) (n5:Nat) (v0:Int) (v1:Int) (v2:List ByteArray) (v3:List Signal) (v4:List Int) (v5:List Int) (v6:List (ByteArray×Int)) (r:Int) (hm:m221 f v0 v1 v2 v3 v4 v5 v6=some r):Cg Tryz.prog 221 [Qv (pb n0 0),Va (v0)] [Mr n0 [(.int .i64 v1),n1,n2,n3,n4,(.map (some n5)),(fv 220 [(pb n0 0)] []),(fv 221 [(pb n0 0)] []),(fv 222 [(pb n0 0)] [])],At n1 (Va (v2)),At n2 (Va (v3)),At n3 (Va (v4)),At n4 (Va (v5)),Om n5 (v6:List (ByteArray×Int))] (Rz (fun x:Unit=>Va (r)) (fun x=>[Mr n0 [(.int .i64 v1),n1,n2,n3,n4,(.map (some n5)),(fv 220 [(pb n0 0)] []),(fv 221 [(pb n0 0)] []),(fv 222 [(pb n0 0)] [])],At n1 (Va (v2)),At n2 (Va (v3)),At n3 (Va (v4)),At n4 (Va (v5)),Om n5 (v6:List (ByteArray×Int))])):=by
 unfold m221 at hm
 refine eng Tryz.func221 (by kernel_rfl) rfl Tryz.ntmps221 rfl rfl fun M w_0 a hM hD s=>?_
 refine se (rg (sq s (sa ci) rfl fun a w s=>nl ?_))
 refine se ?_
 obtain ⟨x1,hx1,hm⟩:=bs hm
 obtain ⟨x2,hx2,hm⟩:=bs hm
 obtain ⟨x3,hx3,hm⟩:=bs hm
 refine se (flow s (m:=15) (.cons (.cons (.cons (.cons (.cons (.cons (.cons (.cons (.cons (.cons (.cons (.cons (.cons (.cons (.cons .nil rfl (mvq (t rfl))) rfl (nkq (t rfl))) rfl (fm_ (off:=0) (m:=4) (q:=0) (t rfl) (by kernel_rfl) rfl)) rfl (fm_ (off:=2) (m:=0) (q:=2) (t rfl) (by kernel_rfl) rfl)) rfl (lrc (K:=1000) (List Signal) (t rfl) rfl rfl rfl rfl)) rfl (mv (t rfl))) rfl (ix (ta (k:=1002) (t rfl) rfl) (t rfl) hx1)) rfl (fa (f:=Signal.Off) (t rfl))) rfl (ld (t rfl))) rfl (mvq (t rfl))) rfl (nkq (t rfl))) rfl (fm_ (off:=0) (m:=4) (q:=0) (t rfl) (by kernel_rfl) rfl)) rfl (lra (K:=1000) (ds:=[(.int .i64 v1),n1,n2,n3,n4]) Control (t rfl) rfl rfl rfl rfl)) rfl (cc rfl (oc (qad (y:=(⟨v1,v2,v3,v4,v5⟩:Control)) (t rfl) (rpS25 (l:=([(.int .i64 v1)],[n1],[n2],[n3],[n4])) rpi (rpz (k:=1001) rfl) (rpz (k:=1002) rfl) (rpz (k:=1003) rfl) (rpz (k:=1004) rfl)) rfl) on) (s227 f _ _ hx2))) rfl (cc rfl (oc (t rfl) (oc (t rfl) on)) (s260 f _ _ _ hx3))) (by kernel_rfl) rfl rfl fun a w s=>sq s (sa (t rfl)) rfl fun a w s=>nl ?_)
 refine se (rg (sq s (mv (t rfl)) rfl fun a w s=>sq s (ne (t rfl) ci) rfl fun a w s=>nl ?_))
 refine cm s rfl hm (fun hb hm=>?_) (fun hb hm=>?_)
 ·refine se (rg (sq s (mv (t rfl)) rfl fun a w s=>sq s (sa (t rfl)) rfl fun a w s=>nl ?_))
  obtain rfl:=si hm
  refine wpIn_ret ?_
  exact rz [1000,1001,1002,1003,1004,1005] () hM hD s rfl (rv1 (rt rfl)) (kc rfl (kc rfl (kc rfl (kc rfl (kc rfl (kc rfl kn)))))) rfl
 ·refine wpIn_skip ?_
  refine se ?_
  obtain ⟨x4,hx4,hm⟩:=bs hm
  refine se (rg (sq s (mvq (t rfl)) rfl fun a w s=>sq s (nkq (t rfl)) rfl fun a w s=>sq s (fm_ (off:=0) (m:=4) (q:=0) (t rfl) (by kernel_rfl) rfl) rfl fun a w s=>sq s (fm_ (off:=2) (m:=0) (q:=2) (t rfl) (by kernel_rfl) rfl) rfl fun a w s=>sq s (lrc (K:=1000) (List Signal) (t rfl) rfl rfl rfl rfl) rfl fun a w s=>sq s (mv (t rfl)) rfl fun a w s=>sq s (ix (ta (k:=1002) (t rfl) rfl) (t rfl) hx4) rfl fun a w s=>sq s (fa (f:=Signal.Delay) (t rfl)) rfl fun a w s=>sq s (ld (t rfl)) rfl fun a w s=>sq s (ne (t rfl) ci) rfl fun a w s=>nl ?_))
  refine cm s rfl hm (fun hb hm=>?_) (fun hb hm=>?_)
  ·refine se (rg (sq s (sa ci) rfl fun a w s=>nl ?_))
   obtain rfl:=si hm
   refine wpIn_ret ?_
   exact rz [1000,1001,1002,1003,1004,1005] () hM hD s rfl (rv1 (rt rfl)) (kc rfl (kc rfl (kc rfl (kc rfl (kc rfl (kc rfl kn)))))) rfl
  ·refine wpIn_skip ?_
   refine se (rg (sq s (sa ci) rfl fun a w s=>nl ?_))
   obtain rfl:=si hm
   refine wpIn_ret ?_
   exact rz [1000,1001,1002,1003,1004,1005] () hM hD s rfl (rv1 (rt rfl)) (kc rfl (kc rfl (kc rfl (kc rfl (kc rfl (kc rfl kn)))))) rfl
def m222 (f:Nat) (v0:Int) (v1:Int) (v2:List ByteArray) (v3:List Signal) (v4:List Int) (v5:List Int) (v6:List (ByteArray×Int)):Option (Int):=(idx v3 v0).bind fun x1=>(bif ((decide ((x1).Delay < (1:Int))) || (decide ((x1).Delay > (1000000:Int)))) then some (2:Int) else (m259 f ((x1).Off)).bind fun x3=>(bif ((!x3) || (x1).Init) then some (3:Int) else some (0:Int)))
set_option maxRecDepth 100000 in
theorem s222 (f:Nat) (n0:Nat) (n1:Value) (n2:Value) (n3:Value) (n4:Value) (n5:Nat) (v0:Int) (v1:Int) (v2:List ByteArray) (v3:List Signal) (v4:List Int) (v5:List Int) (v6:List (ByteArray×Int)) (r:Int) (hm:m222 f v0 v1 v2 v3 v4 v5 v6=some r):Cg Tryz.prog 222 [Qv (pb n0 0),Va (v0)] [Mr n0 [(.int .i64 v1),n1,n2,n3,n4,(.map (some n5)),(fv 220 [(pb n0 0)] []),(fv 221 [(pb n0 0)] []),(fv 222 [(pb n0 0)] [])],At n1 (Va (v2)),At n2 (Va (v3)),At n3 (Va (v4)),At n4 (Va (v5)),Om n5 (v6:List (ByteArray×Int))] (Rz (fun x:Unit=>Va (r)) (fun x=>[Mr n0 [(.int .i64 v1),n1,n2,n3,n4,(.map (some n5)),(fv 220 [(pb n0 0)] []),(fv 221 [(pb n0 0)] []),(fv 222 [(pb n0 0)] [])],At n1 (Va (v2)),At n2 (Va (v3)),At n3 (Va (v4)),At n4 (Va (v5)),Om n5 (v6:List (ByteArray×Int))])):=by
 unfold m222 at hm
 refine eng Tryz.func222 (by kernel_rfl) rfl Tryz.ntmps222 rfl rfl fun M w_0 a hM hD s=>?_
 refine se (rg (sq s (sa ci) rfl fun a w s=>nl ?_))
 refine se ?_
 obtain ⟨x1,hx1,hm⟩:=bs hm
 refine se (rg (sq s (mvq (t rfl)) rfl fun a w s=>sq s (nkq (t rfl)) rfl fun a w s=>sq s (fm_ (off:=0) (m:=4) (q:=0) (t rfl) (by kernel_rfl) rfl) rfl fun a w s=>sq s (fm_ (off:=2) (m:=0) (q:=2) (t rfl) (by kernel_rfl) rfl) rfl fun a w s=>sq s (lrc (K:=1000) (List Signal) (t rfl) rfl rfl rfl rfl) rfl fun a w s=>sq s (mv (t rfl)) rfl fun a w s=>sq s (ix (ta (k:=1002) (t rfl) rfl) (t rfl) hx1) rfl fun a w s=>sq s (ld (t rfl)) rfl fun a w s=>sqr 1006 s (alr (cs:=[(.string ByteArray.empty),(.int .i64 (0:Int)),(.int .i64 (0:Int)),(.int .i64 (0:Int)),(.slice none 0 0),(.int .i64 (0:Int)),(.int .i64 (0:Int)),(.slice none 0 0),(.int .i64 (0:Int)),(.bool false)]) (z:=.agg #[(.string ByteArray.empty),(.int .i64 (0:Int)),(.int .i64 (0:Int)),(.int .i64 (0:Int)),(.slice none 0 0),(.int .i64 (0:Int)),(.int .i64 (0:Int)),(.slice none 0 0),(.int .i64 (0:Int)),(.bool false)]) (by kernel_rfl) rfl rfl) rfl rfl fun b2 a w s=>swd (K:=1006) s (t rfl) rfl (t rfl) rfl fun w s=>nl ?_))
 refine wpIn_block ?_
 refine se (rg (sq s (fm_ (off:=8) (m:=0) (q:=8) (t rfl) (by kernel_rfl) rfl) rfl fun a w s=>sq s (lf (K:=1006) (f:=Signal.Delay) (t rfl) rfl) rfl fun a w s=>sq s (lt (t rfl) ci) rfl fun a w s=>sq s (mv (t rfl)) rfl fun a w s=>sg s rfl rfl (fun hb=>(fm_ (off:=8) (m:=0) (q:=8) (t rfl) (by kernel_rfl) rfl)) rfl fun a w s=>sg s rfl rfl (fun hb=>(lf (K:=1006) (f:=Signal.Delay) (tg rfl hb) rfl)) rfl fun a w s=>sg s rfl rfl (fun hb=>(gt (tg rfl hb) ci)) rfl fun a w s=>sq s (poP (t rfl) rfl) rfl fun a w s=>sq s (sa (t rfl)) rfl fun a w s=>nl ?_))
 refine cm s rfl hm (fun hb hm=>?_) (fun hb hm=>?_)
 ·refine se (rg (sq s (sa ci) rfl fun a w s=>nl ?_))
  obtain rfl:=si hm
  refine wpIn_ret ?_
  exact rz [1000,1001,1002,1003,1004,1005] () hM hD s rfl (rv1 (rt rfl)) (kc rfl (kc rfl (kc rfl (kc rfl (kc rfl (kc rfl kn)))))) rfl
 ·obtain ⟨x3,hx3,hm⟩:=bs hm
  refine se (rg (sq s (fm_ (off:=5) (m:=2) (q:=5) (t rfl) (by kernel_rfl) rfl) rfl fun a w s=>sq s (lf (K:=1006) (f:=Signal.Off) (t rfl) rfl) rfl fun a w s=>sq s (cc rfl (oc (t rfl) on) (s259 f _ _ hx3)) rfl fun a w s=>sq s (nt (t rfl)) rfl fun a w s=>sq s (mv (t rfl)) rfl fun a w s=>sg s rfl rfl (fun hb=>(fm_ (off:=9) (m:=0) (q:=9) (t rfl) (by kernel_rfl) rfl)) rfl fun a w s=>sg s rfl rfl (fun hb=>(lf (K:=1006) (f:=Signal.Init) (tg rfl hb) rfl)) rfl fun a w s=>sq s (poP (t rfl) rfl) rfl fun a w s=>sq s (sa (t rfl)) rfl fun a w s=>nl ?_))
  refine cm s rfl hm (fun hb hm=>?_) (fun hb hm=>?_)
  ·refine se (rg (sq s (sa ci) rfl fun a w s=>nl ?_))
   obtain rfl:=si hm
   refine wpIn_ret ?_
   exact rz [1000,1001,1002,1003,1004,1005] () hM hD s rfl (rv1 (rt rfl)) (kc rfl (kc rfl (kc rfl (kc rfl (kc rfl (kc rfl kn)))))) rfl
  ·refine wpIn_skip ?_
   refine se (rg (sq s (sa ci) rfl fun a w s=>nl ?_))
   obtain rfl:=si hm
   refine wpIn_ret ?_
   exact rz [1000,1001,1002,1003,1004,1005] () hM hD s rfl (rv1 (rt rfl)) (kc rfl (kc rfl (kc rfl (kc rfl (kc rfl (kc rfl kn)))))) rfl
def m225 (f:Nat) (v0:Int) (v1:Int) (v2:List ByteArray) (v3:List Signal) (v4:List Int) (v5:List Int) (v6:List (ByteArray×Int)):Option (Int×(List (ByteArray×Int))):=(idx v3 v0).bind fun x1=>(m224 f ((x1).Name) v1 v2 v3 v4 v5 v6).bind fun x3=>(bif (x3.1 != (0:Int)) then some (x3.1,x3.2) else (bif ((decide ((x1).Kind < (0:Int))) || (decide ((x1).Kind≥(3:Int)))) then some ((1:Int),x3.2) else (m227 f (⟨v1,v2,v3,v4,v5⟩:Control)).bind fun x5=>(m260 f ((x1).On) x5).bind fun x6=>(bif (x6 != (0:Int)) then some (x6,x3.2) else (idx (List.range 3) ((x1).Kind)).bind fun x7=>((bif x7 == 0 then m220 f v0 v1 v2 v3 v4 v5 x3.2 else bif x7 == 1 then m221 f v0 v1 v2 v3 v4 v5 x3.2 else bif x7 == 2 then m222 f v0 v1 v2 v3 v4 v5 x3.2 else none)).bind fun x10=>some (x10,x3.2))))
set_option maxRecDepth 100000 in
theorem s225 (f:Nat) (n0:Nat) (n1:Value) (n2:Value) (n3:Value) (n4:Value) (n5:Nat) (v0:Int) (v1:Int) (v2:List ByteArray) (v3:List Signal) (v4:List Int) (v5:List Int) (v6:List (ByteArray×Int)) (r:Int×(List (ByteArray×Int))) (hm:m225 f v0 v1 v2 v3 v4 v5 v6=some r):Cg Tryz.prog 225 [Qv (pb n0 0),Va (v0)] [Mr n0 [(.int .i64 v1),n1,n2,n3,n4,(.map (some n5)),(fv 220 [(pb n0 0)] []),(fv 221 [(pb n0 0)] []),(fv 222 [(pb n0 0)] [])],At n1 (Va (v2)),At n2 (Va (v3)),At n3 (Va (v4)),At n4 (Va (v5)),Om n5 (v6:List (ByteArray×Int))] (Rz (fun x:Unit=>Va (r.1)) (fun x=>[Mr n0 [(.int .i64 v1),n1,n2,n3,n4,(.map (some n5)),(fv 220 [(pb n0 0)] []),(fv 221 [(pb n0 0)] []),(fv 222 [(pb n0 0)] [])],At n1 (Va (v2)),At n2 (Va (v3)),At n3 (Va (v4)),At n4 (Va (v5)),Om n5 (r.2:List (ByteArray×Int))])):=by
 unfold m225 at hm
 refine eng Tryz.func225 (by kernel_rfl) rfl Tryz.ntmps225 rfl rfl fun M w_0 a hM hD s=>?_
 refine se (rg (sq s (sa ci) rfl fun a w s=>nl ?_))
 obtain ⟨x1,hx1,hm⟩:=bs hm
 refine se (rg (sq s (mvq (t rfl)) rfl fun a w s=>sq s (nkq (t rfl)) rfl fun a w s=>sq s (fm_ (off:=0) (m:=4) (q:=0) (t rfl) (by kernel_rfl) rfl) rfl fun a w s=>sq s (fm_ (off:=2) (m:=0) (q:=2) (t rfl) (by kernel_rfl) rfl) rfl fun a w s=>sq s (lrc (K:=1000) (List Signal) (t rfl) rfl rfl rfl rfl) rfl fun a w s=>sq s (mv (t rfl)) rfl fun a w s=>sq s (ix (ta (k:=1002) (t rfl) rfl) (t rfl) hx1) rfl fun a w s=>sq s (ld (t rfl)) rfl fun a w s=>sqr 1006 s (alr (cs:=[(.string ByteArray.empty),(.int .i64 (0:Int)),(.int .i64 (0:Int)),(.int .i64 (0:Int)),(.slice none 0 0),(.int .i64 (0:Int)),(.int .i64 (0:Int)),(.slice none 0 0),(.int .i64 (0:Int)),(.bool false)]) (z:=.agg #[(.string ByteArray.empty),(.int .i64 (0:Int)),(.int .i64 (0:Int)),(.int .i64 (0:Int)),(.slice none 0 0),(.int .i64 (0:Int)),(.int .i64 (0:Int)),(.slice none 0 0),(.int .i64 (0:Int)),(.bool false)]) (by kernel_rfl) rfl rfl) rfl rfl fun b2 a w s=>swd (K:=1006) s (t rfl) rfl (t rfl) rfl fun w s=>nl ?_))
 refine se ?_
 obtain ⟨x3,hx3,hm⟩:=bs hm
 refine se (rg (sq s (mvq (t rfl)) rfl fun a w s=>sq s (fm_ (off:=0) (m:=0) (q:=0) (t rfl) (by kernel_rfl) rfl) rfl fun a w s=>sq s (lf (K:=1006) (f:=Signal.Name) (t rfl) rfl) rfl fun a w s=>cgv [1000,1001,1002,1003,1004,1005] [1000,1001,1002,1003,1004,1005] hM s qf rfl (oc (t rfl) (oc (t rfl) on)) vn vn (s224 f n0 n1 n2 n3 n4 n5 _ _ _ _ _ _ _ _ hx3) (kc rfl (kc rfl (kc rfl (kc rfl (kc rfl (kc rfl kn)))))) rfl (fun _=>rfl) rfl rfl rfl fun y4 a w s=>sq s (sa (t rfl)) rfl fun a w s=>nl ?_))
 refine se (rg (sq s (mv (t rfl)) rfl fun a w s=>sq s (ne (t rfl) ci) rfl fun a w s=>nl ?_))
 refine cm s rfl hm (fun hb hm=>?_) (fun hb hm=>?_)
 ·refine se (rg (sq s (mv (t rfl)) rfl fun a w s=>sq s (sa (t rfl)) rfl fun a w s=>nl ?_))
  obtain rfl:=si hm
  refine wpIn_ret ?_
  exact rz [1000,1001,1002,1003,1004,1005] () hM hD s rfl (rv1 (rt rfl)) (kc rfl (kc rfl (kc rfl (kc rfl (kc rfl (kc rfl kn)))))) rfl
 ·refine wpIn_skip ?_
  refine se ?_
  refine se (rg (sq s (fm_ (off:=1) (m:=0) (q:=1) (t rfl) (by kernel_rfl) rfl) rfl fun a w s=>sq s (lf (K:=1006) (f:=Signal.Kind) (t rfl) rfl) rfl fun a w s=>sq s (lt (t rfl) ci) rfl fun a w s=>sq s (mv (t rfl)) rfl fun a w s=>sg s rfl rfl (fun hb=>(fm_ (off:=1) (m:=0) (q:=1) (t rfl) (by kernel_rfl) rfl)) rfl fun a w s=>sg s rfl rfl (fun hb=>(lf (K:=1006) (f:=Signal.Kind) (tg rfl hb) rfl)) rfl fun a w s=>sg s rfl rfl (fun hb=>(ge (tg rfl hb) ci)) rfl fun a w s=>sq s (poP (t rfl) rfl) rfl fun a w s=>nl ?_))
  refine cm s rfl hm (fun hb hm=>?_) (fun hb hm=>?_)
  ·refine se (rg (sq s (sa ci) rfl fun a w s=>nl ?_))
   obtain rfl:=si hm
   refine wpIn_ret ?_
   exact rz [1000,1001,1002,1003,1004,1005] () hM hD s rfl (rv1 (rt rfl)) (kc rfl (kc rfl (kc rfl (kc rfl (kc rfl (kc rfl kn)))))) rfl
  ·refine wpIn_skip ?_
   refine se ?_
   obtain ⟨x5,hx5,hm⟩:=bs hm
   obtain ⟨x6,hx6,hm⟩:=bs hm
   refine se (flow s (m:=8) (.cons (.cons (.cons (.cons (.cons (.cons (.cons (.cons .nil rfl (fm_ (off:=2) (m:=2) (q:=2) (t rfl) (by kernel_rfl) rfl)) rfl (lf (K:=1006) (f:=Signal.On) (t rfl) rfl)) rfl (mvq (t rfl))) rfl (nkq (t rfl))) rfl (fm_ (off:=0) (m:=4) (q:=0) (t rfl) (by kernel_rfl) rfl)) rfl (lra (K:=1000) (ds:=[(.int .i64 v1),n1,n2,n3,n4]) Control (t rfl) rfl rfl rfl rfl)) rfl (cc rfl (oc (qad (y:=(⟨v1,v2,v3,v4,v5⟩:Control)) (t rfl) (rpS25 (l:=([(.int .i64 v1)],[n1],[n2],[n3],[n4])) rpi (rpz (k:=1001) rfl) (rpz (k:=1002) rfl) (rpz (k:=1003) rfl) (rpz (k:=1004) rfl)) rfl) on) (s227 f _ _ hx5))) rfl (cc rfl (oc (t rfl) (oc (t rfl) on)) (s260 f _ _ _ hx6))) (by kernel_rfl) rfl rfl fun a w s=>sq s (sa (t rfl)) rfl fun a w s=>nl ?_)
   refine se (rg (sq s (mv (t rfl)) rfl fun a w s=>sq s (ne (t rfl) ci) rfl fun a w s=>nl ?_))
   refine cm s rfl hm (fun hb hm=>?_) (fun hb hm=>?_)
   ·refine se (rg (sq s (mv (t rfl)) rfl fun a w s=>sq s (sa (t rfl)) rfl fun a w s=>nl ?_))
    obtain rfl:=si hm
    refine wpIn_ret ?_
    exact rz [1000,1001,1002,1003,1004,1005] () hM hD s rfl (rv1 (rt rfl)) (kc rfl (kc rfl (kc rfl (kc rfl (kc rfl (kc rfl kn)))))) rfl
   ·refine wpIn_skip ?_
    obtain ⟨x7,hx7,hm⟩:=bs hm
    obtain ⟨x10,hx10,hm⟩:=bs hm
    refine se (flow s (m:=8) (.cons (.cons (.cons (.cons (.cons (.cons (.cons (.cons .nil rfl (mvq (t rfl))) rfl (fm_ (off:=1) (m:=0) (q:=1) (t rfl) (by kernel_rfl) rfl)) rfl (lf (K:=1006) (f:=Signal.Kind) (t rfl) rfl)) rfl (nkq (t rfl))) rfl (fm_ (off:=6) (m:=2) (q:=6) (t rfl) (by kernel_rfl) rfl)) rfl (iax (e:=248) (t rfl) (t rfl) (by kernel_rfl) (by kernel_rfl) hx7)) rfl (lsel (K:=1000) (ds:=[(fv 220 [(pb n0 0)] []),(fv 221 [(pb n0 0)] []),(fv 222 [(pb n0 0)] [])]) (t rfl) rfl rfl (idxr hx7).1 (Nat.le_of_ble_eq_true rfl) (by kernel_rfl))) rfl (mv (t rfl))) (by kernel_rfl) rfl rfl fun a w s=>cgv [1000,1001,1002,1003,1004,1005] [1000,1001,1002,1003,1004,1005] hM s (qsel3 (selt hx10) (t rfl)) rfl (oc (t rfl) on) (vq vn) vn (cgsel3 (Q:=fun F=>Cg Tryz.prog F [Qv (pb n0 0),Va (v0)] [Mr n0 [(.int .i64 v1),n1,n2,n3,n4,(.map (some n5)),(fv 220 [(pb n0 0)] []),(fv 221 [(pb n0 0)] []),(fv 222 [(pb n0 0)] [])],At n1 (Va (v2)),At n2 (Va (v3)),At n3 (Va (v4)),At n4 (Va (v5)),Om n5 (x3.2:List (ByteArray×Int))] (Rz (fun x:Unit=>Va (x10)) (fun x=>[Mr n0 [(.int .i64 v1),n1,n2,n3,n4,(.map (some n5)),(fv 220 [(pb n0 0)] []),(fv 221 [(pb n0 0)] []),(fv 222 [(pb n0 0)] [])],At n1 (Va (v2)),At n2 (Va (v3)),At n3 (Va (v4)),At n4 (Va (v5)),Om n5 (x3.2:List (ByteArray×Int))]))) hx10 (fun h=>s220 f n0 n1 n2 n3 n4 n5 _ _ _ _ _ _ _ _ h) (fun h=>s221 f n0 n1 n2 n3 n4 n5 _ _ _ _ _ _ _ _ h) (fun h=>s222 f n0 n1 n2 n3 n4 n5 _ _ _ _ _ _ _ _ h)) (kc rfl (kc rfl (kc rfl (kc rfl (kc rfl (kc rfl kn)))))) rfl (fun _=>rfl) rfl rfl rfl fun y11 a w s=>sq s (sa (t rfl)) rfl fun a w s=>nl ?_)
    obtain rfl:=si hm
    refine wpIn_ret ?_
    exact rz [1000,1001,1002,1003,1004,1005] () hM hD s rfl (rv1 (rt rfl)) (kc rfl (kc rfl (kc rfl (kc rfl (kc rfl (kc rfl kn)))))) rfl
def m226 (f:Nat) (v0:Int) (v1:Control):Option (Bool):=(bif (decide (v0 < (0:Int))) then some true else (m227 f v1).bind fun x1=>some (decide (v0≥x1))).bind fun r2=>some r2
set_option maxRecDepth 100000 in
theorem s226 (f:Nat) (v0:Int) (v1:Control) (r:Bool) (hm:m226 f v0 v1=some r):Sp Tryz.prog 226 [Va (v0),Pt (v1)] (Va (r)):=by
 unfold m226 at hm
 refine ens Tryz.func226 (by kernel_rfl) rfl Tryz.ntmps226 rfl rfl fun M w_0 a hM hD s=>?_
 refine se (rg (sq s (sa cb) rfl fun a w s=>nl ?_))
 obtain ⟨r2,hr2,hm⟩:=bs hm
 have gr2:=gF hr2
 have er2:=gT hr2
 obtain ⟨x1,hx1,gr2⟩:=gx gr2
 refine se (rg (sq s (mv (t rfl)) rfl fun a w s=>sq s (lt (t rfl) ci) rfl fun a w s=>sq s (mv (t rfl)) rfl fun a w s=>sg s rfl rfl (fun hb=>(mv (t rfl))) rfl fun a w s=>sg s rfl rfl (fun hb=>(ld (t rfl))) rfl fun a w s=>sg s rfl rfl (fun hb=>(cc rfl (oc (tg rfl hb) on) (s227 f _ _ (hx1 hb)))) rfl fun a w s=>sg s rfl rfl (fun hb=>(ge (tg rfl hb) (tg rfl hb))) rfl fun a w s=>sq s (po (t rfl) rfl (fun h=>si (gr2 h)) (fun h=>(si (er2 h)).symm)) rfl fun a w s=>sq s (sa (t rfl)) rfl fun a w s=>nl ?_))
 obtain rfl:=si hm
 refine wpIn_ret ?_
 exact rn hD s rfl (rv1 (rt rfl))
def m122_2_l1 (f:Nat) (v0:List Int) (v1:Control):Nat→Int→Option (Lo (Int) (Int))
 | 0,_=>none
 | n+1,z1=>(bif (decide (z1 < (v0.length:Int))) then (idx v0 z1).bind fun x3=>(m226 f x3 v1).bind fun x4=>(bif x4 then some (.ret z1) else m122_2_l1 f v0 v1 n (wr (z1 + (1:Int)))) else some (.brk z1))
def m122_2 (f:Nat) (v0:List Int) (v1:Control):Option (Int):=((m122_2_l1 f v0 v1 f (0:Int)).bind fun o2=>match o2 with | .brk o2s=>some (-1:Int) | .ret r=>some r)
set_option maxRecDepth 100000 in
theorem s122_2 (f:Nat) (n0:Value) (v0:List Int) (v1:Control) (r:Int) (hm:m122_2 f v0 v1=some r):Cg Tryz.prog 122 [Va (v0),Qv (fv 226 [] [n0])] [At n0 (Pt (v1))] (Rz (fun x:Unit=>Va (r)) (fun x=>[At n0 (Pt (v1))])):=by
 unfold m122_2 at hm
 refine eng Tryz.func122 (by kernel_rfl) rfl Tryz.ntmps122 rfl rfl fun M w_0 a hM hD s=>?_
 refine se (rg (sq s (sa ci) rfl fun a w s=>nl ?_))
 refine se ?_
 refine se (rg (sq s (mv (t rfl)) rfl fun a w s=>sq s (ln (t rfl)) rfl fun a w s=>sq s (mv ci) rfl fun a w s=>nl ?_))
 obtain ⟨o2,hoo2,hko2⟩:=bs hm
 refine lcI o2 (fun o2s a w=>St M w_0 19 [(0,Va (v0)),(1,Qv (fv 226 [] [n0])),(4,Va ((0:Int))),(7,Va ((v0.length:Int))),(8,Va (o2s)),(1000,At n0 (Pt (v1)))] a w) ?_ fun o2s a w ho s=>?_
 ·refine wpIn_block ?_
  refine loI (fun n z1=>m122_2_l1 f v0 v1 n z1) o2 (fun z1 a w=>St M w_0 19 [(0,Va (v0)),(1,Qv (fv 226 [] [n0])),(4,Va ((0:Int))),(7,Va ((v0.length:Int))),(8,Va (z1)),(1000,At n0 (Pt (v1)))] a w) f (0:Int) (s.pick [0,1,4,7,8,1000]) hoo2 (fun _=>rfl) fun n z1 a w hm s=>?_
  replace hm:m122_2_l1 f v0 v1 (n + 1) z1=some o2:=hm
  unfold m122_2_l1 at hm
  refine se (rg (sq s (lt (t rfl) (t rfl)) rfl fun a w s=>nl ?_))
  refine se ?_
  refine cm s rfl hm (fun hb hm=>?_) (fun hb hm=>?_)
  ·refine wpIn_skip ?_
   refine se ?_
   refine wpIn_block ?_
   refine se (rg (sq s (mv (t rfl)) rfl fun a w s=>sq s (sa (t rfl)) rfl fun a w s=>nl ?_))
   obtain ⟨x3,hx3,hm⟩:=bs hm
   obtain ⟨x4,hx4,hm⟩:=bs hm
   refine se (rg (sq s (mvq (t rfl)) rfl fun a w s=>sq s (mv (t rfl)) rfl fun a w s=>sq s (mv (t rfl)) rfl fun a w s=>sq s (ix (t rfl) (t rfl) hx3) rfl fun a w s=>sq s (ld (t rfl)) rfl fun a w s=>sq s (ccv (t rfl) rfl (oc (t rfl) on) vn (va (k:=1000) rfl vn) (s226 f _ _ _ hx4)) rfl fun a w s=>nl ?_))
   refine cm s rfl hm (fun hb hm=>?_) (fun hb hm=>?_)
   ·refine se (rg (sq s (mv (t rfl)) rfl fun a w s=>sq s (sa (t rfl)) rfl fun a w s=>nl ?_))
    obtain rfl:=si hm
    replace hm:=hko2
    dsimp only at hm
    obtain rfl:=si hm
    refine wpIn_ret ?_
    exact rz [1000] () hM hD s rfl (rv1 (rt rfl)) (kc rfl kn) rfl
   ·refine wpIn_skip ?_
    refine rg (sq s (ad (t rfl) ci) rfl fun a w s=>sq s (mv (t rfl)) rfl fun a w s=>nl ?_)
    exact ⟨_,hm,s.pick [0,1,4,7,8,1000]⟩
  ·refine wpIn_exit ?_
   exact ⟨_,(si hm).symm,s.pick [0,1,4,7,8,1000]⟩
 ·subst ho
  replace hm:=hko2
  dsimp only at hm
  refine se (rg (sq s (sa ci) rfl fun a w s=>nl ?_))
  obtain rfl:=si hm
  refine wpIn_ret ?_
  exact rz [1000] () hM hD s rfl (rv1 (rt rfl)) (kc rfl kn) rfl
def m192_2 (f:Nat) (v0:List Int) (v1:Control):Option (Bool):=(m122_2 f v0 v1).bind fun x1=>some (decide (x1≥(0:Int)))
set_option maxRecDepth 100000 in
theorem s192_2 (f:Nat) (n0:Value) (v0:List Int) (v1:Control) (r:Bool) (hm:m192_2 f v0 v1=some r):Cg Tryz.prog 192 [Va (v0),Qv (fv 226 [] [n0])] [At n0 (Pt (v1))] (Rz (fun x:Unit=>Va (r)) (fun x=>[At n0 (Pt (v1))])):=by
 unfold m192_2 at hm
 refine eng Tryz.func192 (by kernel_rfl) rfl Tryz.ntmps192 rfl rfl fun M w_0 a hM hD s=>?_
 refine se (rg (sq s (sa cb) rfl fun a w s=>nl ?_))
 obtain ⟨x1,hx1,hm⟩:=bs hm
 refine se (rg (sq s (mv (t rfl)) rfl fun a w s=>sq s (mvq (t rfl)) rfl fun a w s=>cgv [1000] [1000] hM s qf rfl (oc (t rfl) (oc (t rfl) on)) vn vn (s122_2 f n0 _ _ _ hx1) (kc rfl kn) rfl (fun _=>rfl) rfl rfl rfl fun y2 a w s=>sq s (ge (t rfl) ci) rfl fun a w s=>sq s (sa (t rfl)) rfl fun a w s=>nl ?_))
 obtain rfl:=si hm
 refine wpIn_ret ?_
 exact rz [1000] () hM hD s rfl (rv1 (rt rfl)) (kc rfl kn) rfl
def m155_l3 (f:Nat) (v0:Control):Nat→(Int×(List (ByteArray×Int)))→Option (Lo (Int×(List (ByteArray×Int))) (Int ⊕ (Int×(List (ByteArray×Int)))))
 | 0,_=>none
 | n+1,z15=>(bif (decide (z15.1 < (((v0).Signals).length:Int))) then (m225 f z15.1 v0.Actuators v0.Inputs v0.Signals v0.Plus v0.Minus z15.2).bind fun x17=>(bif (x17.1 != (0:Int)) then some (.ret (.inl x17.1)) else m155_l3 f v0 n ((wr (z15.1 + (1:Int))),x17.2)) else some (.brk (z15.1,z15.2)))
def m155_l2 (f:Nat) (v0:Control):Nat→(Int×(List (ByteArray×Int)))→Option (Lo (Int×(List (ByteArray×Int))) (Int ⊕ (Int×(List (ByteArray×Int)))))
 | 0,_=>none
 | n+1,z10=>(bif (decide (z10.1 < (((v0).Inputs).length:Int))) then (idx ((v0).Inputs) z10.1).bind fun x12=>(m224 f x12 v0.Actuators v0.Inputs v0.Signals v0.Plus v0.Minus z10.2).bind fun x13=>(bif (x13.1 != (0:Int)) then some (.ret (.inl x13.1)) else m155_l2 f v0 n ((wr (z10.1 + (1:Int))),x13.2)) else some (.brk (z10.1,z10.2)))
def m155_l1 (f:Nat) (v0:Control):Nat→(Int×(List (ByteArray×Int)))→Option (Int×(List (ByteArray×Int)))
 | 0,_=>none
 | n+1,z7=>(bif (decide (z7.1 < (wr ((2:Int) * (v0).Actuators)))) then (m223 f v0 z7.1).bind fun x9=>m155_l1 f v0 n ((wr (z7.1 + (1:Int))),(mput eqqS z7.2 x9 z7.1)) else some (z7.1,z7.2))
def m155 (f:Nat) (v0:Control):Option (Int ⊕ (Int×(List (ByteArray×Int)))):=(bif ((decide ((v0).Actuators < (1:Int))) || (decide ((v0).Actuators > (6:Int)))) then some (.inl (2:Int)) else (bif ((decide ((((v0).Inputs).length:Int) > (16:Int))) || (decide ((((v0).Signals).length:Int) > (64:Int)))) then some (.inl (5:Int)) else (m155_l1 f v0 f ((0:Int),([]:List (ByteArray×Int)))).bind fun o8s=>((m155_l2 f v0 f ((0:Int),o8s.2)).bind fun o11=>match o11 with | .brk o11s=>((m155_l3 f v0 f ((0:Int),o11s.2)).bind fun o16=>match o16 with | .brk o16s=>(bif (((((v0).Plus).length:Int) != (v0).Actuators) || ((((v0).Minus).length:Int) != (v0).Actuators)) then some (.inl (8:Int)) else (m205 f ([(v0).Plus,(v0).Minus]:List (List Int))).bind fun x19=>(m192_2 f x19 v0).bind fun x22=>(bif x22 then some (.inl (6:Int)) else some (.inr ((0:Int),o16s.2)))) | .ret r=>some r) | .ret r=>some r)))
set_option maxRecDepth 100000 in
set_option maxHeartbeats 2000000 in
theorem s155 (f:Nat) (v0:Control) (r:Int ⊕ (Int×(List (ByteArray×Int)))) (hm:m155 f v0=some r):Sp Tryz.prog 155 [Va (v0)] (Sm r (fun q:Int=>(T2 (Qv (.map none)) (Va (q)))) (fun q:Int×(List (ByteArray×Int))=>(Rz (fun x:Nat=>T2 (Qv (.map (some x))) (Va (q.1))) (fun x=>[Om x (q.2:List (ByteArray×Int))])))):=by
 unfold m155 at hm
 refine ens Tryz.func155 (by kernel_rfl) rfl Tryz.ntmps155 rfl rfl fun M w_0 a hM hD s=>?_
 refine se (rg (sq s (bx (t rfl)) rfl fun a w s=>sq s (saq cq) rfl fun a w s=>sq s (sa ci) rfl fun a w s=>nl ?_))
 refine se ?_
 refine se (rg (sq s (fa (f:=Control.Actuators) (t rfl)) rfl fun a w s=>sq s (ld (t rfl)) rfl fun a w s=>sq s (lt (t rfl) ci) rfl fun a w s=>sq s (mv (t rfl)) rfl fun a w s=>sg s rfl rfl (fun hb=>(fa (f:=Control.Actuators) (t rfl))) rfl fun a w s=>sg s rfl rfl (fun hb=>(ld (tg rfl hb))) rfl fun a w s=>sg s rfl rfl (fun hb=>(gt (tg rfl hb) ci)) rfl fun a w s=>sq s (poP (t rfl) rfl) rfl fun a w s=>nl ?_))
 refine cm s rfl hm (fun hb hm=>?_) (fun hb hm=>?_)
 ·refine se (rg (sq s (saq cq) rfl fun a w s=>sq s (sa ci) rfl fun a w s=>nl ?_))
  obtain rfl:=si hm
  refine wpIn_ret ?_
  exact rn hD s rfl (rv2 (rt rfl) (rt rfl))
 ·refine wpIn_skip ?_
  refine se ?_
  refine se (rg (sq s (fa (f:=Control.Inputs) (t rfl)) rfl fun a w s=>sq s (ld (t rfl)) rfl fun a w s=>sq s (ln (t rfl)) rfl fun a w s=>sq s (gt (t rfl) ci) rfl fun a w s=>sq s (mv (t rfl)) rfl fun a w s=>sg s rfl rfl (fun hb=>(fa (f:=Control.Signals) (t rfl))) rfl fun a w s=>sg s rfl rfl (fun hb=>(ld (tg rfl hb))) rfl fun a w s=>sg s rfl rfl (fun hb=>(ln (tg rfl hb))) rfl fun a w s=>sg s rfl rfl (fun hb=>(gt (tg rfl hb) ci)) rfl fun a w s=>sq s (poP (t rfl) rfl) rfl fun a w s=>nl ?_))
  refine cm s rfl hm (fun hb hm=>?_) (fun hb hm=>?_)
  ·refine se (rg (sq s (saq cq) rfl fun a w s=>sq s (sa ci) rfl fun a w s=>nl ?_))
   obtain rfl:=si hm
   refine wpIn_ret ?_
   exact rn hD s rfl (rv2 (rt rfl) (rt rfl))
  ·refine wpIn_skip ?_
   refine se (rg (sq s (ld (t rfl)) rfl fun a w s=>sqm 1000 s (mkm (κ:=ByteArray) (ν:=Int)) rfl rfl fun b1 a w s=>opv25 (d:=29) 1001 1002 1003 1004 s rfl rfl fun c2 c3 c4 c5 s=>sq s (bla (L:=[(0,5),(5,1),(6,3)]) (z:=[(.int .i64 (0:Int)),(.slice none 0 0),(.slice none 0 0),(.slice none 0 0),(.slice none 0 0),(.map none),.nilFunc,.nilFunc,.nilFunc]) (res:=[(.int .i64 v0.Actuators),c2,c3,c4,c5,(.map (some b1)),.nilFunc,.nilFunc,.nilFunc]) rfl (by kernel_rfl) (by kernel_rfl) (pda (t rfl) (pdq (t rfl) (ocr rfl) pdn)) rfl rfl) rfl fun a w s=>sqr 1005 s (bxa (t rfl)) rfl rfl fun b6 a w s=>sq s (saq (t rfl)) rfl fun a w s=>nl ?_))
   refine se (rg (sq s (mvq (t rfl)) rfl fun a w s=>sq s (mvq (t rfl)) rfl fun a w s=>sq s (mkf rfl rfl (qc (t rfl) qn) qn) rfl fun a w s=>sq s (mvq (t rfl)) rfl fun a w s=>sq s (mkf rfl rfl (qc (t rfl) qn) qn) rfl fun a w s=>sq s (mvq (t rfl)) rfl fun a w s=>sq s (mkf rfl rfl (qc (t rfl) qn) qn) rfl fun a w s=>sq s (bly (e:=248) (len:=3) (z:=[.nilFunc,.nilFunc,.nilFunc]) (cs:=[(fv 220 [(pb b6 0)] []),(fv 221 [(pb b6 0)] []),(fv 222 [(pb b6 0)] [])]) rfl (cd1 (t rfl) (ocr rfl) (cd1 (t rfl) (ocr rfl) (cd1 (t rfl) (ocr rfl) cd0))) (by kernel_rfl) (by kernel_rfl) (by kernel_rfl) rfl) rfl fun a w s=>sq s (nkq (t rfl)) rfl fun a w s=>sq s (fm_ (off:=6) (m:=2) (q:=6) (t rfl) (by kernel_rfl) rfl) rfl fun a w s=>sra (K:=1005) (m:=[(fv 220 [(pb b6 0)] []),(fv 221 [(pb b6 0)] []),(fv 222 [(pb b6 0)] [])]) (cs':=[(.int .i64 v0.Actuators),c2,c3,c4,c5,(.map (some b1)),(fv 220 [(pb b6 0)] []),(fv 221 [(pb b6 0)] []),(fv 222 [(pb b6 0)] [])]) s (t rfl) rfl (t rfl) (by kernel_rfl) rfl rfl rfl fun w s=>nl ?_))
   refine se ?_
   refine se (rg (sq s (fa (f:=Control.Actuators) (t rfl)) rfl fun a w s=>sq s (ld (t rfl)) rfl fun a w s=>sq s (ml ci (t rfl)) rfl fun a w s=>sq s (mv ci) rfl fun a w s=>nl ?_))
   obtain ⟨o8s,hoo8,hko8⟩:=bs hm
   refine cpI (fun a w=>St M w_0 111 [(0,Va (v0)),(1,Pt (v0)),(2,Qv (.map none)),(3,Va ((0:Int))),(4,Qv (pb b6 0)),(45,Va ((wr ((2:Int) * (v0).Actuators)))),(46,Va (o8s.1)),(1005,Mr b6 [(.int .i64 v0.Actuators),c2,c3,c4,c5,(.map (some b1)),(fv 220 [(pb b6 0)] []),(fv 221 [(pb b6 0)] []),(fv 222 [(pb b6 0)] [])]),(1001,At c2 (Va (v0.Inputs))),(1002,At c3 (Va (v0.Signals))),(1003,At c4 (Va (v0.Plus))),(1004,At c5 (Va (v0.Minus))),(1000,Om b1 (o8s.2:List (ByteArray×Int)))] a w) ?_ fun a w s=>?_
   ·refine wpIn_block ?_
    refine loI (fun n z7=>m155_l1 f v0 n z7) o8s (fun z7 a w=>St M w_0 111 [(0,Va (v0)),(1,Pt (v0)),(2,Qv (.map none)),(3,Va ((0:Int))),(4,Qv (pb b6 0)),(45,Va ((wr ((2:Int) * (v0).Actuators)))),(46,Va (z7.1)),(1005,Mr b6 [(.int .i64 v0.Actuators),c2,c3,c4,c5,(.map (some b1)),(fv 220 [(pb b6 0)] []),(fv 221 [(pb b6 0)] []),(fv 222 [(pb b6 0)] [])]),(1001,At c2 (Va (v0.Inputs))),(1002,At c3 (Va (v0.Signals))),(1003,At c4 (Va (v0.Plus))),(1004,At c5 (Va (v0.Minus))),(1000,Om b1 (z7.2:List (ByteArray×Int)))] a w) f ((0:Int),([]:List (ByteArray×Int))) (s.pick [0,1,2,3,4,45,46,1005,1001,1002,1003,1004,1000]) hoo8 (fun _=>rfl) fun n z7 a w hm s=>?_
    replace hm:m155_l1 f v0 (n + 1) z7=some o8s:=hm
    unfold m155_l1 at hm
    refine se (rg (sq s (lt (t rfl) (t rfl)) rfl fun a w s=>nl ?_))
    refine se ?_
    refine cm s rfl hm (fun hb hm=>?_) (fun hb hm=>?_)
    ·refine wpIn_skip ?_
     refine se ?_
     refine wpIn_block ?_
     refine se (rg (sq s (mv (t rfl)) rfl fun a w s=>sq s (sa (t rfl)) rfl fun a w s=>nl ?_))
     obtain ⟨x9,hx9,hm⟩:=bs hm
     refine flow s (m:=8) (.cons (.cons (.cons (.cons (.cons (.cons (.cons (.cons .nil rfl (mvq (t rfl))) rfl (nkq (t rfl))) rfl (fm_ (off:=5) (m:=0) (q:=5) (t rfl) (by kernel_rfl) rfl)) rfl (lrp (K:=1005) (t rfl) rfl rfl (by kernel_rfl))) rfl (ld (t rfl))) rfl (mv (t rfl))) rfl (cc rfl (oc (t rfl) (oc (t rfl) on)) (s223 f _ _ _ hx9))) rfl (mv (t rfl))) (by kernel_rfl) rfl rfl fun a w s=>stm (K:=9) (E:=3) (KK:=1000) s (t rfl) rfl (t rfl) (t rfl) (by kernel_rfl) fun w s=>nl ?_
     refine rg (sq s (ad (t rfl) ci) rfl fun a w s=>sq s (mv (t rfl)) rfl fun a w s=>nl ?_)
     exact ⟨_,hm,s.pick [0,1,2,3,4,45,46,1005,1001,1002,1003,1004,1000]⟩
    ·refine wpIn_exit ?_
     obtain rfl:=si hm
     exact s.pick [0,1,2,3,4,45,46,1005,1001,1002,1003,1004,1000]
   ·replace hm:=hko8
    refine se ?_
    refine se (rg (sq s (fa (f:=Control.Inputs) (t rfl)) rfl fun a w s=>sq s (ld (t rfl)) rfl fun a w s=>sq s (ln (t rfl)) rfl fun a w s=>sq s (mv ci) rfl fun a w s=>nl ?_))
    obtain ⟨o11,hoo11,hko11⟩:=bs hm
    refine lcI o11 (fun o11s a w=>St M w_0 111 [(0,Va (v0)),(1,Pt (v0)),(2,Qv (.map none)),(3,Va ((0:Int))),(4,Qv (pb b6 0)),(45,Va ((wr ((2:Int) * (v0).Actuators)))),(46,Va (o8s.1)),(59,Va ((v0).Inputs)),(60,Va ((((v0).Inputs).length:Int))),(61,Va (o11s.1)),(1005,Mr b6 [(.int .i64 v0.Actuators),c2,c3,c4,c5,(.map (some b1)),(fv 220 [(pb b6 0)] []),(fv 221 [(pb b6 0)] []),(fv 222 [(pb b6 0)] [])]),(1001,At c2 (Va (v0.Inputs))),(1002,At c3 (Va (v0.Signals))),(1003,At c4 (Va (v0.Plus))),(1004,At c5 (Va (v0.Minus))),(1000,Om b1 (o11s.2:List (ByteArray×Int)))] a w) ?_ fun o11s a w ho s=>?_
    ·refine wpIn_block ?_
     refine loI (fun n z10=>m155_l2 f v0 n z10) o11 (fun z10 a w=>St M w_0 111 [(0,Va (v0)),(1,Pt (v0)),(2,Qv (.map none)),(3,Va ((0:Int))),(4,Qv (pb b6 0)),(45,Va ((wr ((2:Int) * (v0).Actuators)))),(46,Va (o8s.1)),(59,Va ((v0).Inputs)),(60,Va ((((v0).Inputs).length:Int))),(61,Va (z10.1)),(1005,Mr b6 [(.int .i64 v0.Actuators),c2,c3,c4,c5,(.map (some b1)),(fv 220 [(pb b6 0)] []),(fv 221 [(pb b6 0)] []),(fv 222 [(pb b6 0)] [])]),(1001,At c2 (Va (v0.Inputs))),(1002,At c3 (Va (v0.Signals))),(1003,At c4 (Va (v0.Plus))),(1004,At c5 (Va (v0.Minus))),(1000,Om b1 (z10.2:List (ByteArray×Int)))] a w) f ((0:Int),o8s.2) (s.pick [0,1,2,3,4,45,46,59,60,61,1005,1001,1002,1003,1004,1000]) hoo11 (fun _=>rfl) fun n z10 a w hm s=>?_
     replace hm:m155_l2 f v0 (n + 1) z10=some o11:=hm
     unfold m155_l2 at hm
     refine se (rg (sq s (lt (t rfl) (t rfl)) rfl fun a w s=>nl ?_))
     refine se ?_
     refine cm s rfl hm (fun hb hm=>?_) (fun hb hm=>?_)
     ·refine wpIn_skip ?_
      refine se ?_
      refine wpIn_block ?_
      obtain ⟨x12,hx12,hm⟩:=bs hm
      refine se (rg (sq s (ix (t rfl) (t rfl) hx12) rfl fun a w s=>sq s (ld (t rfl)) rfl fun a w s=>sq s (sa (t rfl)) rfl fun a w s=>nl ?_))
      obtain ⟨x13,hx13,hm⟩:=bs hm
      refine se (rg (sq s (mvq (t rfl)) rfl fun a w s=>sq s (mv (t rfl)) rfl fun a w s=>cgv [1005,1001,1002,1003,1004,1000] [1005,1001,1002,1003,1004,1000] hM s qf rfl (oc (t rfl) (oc (t rfl) on)) vn vn (s224 f b6 c2 c3 c4 c5 b1 _ _ _ _ _ _ _ _ hx13) (kc rfl (kc rfl (kc rfl (kc rfl (kc rfl (kc rfl kn)))))) rfl (fun _=>rfl) rfl rfl rfl fun y14 a w s=>sq s (sa (t rfl)) rfl fun a w s=>nl ?_))
      refine se (rg (sq s (mv (t rfl)) rfl fun a w s=>sq s (ne (t rfl) ci) rfl fun a w s=>nl ?_))
      refine cm s rfl hm (fun hb hm=>?_) (fun hb hm=>?_)
      ·refine se (rg (sq s (mv (t rfl)) rfl fun a w s=>sq s (saq cq) rfl fun a w s=>sq s (sa (t rfl)) rfl fun a w s=>nl ?_))
       obtain rfl:=si hm
       replace hm:=hko11
       dsimp only at hm
       obtain rfl:=si hm
       refine wpIn_ret ?_
       exact rn hD s rfl (rv2 (rt rfl) (rt rfl))
      ·refine wpIn_skip ?_
       refine rg (sq s (ad (t rfl) ci) rfl fun a w s=>sq s (mv (t rfl)) rfl fun a w s=>nl ?_)
       exact ⟨_,hm,s.pick [0,1,2,3,4,45,46,59,60,61,1005,1001,1002,1003,1004,1000]⟩
     ·refine wpIn_exit ?_
      exact ⟨_,(si hm).symm,s.pick [0,1,2,3,4,45,46,59,60,61,1005,1001,1002,1003,1004,1000]⟩
    ·subst ho
     replace hm:=hko11
     dsimp only at hm
     refine se ?_
     refine se (rg (sq s (fa (f:=Control.Signals) (t rfl)) rfl fun a w s=>sq s (ld (t rfl)) rfl fun a w s=>sq s (ln (t rfl)) rfl fun a w s=>sq s (mv ci) rfl fun a w s=>nl ?_))
     obtain ⟨o16,hoo16,hko16⟩:=bs hm
     refine lcI o16 (fun o16s a w=>St M w_0 111 [(0,Va (v0)),(1,Pt (v0)),(2,Qv (.map none)),(3,Va ((0:Int))),(4,Qv (pb b6 0)),(45,Va ((wr ((2:Int) * (v0).Actuators)))),(46,Va (o8s.1)),(59,Va ((v0).Inputs)),(60,Va ((((v0).Inputs).length:Int))),(61,Va (o11s.1)),(74,Va ((((v0).Signals).length:Int))),(75,Va (o16s.1)),(1005,Mr b6 [(.int .i64 v0.Actuators),c2,c3,c4,c5,(.map (some b1)),(fv 220 [(pb b6 0)] []),(fv 221 [(pb b6 0)] []),(fv 222 [(pb b6 0)] [])]),(1001,At c2 (Va (v0.Inputs))),(1002,At c3 (Va (v0.Signals))),(1003,At c4 (Va (v0.Plus))),(1004,At c5 (Va (v0.Minus))),(1000,Om b1 (o16s.2:List (ByteArray×Int)))] a w) ?_ fun o16s a w ho s=>?_
     ·refine wpIn_block ?_
      refine loI (fun n z15=>m155_l3 f v0 n z15) o16 (fun z15 a w=>St M w_0 111 [(0,Va (v0)),(1,Pt (v0)),(2,Qv (.map none)),(3,Va ((0:Int))),(4,Qv (pb b6 0)),(45,Va ((wr ((2:Int) * (v0).Actuators)))),(46,Va (o8s.1)),(59,Va ((v0).Inputs)),(60,Va ((((v0).Inputs).length:Int))),(61,Va (o11s.1)),(74,Va ((((v0).Signals).length:Int))),(75,Va (z15.1)),(1005,Mr b6 [(.int .i64 v0.Actuators),c2,c3,c4,c5,(.map (some b1)),(fv 220 [(pb b6 0)] []),(fv 221 [(pb b6 0)] []),(fv 222 [(pb b6 0)] [])]),(1001,At c2 (Va (v0.Inputs))),(1002,At c3 (Va (v0.Signals))),(1003,At c4 (Va (v0.Plus))),(1004,At c5 (Va (v0.Minus))),(1000,Om b1 (z15.2:List (ByteArray×Int)))] a w) f ((0:Int),o11s.2) (s.pick [0,1,2,3,4,45,46,59,60,61,74,75,1005,1001,1002,1003,1004,1000]) hoo16 (fun _=>rfl) fun n z15 a w hm s=>?_
      replace hm:m155_l3 f v0 (n + 1) z15=some o16:=hm
      unfold m155_l3 at hm
      refine se (rg (sq s (lt (t rfl) (t rfl)) rfl fun a w s=>nl ?_))
      refine se ?_
      refine cm s rfl hm (fun hb hm=>?_) (fun hb hm=>?_)
      ·refine wpIn_skip ?_
       refine se ?_
       refine wpIn_block ?_
       refine se (rg (sq s (mv (t rfl)) rfl fun a w s=>sq s (sa (t rfl)) rfl fun a w s=>nl ?_))
       obtain ⟨x17,hx17,hm⟩:=bs hm
       refine se (rg (sq s (mvq (t rfl)) rfl fun a w s=>sq s (mv (t rfl)) rfl fun a w s=>cgv [1005,1001,1002,1003,1004,1000] [1005,1001,1002,1003,1004,1000] hM s qf rfl (oc (t rfl) (oc (t rfl) on)) vn vn (s225 f b6 c2 c3 c4 c5 b1 _ _ _ _ _ _ _ _ hx17) (kc rfl (kc rfl (kc rfl (kc rfl (kc rfl (kc rfl kn)))))) rfl (fun _=>rfl) rfl rfl rfl fun y18 a w s=>sq s (sa (t rfl)) rfl fun a w s=>nl ?_))
       refine se (rg (sq s (mv (t rfl)) rfl fun a w s=>sq s (ne (t rfl) ci) rfl fun a w s=>nl ?_))
       refine cm s rfl hm (fun hb hm=>?_) (fun hb hm=>?_)
       ·refine se (rg (sq s (mv (t rfl)) rfl fun a w s=>sq s (saq cq) rfl fun a w s=>sq s (sa (t rfl)) rfl fun a w s=>nl ?_))
        obtain rfl:=si hm
        replace hm:=hko16
        dsimp only at hm
        obtain rfl:=si hm
        refine wpIn_ret ?_
        exact rn hD s rfl (rv2 (rt rfl) (rt rfl))
       ·refine wpIn_skip ?_
        refine rg (sq s (ad (t rfl) ci) rfl fun a w s=>sq s (mv (t rfl)) rfl fun a w s=>nl ?_)
        exact ⟨_,hm,s.pick [0,1,2,3,4,45,46,59,60,61,74,75,1005,1001,1002,1003,1004,1000]⟩
      ·refine wpIn_exit ?_
       exact ⟨_,(si hm).symm,s.pick [0,1,2,3,4,45,46,59,60,61,74,75,1005,1001,1002,1003,1004,1000]⟩
     ·subst ho
      replace hm:=hko16
      dsimp only at hm
      refine se ?_
      refine se (rg (sq s (fa (f:=Control.Plus) (t rfl)) rfl fun a w s=>sq s (ld (t rfl)) rfl fun a w s=>sq s (ln (t rfl)) rfl fun a w s=>sq s (fa (f:=Control.Actuators) (t rfl)) rfl fun a w s=>sq s (ld (t rfl)) rfl fun a w s=>sq s (ne (t rfl) (t rfl)) rfl fun a w s=>sq s (mv (t rfl)) rfl fun a w s=>sg s rfl rfl (fun hb=>(fa (f:=Control.Minus) (t rfl))) rfl fun a w s=>sg s rfl rfl (fun hb=>(ld (tg rfl hb))) rfl fun a w s=>sg s rfl rfl (fun hb=>(ln (tg rfl hb))) rfl fun a w s=>sg s rfl rfl (fun hb=>(fa (f:=Control.Actuators) (t rfl))) rfl fun a w s=>sg s rfl rfl (fun hb=>(ld (tg rfl hb))) rfl fun a w s=>sg s rfl rfl (fun hb=>(ne (tg rfl hb) (tg rfl hb))) rfl fun a w s=>sq s (poP (t rfl) rfl) rfl fun a w s=>nl ?_))
      refine cm s rfl hm (fun hb hm=>?_) (fun hb hm=>?_)
      ·refine se (rg (sq s (saq cq) rfl fun a w s=>sq s (sa ci) rfl fun a w s=>nl ?_))
       obtain rfl:=si hm
       refine wpIn_ret ?_
       exact rn hD s rfl (rv2 (rt rfl) (rt rfl))
      ·refine wpIn_skip ?_
       refine se ?_
       obtain ⟨x19,hx19,hm⟩:=bs hm
       obtain ⟨x22,hx22,hm⟩:=bs hm
       refine se (rg (sq s (fa (f:=Control.Plus) (t rfl)) rfl fun a w s=>sq s (ld (t rfl)) rfl fun a w s=>sq s (fa (f:=Control.Minus) (t rfl)) rfl fun a w s=>sq s (ld (t rfl)) rfl fun a w s=>sq s (bsv (o1 (t rfl) (o1 (t rfl) o0)) rfl rfl (by kernel_rfl)) rfl fun a w s=>sqz [1007] hM s (cc rfl (oc (t rfl) on) (s205 f _ _ hx19)) (fun _=>rfl) rfl rfl fun y20 a w s=>nmk (d:=1) 1008 s rfl rfl fun c21 s=>sq s (mkf rfl rfl qn (qc (t rfl) qn)) rfl fun a w s=>fzk (α:=Int) (k:=1007) hM s rfl fun s=>cgv [1008] [1008] hM s qf rfl (oc (ta (k:=1007) (t rfl) rfl) (oc (t rfl) on)) vn vn (s192_2 f c21 _ _ _ hx22) (kc rfl kn) rfl (fun _=>rfl) rfl rfl rfl fun y23 a w s=>nl ?_))
       refine cm s rfl hm (fun hb hm=>?_) (fun hb hm=>?_)
       ·refine se (rg (sq s (saq cq) rfl fun a w s=>sq s (sa ci) rfl fun a w s=>nl ?_))
        obtain rfl:=si hm
        refine wpIn_ret ?_
        exact rn hD s rfl (rv2 (rt rfl) (rt rfl))
       ·refine wpIn_skip ?_
        refine se (rg (sq s (mvq (t rfl)) rfl fun a w s=>sq s (nkq (t rfl)) rfl fun a w s=>sq s (fm_ (off:=5) (m:=0) (q:=5) (t rfl) (by kernel_rfl) rfl) rfl fun a w s=>sq s (lrp (K:=1005) (t rfl) rfl rfl (by kernel_rfl)) rfl fun a w s=>sq s (saq (t rfl)) rfl fun a w s=>sq s (sa ci) rfl fun a w s=>nl ?_))
        obtain rfl:=si hm
        refine wpIn_ret ?_
        exact rz [1000] b1 hM hD s rfl (rv2 (rt rfl) (rt rfl)) (kc rfl kn) rfl
def m82 (f:Nat) (v0:Control):Option (Int):=(m155 f v0).bind fun x1=>match x1 with | .inl x1=>some x1 | .inr x1=>some x1.1
set_option maxRecDepth 100000 in
theorem s82 (f:Nat) (v0:Control) (r:Int) (hm:m82 f v0=some r):Sp Tryz.prog 82 [Va (v0)] (Va (r)):=by
 unfold m82 at hm
 refine ens Tryz.func82 (by kernel_rfl) rfl Tryz.ntmps82 rfl rfl fun M w_0 a hM hD s=>?_
 refine se (rg (sq s (bx (t rfl)) rfl fun a w s=>sq s (sa ci) rfl fun a w s=>nl ?_))
 obtain ⟨x1,hx1,hm⟩:=bs hm
 rcases x1 with x1 | x1
 ·dsimp only at hm
  refine se (rg (sq s (ld (t rfl)) rfl fun a w s=>sq s (cc rfl (oc (t rfl) on) (smR (R:=(T2 (Qv (.map none)) (Va (x1)))) (s155 f _ _ hx1))) rfl fun a w s=>sq s (mve (t rfl)) rfl fun a w s=>sq s (Pn.x20 (t rfl)) rfl fun a w s=>sq s (Pn.x21 (t rfl)) rfl fun a w s=>sq s (saq (t rfl)) rfl fun a w s=>sq s (sa (t rfl)) rfl fun a w s=>nl ?_))
  refine se (rg (sq s (mv (t rfl)) rfl fun a w s=>sq s (sa (t rfl)) rfl fun a w s=>nl ?_))
  obtain rfl:=si hm
  refine wpIn_ret ?_
  exact rn hD s rfl (rv1 (rt rfl))
 ·dsimp only at hm
  refine se (rg (sq s (ld (t rfl)) rfl fun a w s=>sqz [1000] hM s (cc rfl (oc (t rfl) on) (smR (R:=(Rz (fun x:Nat=>T2 (Qv (.map (some x))) (Va (x1.1))) (fun x=>[Om x (x1.2:List (ByteArray×Int))]))) (s155 f _ _ hx1))) (fun _=>rfl) rfl rfl fun y2 a w s=>sq s (mve (t rfl)) rfl fun a w s=>sq s (Pn.x20 (t rfl)) rfl fun a w s=>sq s (Pn.x21 (t rfl)) rfl fun a w s=>sq s (saq (t rfl)) rfl fun a w s=>sq s (sa (t rfl)) rfl fun a w s=>nl ?_))
  refine se (rg (sq s (mv (t rfl)) rfl fun a w s=>sq s (sa (t rfl)) rfl fun a w s=>nl ?_))
  obtain rfl:=si hm
  refine wpIn_ret ?_
  exact rn hD s rfl (rv1 (rt rfl))
def m203 (f:Nat) (v0:Control) (v1:State):Option (Int):=(m82 f v0).bind fun x1=>(bif (x1 != (0:Int)) then some x1 else (m249 f v0 v1).bind fun x2=>some x2)
set_option maxRecDepth 100000 in
theorem s203 (f:Nat) (v0:Control) (v1:State) (r:Int) (hm:m203 f v0 v1=some r):Sp Tryz.prog 203 [Va (v0),Va (v1)] (Va (r)):=by
 unfold m203 at hm
 refine ens Tryz.func203 (by kernel_rfl) rfl Tryz.ntmps203 rfl rfl fun M w_0 a hM hD s=>?_
 refine se (rg (sq s (bx (t rfl)) rfl fun a w s=>sq s (bx (t rfl)) rfl fun a w s=>sq s (sa ci) rfl fun a w s=>nl ?_))
 refine se ?_
 obtain ⟨x1,hx1,hm⟩:=bs hm
 refine se (rg (sq s (ld (t rfl)) rfl fun a w s=>sq s (cc rfl (oc (t rfl) on) (s82 f _ _ hx1)) rfl fun a w s=>sq s (sa (t rfl)) rfl fun a w s=>nl ?_))
 refine se (rg (sq s (mv (t rfl)) rfl fun a w s=>sq s (ne (t rfl) ci) rfl fun a w s=>nl ?_))
 refine cm s rfl hm (fun hb hm=>?_) (fun hb hm=>?_)
 ·refine se (rg (sq s (mv (t rfl)) rfl fun a w s=>sq s (sa (t rfl)) rfl fun a w s=>nl ?_))
  obtain rfl:=si hm
  refine wpIn_ret ?_
  exact rn hD s rfl (rv1 (rt rfl))
 ·refine wpIn_skip ?_
  obtain ⟨x2,hx2,hm⟩:=bs hm
  refine se (rg (sq s (ld (t rfl)) rfl fun a w s=>sq s (ld (t rfl)) rfl fun a w s=>sq s (cc rfl (oc (t rfl) (oc (t rfl) on)) (s249 f _ _ _ hx2)) rfl fun a w s=>sq s (sa (t rfl)) rfl fun a w s=>nl ?_))
  obtain rfl:=si hm
  refine wpIn_ret ?_
  exact rn hD s rfl (rv1 (rt rfl))
def m128 (f:Nat) (v0:List Int):Option ((List Int)):=(app ([]:List Int) v0).bind fun x4=>some x4
set_option maxRecDepth 100000 in
theorem s128 (f:Nat) (v0:List Int) (r:(List Int)) (hm:m128 f v0=some r):Sp Tryz.prog 128 [Va (v0)] (Rz (fun x:Value=>Qv x) (fun x=>[Ow 3 x (r)])):=by
 unfold m128 at hm
 refine ens Tryz.func128 (by kernel_rfl) rfl Tryz.ntmps128 rfl rfl fun M w_0 a hM hD s=>?_
 refine se (rg (sq s (saq cq) rfl fun a w s=>nl ?_))
 refine se ?_
 refine se (rg (sq s (mv (t rfl)) rfl fun a w s=>nmk (d:=3) 1000 s rfl rfl fun c1 s=>sq s (eqn (K:=1000) (α:=Int) (e:=3) (t rfl) cq rfl (by kernel_rfl)) rfl fun a w s=>nl ?_))
 refine cd s rfl (fun hb=>?_) (fun hb=>?_)
 ·obtain rfl:=nilv (K:=1000) s rfl hb
  replace hm:some ([]:List Int)=some r:=hm
  refine se (rg (sq s (saq cq) rfl fun a w s=>nl ?_))
  obtain rfl:=si hm
  refine nilt (α:=Int) (d:=2) 1001 3 s rfl rfl fun c2 s=>?_
  refine wpIn_ret ?_
  exact rz [1001] c2 hM hD s rfl (rv1 (rt rfl)) (kc rfl kn) rfl
 ·refine wpIn_skip ?_
  obtain ⟨x4,hx4,hm⟩:=bs hm
  refine se (rg (sqo 1002 s (bso (o0 (α:=Int)) rfl rfl (by kernel_rfl)) rfl rfl fun c3 a w s=>sq s (mv (t rfl)) rfl fun a w s=>apd (α:=Int) (k:=1002) s (t rfl) rfl (t rfl) hx4 rfl rfl fun c5 a w s=>sq s (saq (t rfl)) rfl fun a w s=>nl ?_))
  obtain rfl:=si hm
  refine wpIn_ret ?_
  exact rz [1002] c5 hM hD s rfl (rv1 (rt rfl)) (kc rfl kn) rfl
def m129 (f:Nat) (v0:List Bool):Option ((List Bool)):=(app ([]:List Bool) v0).bind fun x4=>some x4
set_option maxRecDepth 100000 in
theorem s129 (f:Nat) (v0:List Bool) (r:(List Bool)) (hm:m129 f v0=some r):Sp Tryz.prog 129 [Va (v0)] (Rz (fun x:Value=>Qv x) (fun x=>[Ow 4 x (r)])):=by
 unfold m129 at hm
 refine ens Tryz.func129 (by kernel_rfl) rfl Tryz.ntmps129 rfl rfl fun M w_0 a hM hD s=>?_
 refine se (rg (sq s (saq cq) rfl fun a w s=>nl ?_))
 refine se ?_
 refine se (rg (sq s (mv (t rfl)) rfl fun a w s=>nmk (d:=3) 1000 s rfl rfl fun c1 s=>sq s (eqn (K:=1000) (α:=Bool) (e:=4) (t rfl) cq rfl (by kernel_rfl)) rfl fun a w s=>nl ?_))
 refine cd s rfl (fun hb=>?_) (fun hb=>?_)
 ·obtain rfl:=nilv (K:=1000) s rfl hb
  replace hm:some ([]:List Bool)=some r:=hm
  refine se (rg (sq s (saq cq) rfl fun a w s=>nl ?_))
  obtain rfl:=si hm
  refine nilt (α:=Bool) (d:=2) 1001 4 s rfl rfl fun c2 s=>?_
  refine wpIn_ret ?_
  exact rz [1001] c2 hM hD s rfl (rv1 (rt rfl)) (kc rfl kn) rfl
 ·refine wpIn_skip ?_
  obtain ⟨x4,hx4,hm⟩:=bs hm
  refine se (rg (sqo 1002 s (bso (o0 (α:=Bool)) rfl rfl (by kernel_rfl)) rfl rfl fun c3 a w s=>sq s (mv (t rfl)) rfl fun a w s=>apd (α:=Bool) (k:=1002) s (t rfl) rfl (t rfl) hx4 rfl rfl fun c5 a w s=>sq s (saq (t rfl)) rfl fun a w s=>nl ?_))
  obtain rfl:=si hm
  refine wpIn_ret ?_
  exact rz [1002] c5 hM hD s rfl (rv1 (rt rfl)) (kc rfl kn) rfl
def m300 (f:Nat) (v0:State):Option ((List Int)×(List Bool)×(List Bool)×(List Bool)×(List Int)):=(m128 f ((v0).Ends)).bind fun x2=>(m129 f ((v0).Valves)).bind fun x3=>(m129 f ((v0).Inputs)).bind fun x4=>(m129 f ((v0).Values)).bind fun x5=>(m128 f ((v0).Timers)).bind fun x6=>some (x2,x3,x4,x5,x6)
set_option maxRecDepth 100000 in
theorem s300 (f:Nat) (v0:State) (r:(List Int)×(List Bool)×(List Bool)×(List Bool)×(List Int)) (hm:m300 f v0=some r):Sp Tryz.prog 300 [Va (v0)] (Rz (fun x:Value×Value×Value×Value×Value=>Qa [x.1,x.2.1,x.2.2.1,x.2.2.2.1,x.2.2.2.2]) (fun x=>[Ow 3 x.1 (r.1),Ow 4 x.2.1 (r.2.1),Ow 4 x.2.2.1 (r.2.2.1),Ow 4 x.2.2.2.1 (r.2.2.2.1),Ow 3 x.2.2.2.2 (r.2.2.2.2)])):=by
 unfold m300 at hm
 refine ens Tryz.func300 (by kernel_rfl) rfl Tryz.ntmps300 rfl rfl fun M w_0 a hM hD s=>?_
 refine se (rg (sq s (bx (t rfl)) rfl fun a w s=>sqr 1000 s (alr (cs:=[(.slice none 0 0),(.slice none 0 0),(.slice none 0 0),(.slice none 0 0),(.slice none 0 0)]) (z:=.agg #[(.slice none 0 0),(.slice none 0 0),(.slice none 0 0),(.slice none 0 0),(.slice none 0 0)]) (by kernel_rfl) rfl rfl) rfl rfl fun b1 a w s=>nl ?_))
 obtain ⟨x2,hx2,hm⟩:=bs hm
 obtain ⟨x3,hx3,hm⟩:=bs hm
 obtain ⟨x4,hx4,hm⟩:=bs hm
 obtain ⟨x5,hx5,hm⟩:=bs hm
 obtain ⟨x6,hx6,hm⟩:=bs hm
 refine se (flow s (m:=15) (.cons (.cons (.cons (.cons (.cons (.cons (.cons (.cons (.cons (.cons (.cons (.cons (.cons (.cons (.cons .nil rfl (fa (f:=State.Ends) (t rfl))) rfl (ld (t rfl))) rfl (cc rfl (oc (t rfl) on) (s128 f _ _ hx2))) rfl (fa (f:=State.Valves) (t rfl))) rfl (ld (t rfl))) rfl (cc rfl (oc (t rfl) on) (s129 f _ _ hx3))) rfl (fa (f:=State.Inputs) (t rfl))) rfl (ld (t rfl))) rfl (cc rfl (oc (t rfl) on) (s129 f _ _ hx4))) rfl (fa (f:=State.Values) (t rfl))) rfl (ld (t rfl))) rfl (cc rfl (oc (t rfl) on) (s129 f _ _ hx5))) rfl (fa (f:=State.Timers) (t rfl))) rfl (ld (t rfl))) rfl (cc rfl (oc (t rfl) on) (s128 f _ _ hx6))) (by kernel_rfl) rfl rfl fun a w s=>opz (d:=5) [1006] s rfl (fun _=>rfl) rfl fun y7 s=>opz (d:=8) [1007] s rfl (fun _=>rfl) rfl fun y8 s=>opz (d:=11) [1008] s rfl (fun _=>rfl) rfl fun y9 s=>opz (d:=14) [1009] s rfl (fun _=>rfl) rfl fun y10 s=>opz (d:=17) [1010] s rfl (fun _=>rfl) rfl fun y11 s=>sq s (bla (L:=[(0,1),(1,1),(2,1),(3,1),(4,1)]) (z:=[(.slice none 0 0),(.slice none 0 0),(.slice none 0 0),(.slice none 0 0),(.slice none 0 0)]) (res:=[y7,y8,y9,y10,y11]) rfl (by kernel_rfl) (by kernel_rfl) (pdq (t rfl) (oco (k:=1006) rfl) (pdq (t rfl) (oco (k:=1007) rfl) (pdq (t rfl) (oco (k:=1008) rfl) (pdq (t rfl) (oco (k:=1009) rfl) (pdq (t rfl) (oco (k:=1010) rfl) pdn))))) rfl rfl) rfl fun a w s=>sra (K:=1000) (m:=[y7,y8,y9,y10,y11]) (cs':=[y7,y8,y9,y10,y11]) s (t rfl) rfl (t rfl) (by kernel_rfl) rfl rfl rfl fun w s=>nl ?_)
 obtain rfl:=si hm
 refine wpIn_ret ?_
 exact rz [1006,1007,1008,1009,1010] (y7,y8,y9,y10,y11) hM hD s rfl (rv1 (rca (K:=1000) rfl rfl (by kernel_rfl) rfl (by kernel_rfl))) (kc rfl (kc rfl (kc rfl (kc rfl (kc rfl kn))))) rfl
def m272 (f:Nat) (v0:Control) (v1:State):Option (Int ⊕ (Int×Int×Int×(List ByteArray)×(List Signal)×(List Int)×(List Int)×(List Int)×(List Bool)×(List Bool)×(List Bool)×(List Int))):=(m203 f v0 v1).bind fun x1=>(bif (x1 != (0:Int)) then some (.inl x1) else (m300 f v1).bind fun x2=>some (.inr ((0:Int),v0.Actuators,(wr ((wr ((2:Int) * (v0).Actuators)) + (((v0).Inputs).length:Int))),v0.Inputs,v0.Signals,v0.Plus,v0.Minus,x2.1,x2.2.1,x2.2.2.1,x2.2.2.2.1,x2.2.2.2.2)))
set_option maxRecDepth 100000 in
theorem s272 (f:Nat) (v0:Control) (v1:State) (r:Int ⊕ (Int×Int×Int×(List ByteArray)×(List Signal)×(List Int)×(List Int)×(List Int)×(List Bool)×(List Bool)×(List Bool)×(List Int))) (hm:m272 f v0 v1=some r):Sp Tryz.prog 272 [Va (v0),Va (v1)] (Sm r (fun q:Int=>(T2 (Qv (.pointer none)) (Va (q)))) (fun q:Int×Int×Int×(List ByteArray)×(List Signal)×(List Int)×(List Int)×(List Int)×(List Bool)×(List Bool)×(List Bool)×(List Int)=>(Rz (fun x:Nat×Value×Value×Value×Value×Value×Value×Value×Value×Value=>T2 (Qv (pb x.1 0)) (Va (q.1))) (fun x=>[Mr x.1 [(.int .i64 q.2.1),x.2.1,x.2.2.1,x.2.2.2.1,x.2.2.2.2.1,x.2.2.2.2.2.1,x.2.2.2.2.2.2.1,x.2.2.2.2.2.2.2.1,x.2.2.2.2.2.2.2.2.1,x.2.2.2.2.2.2.2.2.2,(.int .i64 q.2.2.1)],At x.2.1 (Va (q.2.2.2.1)),At x.2.2.1 (Va (q.2.2.2.2.1)),At x.2.2.2.1 (Va (q.2.2.2.2.2.1)),At x.2.2.2.2.1 (Va (q.2.2.2.2.2.2.1)),Ow 3 x.2.2.2.2.2.1 (q.2.2.2.2.2.2.2.1),Ow 4 x.2.2.2.2.2.2.1 (q.2.2.2.2.2.2.2.2.1),Ow 4 x.2.2.2.2.2.2.2.1 (q.2.2.2.2.2.2.2.2.2.1),Ow 4 x.2.2.2.2.2.2.2.2.1 (q.2.2.2.2.2.2.2.2.2.2.1),Ow 3 x.2.2.2.2.2.2.2.2.2 (q.2.2.2.2.2.2.2.2.2.2.2)])))):=by
 unfold m272 at hm
 refine ens Tryz.func272 (by kernel_rfl) rfl Tryz.ntmps272 rfl rfl fun M w_0 a hM hD s=>?_
 refine se (rg (sq s (bx (t rfl)) rfl fun a w s=>sq s (bx (t rfl)) rfl fun a w s=>sq s (saq cq) rfl fun a w s=>sq s (sa ci) rfl fun a w s=>nl ?_))
 refine se ?_
 obtain ⟨x1,hx1,hm⟩:=bs hm
 refine se (rg (sq s (ld (t rfl)) rfl fun a w s=>sq s (ld (t rfl)) rfl fun a w s=>sq s (cc rfl (oc (t rfl) (oc (t rfl) on)) (s203 f _ _ _ hx1)) rfl fun a w s=>sq s (sa (t rfl)) rfl fun a w s=>nl ?_))
 refine se (rg (sq s (mv (t rfl)) rfl fun a w s=>sq s (ne (t rfl) ci) rfl fun a w s=>nl ?_))
 refine cm s rfl hm (fun hb hm=>?_) (fun hb hm=>?_)
 ·refine se (rg (sq s (mv (t rfl)) rfl fun a w s=>sq s (saq cq) rfl fun a w s=>sq s (sa (t rfl)) rfl fun a w s=>nl ?_))
  obtain rfl:=si hm
  refine wpIn_ret ?_
  exact rn hD s rfl (rv2 (rt rfl) (rt rfl))
 ·refine wpIn_skip ?_
  obtain ⟨x2,hx2,hm⟩:=bs hm
  refine se (flow s (m:=10) (.cons (.cons (.cons (.cons (.cons (.cons (.cons (.cons (.cons (.cons .nil rfl (ld (t rfl))) rfl (ld (t rfl))) rfl (cc rfl (oc (t rfl) on) (s300 f _ _ hx2))) rfl (fa (f:=Control.Actuators) (t rfl))) rfl (ld (t rfl))) rfl (ml ci (t rfl))) rfl (fa (f:=Control.Inputs) (t rfl))) rfl (ld (t rfl))) rfl (ln (t rfl))) rfl (ad (t rfl) (t rfl))) (by kernel_rfl) rfl rfl fun a w s=>opz (d:=15) [1005,1006,1007,1008,1009] s rfl (fun _=>rfl) rfl fun y3 s=>opv25 (d:=13) 1010 1011 1012 1013 s rfl rfl fun c4 c5 c6 c7 s=>sq s (bla (L:=[(0,5),(5,5),(10,1)]) (z:=[(.int .i64 (0:Int)),(.slice none 0 0),(.slice none 0 0),(.slice none 0 0),(.slice none 0 0),(.slice none 0 0),(.slice none 0 0),(.slice none 0 0),(.slice none 0 0),(.slice none 0 0),(.int .i64 (0:Int))]) (res:=[(.int .i64 v0.Actuators),c4,c5,c6,c7,y3.1,y3.2.1,y3.2.2.1,y3.2.2.2.1,y3.2.2.2.2,(.int .i64 (wr ((wr ((2:Int) * (v0).Actuators)) + (((v0).Inputs).length:Int))))]) rfl (by kernel_rfl) (by kernel_rfl) (pda (t rfl) (pda (t rfl) (pdq (iq (t rfl)) (ocr rfl) pdn))) rfl rfl) rfl fun a w s=>sqr 1014 s (bxa (t rfl)) rfl rfl fun b8 a w s=>sq s (saq (t rfl)) rfl fun a w s=>sq s (sa ci) rfl fun a w s=>nl ?_)
  obtain rfl:=si hm
  refine wpIn_ret ?_
  exact rz [1014,1010,1011,1012,1013,1005,1006,1007,1008,1009] (b8,c4,c5,c6,c7,y3.1,y3.2.1,y3.2.2.1,y3.2.2.2.1,y3.2.2.2.2) hM hD s rfl (rv2 (rt rfl) (rt rfl)) (kc rfl (kc rfl (kc rfl (kc rfl (kc rfl (kc rfl (kc rfl (kc rfl (kc rfl (kc rfl kn)))))))))) rfl
def m330 (f:Nat) (g320:Expr→(List Bool)→Option (Bool)) (v0:Expr) (v1:List Bool):Option (Bool):=(g320 v0 v1).bind fun x1=>some (!x1)
set_option maxRecDepth 100000 in
theorem s330 (f:Nat) (g320:Expr→(List Bool)→Option (Bool)) (ih320:∀ (v0:Expr) (v1:List Bool) (r:Bool),g320 v0 v1=some r→Sp Tryz.prog 320 [Va (v0),Va (v1)] (Va (r))) (v0:Expr) (v1:List Bool) (r:Bool) (hm:m330 f g320 v0 v1=some r):Sp Tryz.prog 330 [Va (v0),Pt (v1)] (Va (r)):=by
 unfold m330 at hm
 refine ens Tryz.func330 (by kernel_rfl) rfl Tryz.ntmps330 rfl rfl fun M w_0 a hM hD s=>?_
 refine se (rg (sq s (bx (t rfl)) rfl fun a w s=>sq s (sa cb) rfl fun a w s=>nl ?_))
 obtain ⟨x1,hx1,hm⟩:=bs hm
 refine se (rg (sq s (ld (t rfl)) rfl fun a w s=>sq s (ld (t rfl)) rfl fun a w s=>sq s (cc rfl (oc (t rfl) (oc (t rfl) on)) (ih320 _ _ _ hx1)) rfl fun a w s=>sq s (nt (t rfl)) rfl fun a w s=>sq s (sa (t rfl)) rfl fun a w s=>nl ?_))
 obtain rfl:=si hm
 refine wpIn_ret ?_
 exact rn hD s rfl (rv1 (rt rfl))
def m333_l1 (g320:Expr→(List Bool)→Option (Bool)) (f:Nat) (v0:List Expr) (v1:List Bool):Nat→Int→Option (Lo (Int) (Int))
 | 0,_=>none
 | n+1,z1=>(bif (decide (z1 < (v0.length:Int))) then (idx v0 z1).bind fun x3=>(m330 f g320 x3 v1).bind fun x4=>(bif x4 then some (.ret z1) else m333_l1 g320 f v0 v1 n (wr (z1 + (1:Int)))) else some (.brk z1))
def m333 (f:Nat) (g320:Expr→(List Bool)→Option (Bool)) (v0:List Expr) (v1:List Bool):Option (Int):=((m333_l1 g320 f v0 v1 f (0:Int)).bind fun o2=>match o2 with | .brk o2s=>some (-1:Int) | .ret r=>some r)
set_option maxRecDepth 100000 in
theorem s333 (f:Nat) (g320:Expr→(List Bool)→Option (Bool)) (ih320:∀ (v0:Expr) (v1:List Bool) (r:Bool),g320 v0 v1=some r→Sp Tryz.prog 320 [Va (v0),Va (v1)] (Va (r))) (n0:Value) (v0:List Expr) (v1:List Bool) (r:Int) (hm:m333 f g320 v0 v1=some r):Cg Tryz.prog 333 [Va (v0),Qv (fv 330 [] [n0])] [At n0 (Pt (v1))] (Rz (fun x:Unit=>Va (r)) (fun x=>[At n0 (Pt (v1))])):=by
 unfold m333 at hm
 refine eng Tryz.func333 (by kernel_rfl) rfl Tryz.ntmps333 rfl rfl fun M w_0 a hM hD s=>?_
 refine se (rg (sq s (sa ci) rfl fun a w s=>nl ?_))
 refine se ?_
 refine se (rg (sq s (mv (t rfl)) rfl fun a w s=>sq s (ln (t rfl)) rfl fun a w s=>sq s (mv ci) rfl fun a w s=>nl ?_))
 obtain ⟨o2,hoo2,hko2⟩:=bs hm
 refine lcI o2 (fun o2s a w=>St M w_0 19 [(0,Va (v0)),(1,Qv (fv 330 [] [n0])),(4,Va ((0:Int))),(7,Va ((v0.length:Int))),(8,Va (o2s)),(1000,At n0 (Pt (v1)))] a w) ?_ fun o2s a w ho s=>?_
 ·refine wpIn_block ?_
  refine loI (fun n z1=>m333_l1 g320 f v0 v1 n z1) o2 (fun z1 a w=>St M w_0 19 [(0,Va (v0)),(1,Qv (fv 330 [] [n0])),(4,Va ((0:Int))),(7,Va ((v0.length:Int))),(8,Va (z1)),(1000,At n0 (Pt (v1)))] a w) f (0:Int) (s.pick [0,1,4,7,8,1000]) hoo2 (fun _=>rfl) fun n z1 a w hm s=>?_
  replace hm:m333_l1 g320 f v0 v1 (n + 1) z1=some o2:=hm
  unfold m333_l1 at hm
  refine se (rg (sq s (lt (t rfl) (t rfl)) rfl fun a w s=>nl ?_))
  refine se ?_
  refine cm s rfl hm (fun hb hm=>?_) (fun hb hm=>?_)
  ·refine wpIn_skip ?_
   refine se ?_
   refine wpIn_block ?_
   refine se (rg (sq s (mv (t rfl)) rfl fun a w s=>sq s (sa (t rfl)) rfl fun a w s=>nl ?_))
   obtain ⟨x3,hx3,hm⟩:=bs hm
   obtain ⟨x4,hx4,hm⟩:=bs hm
   refine se (rg (sq s (mvq (t rfl)) rfl fun a w s=>sq s (mv (t rfl)) rfl fun a w s=>sq s (mv (t rfl)) rfl fun a w s=>sq s (ix (t rfl) (t rfl) hx3) rfl fun a w s=>sq s (ld (t rfl)) rfl fun a w s=>sq s (ccv (t rfl) rfl (oc (t rfl) on) vn (va (k:=1000) rfl vn) (s330 f g320 ih320 _ _ _ hx4)) rfl fun a w s=>nl ?_))
   refine cm s rfl hm (fun hb hm=>?_) (fun hb hm=>?_)
   ·refine se (rg (sq s (mv (t rfl)) rfl fun a w s=>sq s (sa (t rfl)) rfl fun a w s=>nl ?_))
    obtain rfl:=si hm
    replace hm:=hko2
    dsimp only at hm
    obtain rfl:=si hm
    refine wpIn_ret ?_
    exact rz [1000] () hM hD s rfl (rv1 (rt rfl)) (kc rfl kn) rfl
   ·refine wpIn_skip ?_
    refine rg (sq s (ad (t rfl) ci) rfl fun a w s=>sq s (mv (t rfl)) rfl fun a w s=>nl ?_)
    exact ⟨_,hm,s.pick [0,1,4,7,8,1000]⟩
  ·refine wpIn_exit ?_
   exact ⟨_,(si hm).symm,s.pick [0,1,4,7,8,1000]⟩
 ·subst ho
  replace hm:=hko2
  dsimp only at hm
  refine se (rg (sq s (sa ci) rfl fun a w s=>nl ?_))
  obtain rfl:=si hm
  refine wpIn_ret ?_
  exact rz [1000] () hM hD s rfl (rv1 (rt rfl)) (kc rfl kn) rfl
def m329 (f:Nat) (g320:Expr→(List Bool)→Option (Bool)) (v0:List Expr) (v1:List Bool):Option (Bool):=(m333 f g320 v0 v1).bind fun x1=>some (decide (x1≥(0:Int)))
set_option maxRecDepth 100000 in
theorem s329 (f:Nat) (g320:Expr→(List Bool)→Option (Bool)) (ih320:∀ (v0:Expr) (v1:List Bool) (r:Bool),g320 v0 v1=some r→Sp Tryz.prog 320 [Va (v0),Va (v1)] (Va (r))) (n0:Value) (v0:List Expr) (v1:List Bool) (r:Bool) (hm:m329 f g320 v0 v1=some r):Cg Tryz.prog 329 [Va (v0),Qv (fv 330 [] [n0])] [At n0 (Pt (v1))] (Rz (fun x:Unit=>Va (r)) (fun x=>[At n0 (Pt (v1))])):=by
 unfold m329 at hm
 refine eng Tryz.func329 (by kernel_rfl) rfl Tryz.ntmps329 rfl rfl fun M w_0 a hM hD s=>?_
 refine se (rg (sq s (sa cb) rfl fun a w s=>nl ?_))
 obtain ⟨x1,hx1,hm⟩:=bs hm
 refine se (rg (sq s (mv (t rfl)) rfl fun a w s=>sq s (mvq (t rfl)) rfl fun a w s=>cgv [1000] [1000] hM s qf rfl (oc (t rfl) (oc (t rfl) on)) vn vn (s333 f g320 ih320 n0 _ _ _ hx1) (kc rfl kn) rfl (fun _=>rfl) rfl rfl rfl fun y2 a w s=>sq s (ge (t rfl) ci) rfl fun a w s=>sq s (sa (t rfl)) rfl fun a w s=>nl ?_))
 obtain rfl:=si hm
 refine wpIn_ret ?_
 exact rz [1000] () hM hD s rfl (rv1 (rt rfl)) (kc rfl kn) rfl
def m331 (f:Nat) (g320:Expr→(List Bool)→Option (Bool)) (v0:Expr) (v1:List Bool):Option (Bool):=(g320 v0 v1).bind fun x1=>some x1
set_option maxRecDepth 100000 in
theorem s331 (f:Nat) (g320:Expr→(List Bool)→Option (Bool)) (ih320:∀ (v0:Expr) (v1:List Bool) (r:Bool),g320 v0 v1=some r→Sp Tryz.prog 320 [Va (v0),Va (v1)] (Va (r))) (v0:Expr) (v1:List Bool) (r:Bool) (hm:m331 f g320 v0 v1=some r):Sp Tryz.prog 331 [Va (v0),Pt (v1)] (Va (r)):=by
 unfold m331 at hm
 refine ens Tryz.func331 (by kernel_rfl) rfl Tryz.ntmps331 rfl rfl fun M w_0 a hM hD s=>?_
 refine se (rg (sq s (bx (t rfl)) rfl fun a w s=>sq s (sa cb) rfl fun a w s=>nl ?_))
 obtain ⟨x1,hx1,hm⟩:=bs hm
 refine se (rg (sq s (ld (t rfl)) rfl fun a w s=>sq s (ld (t rfl)) rfl fun a w s=>sq s (cc rfl (oc (t rfl) (oc (t rfl) on)) (ih320 _ _ _ hx1)) rfl fun a w s=>sq s (sa (t rfl)) rfl fun a w s=>nl ?_))
 obtain rfl:=si hm
 refine wpIn_ret ?_
 exact rn hD s rfl (rv1 (rt rfl))
def m333_1_l1 (g320:Expr→(List Bool)→Option (Bool)) (f:Nat) (v0:List Expr) (v1:List Bool):Nat→Int→Option (Lo (Int) (Int))
 | 0,_=>none
 | n+1,z1=>(bif (decide (z1 < (v0.length:Int))) then (idx v0 z1).bind fun x3=>(m331 f g320 x3 v1).bind fun x4=>(bif x4 then some (.ret z1) else m333_1_l1 g320 f v0 v1 n (wr (z1 + (1:Int)))) else some (.brk z1))
def m333_1 (f:Nat) (g320:Expr→(List Bool)→Option (Bool)) (v0:List Expr) (v1:List Bool):Option (Int):=((m333_1_l1 g320 f v0 v1 f (0:Int)).bind fun o2=>match o2 with | .brk o2s=>some (-1:Int) | .ret r=>some r)
set_option maxRecDepth 100000 in
theorem s333_1 (f:Nat) (g320:Expr→(List Bool)→Option (Bool)) (ih320:∀ (v0:Expr) (v1:List Bool) (r:Bool),g320 v0 v1=some r→Sp Tryz.prog 320 [Va (v0),Va (v1)] (Va (r))) (n0:Value) (v0:List Expr) (v1:List Bool) (r:Int) (hm:m333_1 f g320 v0 v1=some r):Cg Tryz.prog 333 [Va (v0),Qv (fv 331 [] [n0])] [At n0 (Pt (v1))] (Rz (fun x:Unit=>Va (r)) (fun x=>[At n0 (Pt (v1))])):=by
 unfold m333_1 at hm
 refine eng Tryz.func333 (by kernel_rfl) rfl Tryz.ntmps333 rfl rfl fun M w_0 a hM hD s=>?_
 refine se (rg (sq s (sa ci) rfl fun a w s=>nl ?_))
 refine se ?_
 refine se (rg (sq s (mv (t rfl)) rfl fun a w s=>sq s (ln (t rfl)) rfl fun a w s=>sq s (mv ci) rfl fun a w s=>nl ?_))
 obtain ⟨o2,hoo2,hko2⟩:=bs hm
 refine lcI o2 (fun o2s a w=>St M w_0 19 [(0,Va (v0)),(1,Qv (fv 331 [] [n0])),(4,Va ((0:Int))),(7,Va ((v0.length:Int))),(8,Va (o2s)),(1000,At n0 (Pt (v1)))] a w) ?_ fun o2s a w ho s=>?_
 ·refine wpIn_block ?_
  refine loI (fun n z1=>m333_1_l1 g320 f v0 v1 n z1) o2 (fun z1 a w=>St M w_0 19 [(0,Va (v0)),(1,Qv (fv 331 [] [n0])),(4,Va ((0:Int))),(7,Va ((v0.length:Int))),(8,Va (z1)),(1000,At n0 (Pt (v1)))] a w) f (0:Int) (s.pick [0,1,4,7,8,1000]) hoo2 (fun _=>rfl) fun n z1 a w hm s=>?_
  replace hm:m333_1_l1 g320 f v0 v1 (n + 1) z1=some o2:=hm
  unfold m333_1_l1 at hm
  refine se (rg (sq s (lt (t rfl) (t rfl)) rfl fun a w s=>nl ?_))
  refine se ?_
  refine cm s rfl hm (fun hb hm=>?_) (fun hb hm=>?_)
  ·refine wpIn_skip ?_
   refine se ?_
   refine wpIn_block ?_
   refine se (rg (sq s (mv (t rfl)) rfl fun a w s=>sq s (sa (t rfl)) rfl fun a w s=>nl ?_))
   obtain ⟨x3,hx3,hm⟩:=bs hm
   obtain ⟨x4,hx4,hm⟩:=bs hm
   refine se (rg (sq s (mvq (t rfl)) rfl fun a w s=>sq s (mv (t rfl)) rfl fun a w s=>sq s (mv (t rfl)) rfl fun a w s=>sq s (ix (t rfl) (t rfl) hx3) rfl fun a w s=>sq s (ld (t rfl)) rfl fun a w s=>sq s (ccv (t rfl) rfl (oc (t rfl) on) vn (va (k:=1000) rfl vn) (s331 f g320 ih320 _ _ _ hx4)) rfl fun a w s=>nl ?_))
   refine cm s rfl hm (fun hb hm=>?_) (fun hb hm=>?_)
   ·refine se (rg (sq s (mv (t rfl)) rfl fun a w s=>sq s (sa (t rfl)) rfl fun a w s=>nl ?_))
    obtain rfl:=si hm
    replace hm:=hko2
    dsimp only at hm
    obtain rfl:=si hm
    refine wpIn_ret ?_
    exact rz [1000] () hM hD s rfl (rv1 (rt rfl)) (kc rfl kn) rfl
   ·refine wpIn_skip ?_
    refine rg (sq s (ad (t rfl) ci) rfl fun a w s=>sq s (mv (t rfl)) rfl fun a w s=>nl ?_)
    exact ⟨_,hm,s.pick [0,1,4,7,8,1000]⟩
  ·refine wpIn_exit ?_
   exact ⟨_,(si hm).symm,s.pick [0,1,4,7,8,1000]⟩
 ·subst ho
  replace hm:=hko2
  dsimp only at hm
  refine se (rg (sq s (sa ci) rfl fun a w s=>nl ?_))
  obtain rfl:=si hm
  refine wpIn_ret ?_
  exact rz [1000] () hM hD s rfl (rv1 (rt rfl)) (kc rfl kn) rfl
def m329_1 (f:Nat) (g320:Expr→(List Bool)→Option (Bool)) (v0:List Expr) (v1:List Bool):Option (Bool):=(m333_1 f g320 v0 v1).bind fun x1=>some (decide (x1≥(0:Int)))
set_option maxRecDepth 100000 in
theorem s329_1 (f:Nat) (g320:Expr→(List Bool)→Option (Bool)) (ih320:∀ (v0:Expr) (v1:List Bool) (r:Bool),g320 v0 v1=some r→Sp Tryz.prog 320 [Va (v0),Va (v1)] (Va (r))) (n0:Value) (v0:List Expr) (v1:List Bool) (r:Bool) (hm:m329_1 f g320 v0 v1=some r):Cg Tryz.prog 329 [Va (v0),Qv (fv 331 [] [n0])] [At n0 (Pt (v1))] (Rz (fun x:Unit=>Va (r)) (fun x=>[At n0 (Pt (v1))])):=by
 unfold m329_1 at hm
 refine eng Tryz.func329 (by kernel_rfl) rfl Tryz.ntmps329 rfl rfl fun M w_0 a hM hD s=>?_
 refine se (rg (sq s (sa cb) rfl fun a w s=>nl ?_))
 obtain ⟨x1,hx1,hm⟩:=bs hm
 refine se (rg (sq s (mv (t rfl)) rfl fun a w s=>sq s (mvq (t rfl)) rfl fun a w s=>cgv [1000] [1000] hM s qf rfl (oc (t rfl) (oc (t rfl) on)) vn vn (s333_1 f g320 ih320 n0 _ _ _ hx1) (kc rfl kn) rfl (fun _=>rfl) rfl rfl rfl fun y2 a w s=>sq s (ge (t rfl) ci) rfl fun a w s=>sq s (sa (t rfl)) rfl fun a w s=>nl ?_))
 obtain rfl:=si hm
 refine wpIn_ret ?_
 exact rz [1000] () hM hD s rfl (rv1 (rt rfl)) (kc rfl kn) rfl
def m320:Nat→Expr→(List Bool)→Option (Bool)
 | 0,_,_=>none
 | f+1,v0,v1=>(bif ((v0).Op == (0:Int)) then some ((v0).Index == (1:Int)) else (bif ((v0).Op == (1:Int)) then (idx v1 ((v0).Index)).bind fun x1=>some x1 else (bif ((v0).Op == (2:Int)) then (idx ((v0).Args) (0:Int)).bind fun x2=>((m320 f) x2 v1).bind fun x3=>some (!x3) else (bif ((v0).Op == (3:Int)) then (m329 f (m320 f) ((v0).Args) v1).bind fun x5=>some (!x5) else (m329_1 f (m320 f) ((v0).Args) v1).bind fun x8=>some x8))))
set_option maxRecDepth 100000 in
theorem s320:∀ (f:Nat) (v0:Expr) (v1:List Bool) (r:Bool),m320 f v0 v1=some r→Sp Tryz.prog 320 [Va (v0),Va (v1)] (Va (r)):=by
 intro f
 induction f with
 | zero=>intro v0 v1 r hm;cases hm
 | succ f ih=>
 intro v0 v1 r hm
 unfold m320 at hm
 refine ens Tryz.func320 (by kernel_rfl) rfl Tryz.ntmps320 rfl rfl fun M w_0 a hM hD s=>?_
 refine se (rg (sq s (bx (t rfl)) rfl fun a w s=>sq s (bx (t rfl)) rfl fun a w s=>sq s (sa cb) rfl fun a w s=>nl ?_))
 refine se ?_
 refine se (rg (sq s (fa (f:=Expr.Op) (t rfl)) rfl fun a w s=>sq s (ld (t rfl)) rfl fun a w s=>nl ?_))
 refine wpIn_block ?_
 refine se (rg (sq s (eq (t rfl) ci) rfl fun a w s=>sq s (sa (t rfl)) rfl fun a w s=>nl ?_))
 refine cm s rfl hm (fun hb hm=>?_) (fun hb hm=>?_)
 ·refine se (rg (sq s (fa (f:=Expr.Index) (t rfl)) rfl fun a w s=>sq s (ld (t rfl)) rfl fun a w s=>sq s (eq (t rfl) ci) rfl fun a w s=>sq s (sa (t rfl)) rfl fun a w s=>nl ?_))
  obtain rfl:=si hm
  refine wpIn_ret ?_
  exact rn hD s rfl (rv1 (rt rfl))
 ·refine se (rg (sq s (eq (t rfl) ci) rfl fun a w s=>sq s (sa (t rfl)) rfl fun a w s=>nl ?_))
  refine cm s rfl hm (fun hb hm=>?_) (fun hb hm=>?_)
  ·obtain ⟨x1,hx1,hm⟩:=bs hm
   refine se (rg (sq s (ld (t rfl)) rfl fun a w s=>sq s (fa (f:=Expr.Index) (t rfl)) rfl fun a w s=>sq s (ld (t rfl)) rfl fun a w s=>sq s (ix (t rfl) (t rfl) hx1) rfl fun a w s=>sq s (ld (t rfl)) rfl fun a w s=>sq s (sa (t rfl)) rfl fun a w s=>nl ?_))
   obtain rfl:=si hm
   refine wpIn_ret ?_
   exact rn hD s rfl (rv1 (rt rfl))
  ·refine se (rg (sq s (eq (t rfl) ci) rfl fun a w s=>sq s (sa (t rfl)) rfl fun a w s=>nl ?_))
   refine cm s rfl hm (fun hb hm=>?_) (fun hb hm=>?_)
   ·obtain ⟨x2,hx2,hm⟩:=bs hm
    obtain ⟨x3,hx3,hm⟩:=bs hm
    refine se (flow s (m:=7) (.cons (.cons (.cons (.cons (.cons (.cons (.cons .nil rfl (fa (f:=Expr.Args) (t rfl))) rfl (ld (t rfl))) rfl (ix (t rfl) ci hx2)) rfl (ld (t rfl))) rfl (ld (t rfl))) rfl (cc rfl (oc (t rfl) (oc (t rfl) on)) (ih _ _ _ hx3))) rfl (nt (t rfl))) (by kernel_rfl) rfl rfl fun a w s=>sq s (sa (t rfl)) rfl fun a w s=>nl ?_)
    obtain rfl:=si hm
    refine wpIn_ret ?_
    exact rn hD s rfl (rv1 (rt rfl))
   ·refine se (rg (sq s (eq (t rfl) ci) rfl fun a w s=>sq s (sa (t rfl)) rfl fun a w s=>nl ?_))
    refine cm s rfl hm (fun hb hm=>?_) (fun hb hm=>?_)
    ·obtain ⟨x5,hx5,hm⟩:=bs hm
     refine se (rg (sq s (fa (f:=Expr.Args) (t rfl)) rfl fun a w s=>sq s (ld (t rfl)) rfl fun a w s=>nmk (d:=3) 1000 s rfl rfl fun c4 s=>sq s (mkf rfl rfl qn (qc (t rfl) qn)) rfl fun a w s=>cgv [1000] [1000] hM s qf rfl (oc (t rfl) (oc (t rfl) on)) vn vn (s329 f (m320 f) ih c4 _ _ _ hx5) (kc rfl kn) rfl (fun _=>rfl) rfl rfl rfl fun y6 a w s=>sq s (nt (t rfl)) rfl fun a w s=>sq s (sa (t rfl)) rfl fun a w s=>nl ?_))
     obtain rfl:=si hm
     refine wpIn_ret ?_
     exact rn hD s rfl (rv1 (rt rfl))
    ·refine wpIn_skip ?_
     obtain ⟨x8,hx8,hm⟩:=bs hm
     refine se (rg (sq s (fa (f:=Expr.Args) (t rfl)) rfl fun a w s=>sq s (ld (t rfl)) rfl fun a w s=>nmk (d:=3) 1001 s rfl rfl fun c7 s=>sq s (mkf rfl rfl qn (qc (t rfl) qn)) rfl fun a w s=>cgv [1001] [1001] hM s qf rfl (oc (t rfl) (oc (t rfl) on)) vn vn (s329_1 f (m320 f) ih c7 _ _ _ hx8) (kc rfl kn) rfl (fun _=>rfl) rfl rfl rfl fun y9 a w s=>sq s (sa (t rfl)) rfl fun a w s=>nl ?_))
     obtain rfl:=si hm
     refine wpIn_ret ?_
     exact rn hD s rfl (rv1 (rt rfl))
def m325_l2 (v0:List (List Bool)):Nat→(Int×(List Bool))→Option (Int×(List Bool))
 | 0,_=>none
 | n+1,z6=>(bif (decide (z6.1 < (v0.length:Int))) then (idx v0 z6.1).bind fun x8=>(app z6.2 x8).bind fun x9=>m325_l2 v0 n ((wr (z6.1 + (1:Int))),x9) else some (z6.1,z6.2))
def m325_l1 (v0:List (List Bool)):Nat→(Int×Int)→Option (Int×Int)
 | 0,_=>none
 | n+1,z1=>(bif (decide (z1.2 < (v0.length:Int))) then (idx v0 z1.2).bind fun x3=>(bif (decide ((wr (z1.1 + (x3.length:Int))) < (0:Int))) then none else m325_l1 v0 n ((wr (z1.1 + (x3.length:Int))),(wr (z1.2 + (1:Int))))) else some (z1.1,z1.2))
def m325 (f:Nat) (v0:List (List Bool)):Option ((List Bool)):=(m325_l1 v0 f ((0:Int),(0:Int))).bind fun o2s=>(m332 f o2s.1).bind fun x4=>(m325_l2 v0 f ((0:Int),([]:List Bool))).bind fun o7s=>some o7s.2
set_option maxRecDepth 100000 in
theorem s325 (f:Nat) (v0:List (List Bool)) (r:(List Bool)) (hm:m325 f v0=some r):Sp Tryz.prog 325 [Va (v0)] (Rz (fun x:Value=>Qv x) (fun x=>[Ow 4 x (r)])):=by
 unfold m325 at hm
 refine ens Tryz.func325 (by kernel_rfl) rfl Tryz.ntmps325 rfl rfl fun M w_0 a hM hD s=>?_
 refine se (rg (sq s (saq cq) rfl fun a w s=>nl ?_))
 refine se (rg (sq s (sa ci) rfl fun a w s=>nl ?_))
 refine se ?_
 refine se (rg (sq s (mv (t rfl)) rfl fun a w s=>sq s (ln (t rfl)) rfl fun a w s=>sq s (mv ci) rfl fun a w s=>nl ?_))
 obtain ⟨o2s,hoo2,hko2⟩:=bs hm
 refine cpI (fun a w=>St M w_0 36 [(0,Va (v0)),(2,Qv (.slice none 0 0)),(3,Va (o2s.1)),(9,Va (v0)),(10,Va ((v0.length:Int))),(11,Va (o2s.2))] a w) ?_ fun a w s=>?_
 ·refine wpIn_block ?_
  refine loI (fun n z1=>m325_l1 v0 n z1) o2s (fun z1 a w=>St M w_0 36 [(0,Va (v0)),(2,Qv (.slice none 0 0)),(3,Va (z1.1)),(9,Va (v0)),(10,Va ((v0.length:Int))),(11,Va (z1.2))] a w) f ((0:Int),(0:Int)) (s.pick [0,2,3,9,10,11]) hoo2 (fun _=>rfl) fun n z1 a w hm s=>?_
  replace hm:m325_l1 v0 (n + 1) z1=some o2s:=hm
  unfold m325_l1 at hm
  refine se (rg (sq s (lt (t rfl) (t rfl)) rfl fun a w s=>nl ?_))
  refine se ?_
  refine cm s rfl hm (fun hb hm=>?_) (fun hb hm=>?_)
  ·refine wpIn_skip ?_
   refine se ?_
   refine wpIn_block ?_
   obtain ⟨x3,hx3,hm⟩:=bs hm
   refine se (rg (sq s (ix (t rfl) (t rfl) hx3) rfl fun a w s=>sq s (ld (t rfl)) rfl fun a w s=>sq s (sa (t rfl)) rfl fun a w s=>nl ?_))
   refine se (rg (sq s (mv (t rfl)) rfl fun a w s=>sq s (mv (t rfl)) rfl fun a w s=>sq s (ln (t rfl)) rfl fun a w s=>sq s (ad (t rfl) (t rfl)) rfl fun a w s=>sq s (sa (t rfl)) rfl fun a w s=>nl ?_))
   refine se (rg (sq s (mv (t rfl)) rfl fun a w s=>sq s (lt (t rfl) ci) rfl fun a w s=>nl ?_))
   refine cm s rfl hm (fun hb hm=>?_) (fun hb hm=>?_)
   ·cases hm
   ·refine wpIn_skip ?_
    refine rg (sq s (ad (t rfl) ci) rfl fun a w s=>sq s (mv (t rfl)) rfl fun a w s=>nl ?_)
    exact ⟨_,hm,s.pick [0,2,3,9,10,11]⟩
  ·refine wpIn_exit ?_
   obtain rfl:=si hm
   exact s.pick [0,2,3,9,10,11]
 ·replace hm:=hko2
  obtain ⟨x4,hx4,hm⟩:=bs hm
  refine se (rg (sq s (mv (t rfl)) rfl fun a w s=>sqz [1000] hM s (cc rfl (oc cq (oc (t rfl) on)) (s332 f _ _ hx4)) (fun _=>rfl) rfl rfl fun y5 a w s=>sq s (saq (t rfl)) rfl fun a w s=>nl ?_))
  refine se ?_
  refine se (rg (sq s (mv (t rfl)) rfl fun a w s=>sq s (ln (t rfl)) rfl fun a w s=>sq s (mv ci) rfl fun a w s=>nl ?_))
  obtain ⟨o7s,hoo7,hko7⟩:=bs hm
  refine cpI (fun a w=>∃ (o7sc0:Value),St M w_0 36 [(0,Va (v0)),(2,Qv (.slice none 0 0)),(3,Va (o2s.1)),(6,Qv o7sc0),(9,Va (v0)),(10,Va ((v0.length:Int))),(11,Va (o2s.2)),(25,Va (v0)),(26,Va ((v0.length:Int))),(27,Va (o7s.1)),(1000,Ow 4 o7sc0 (o7s.2))] a w) ?_ fun a w s=>?_
  ·refine wpIn_block ?_
   refine loI (fun n z6=>m325_l2 v0 n z6) o7s (fun z6 a w=>∃ (z6c0:Value),St M w_0 36 [(0,Va (v0)),(2,Qv (.slice none 0 0)),(3,Va (o2s.1)),(6,Qv z6c0),(9,Va (v0)),(10,Va ((v0.length:Int))),(11,Va (o2s.2)),(25,Va (v0)),(26,Va ((v0.length:Int))),(27,Va (z6.1)),(1000,Ow 4 z6c0 (z6.2))] a w) f ((0:Int),([]:List Bool)) ⟨y5,s.pick [0,2,3,6,9,10,11,25,26,27,1000]⟩ hoo7 (fun _=>rfl) fun n z6 a w hm s=>?_
   obtain ⟨z6c0,s⟩:=s
   replace hm:m325_l2 v0 (n + 1) z6=some o7s:=hm
   unfold m325_l2 at hm
   refine se (rg (sq s (lt (t rfl) (t rfl)) rfl fun a w s=>nl ?_))
   refine se ?_
   refine cm s rfl hm (fun hb hm=>?_) (fun hb hm=>?_)
   ·refine wpIn_skip ?_
    refine se ?_
    refine wpIn_block ?_
    obtain ⟨x8,hx8,hm⟩:=bs hm
    refine se (rg (sq s (ix (t rfl) (t rfl) hx8) rfl fun a w s=>sq s (ld (t rfl)) rfl fun a w s=>sq s (sa (t rfl)) rfl fun a w s=>nl ?_))
    obtain ⟨x9,hx9,hm⟩:=bs hm
    refine rg (sq s (mvq (t rfl)) rfl fun a w s=>sq s (mv (t rfl)) rfl fun a w s=>apd (α:=Bool) (k:=1000) s (t rfl) rfl (t rfl) hx9 rfl rfl fun c10 a w s=>sq s (saq (t rfl)) rfl fun a w s=>nl ?_)
    refine rg (sq s (ad (t rfl) ci) rfl fun a w s=>sq s (mv (t rfl)) rfl fun a w s=>nl ?_)
    exact ⟨_,hm,⟨c10,s.pick [0,2,3,6,9,10,11,25,26,27,1000]⟩⟩
   ·refine wpIn_exit ?_
    obtain rfl:=si hm
    exact ⟨z6c0,s.pick [0,2,3,6,9,10,11,25,26,27,1000]⟩
  ·obtain ⟨o7sc0,s⟩:=s
   replace hm:=hko7
   refine se (rg (sq s (mvq (t rfl)) rfl fun a w s=>sq s (saq (t rfl)) rfl fun a w s=>nl ?_))
   obtain rfl:=si hm
   refine wpIn_ret ?_
   exact rz [1000] o7sc0 hM hD s rfl (rv1 (rt rfl)) (kc rfl kn) rfl
def m328 (f:Nat) (v0:Change) (v1:Bool) (v2:Bool):Option (Change):=(bif (!v1) then some (⟨false,(0:Int),false⟩:Change) else (bif ((v0).timer == (0:Int)) then some { v0 with timer:=(1:Int) } else some v0).bind fun z3=>some z3)
set_option maxRecDepth 100000 in
theorem s328 (f:Nat) (v0:Change) (v1:Bool) (v2:Bool) (r:Change) (hm:m328 f v0 v1 v2=some r):Sp Tryz.prog 328 [Va (v0),Va (v1),Va (v2)] (Va (r)):=by
 unfold m328 at hm
 refine ens Tryz.func328 (by kernel_rfl) rfl Tryz.ntmps328 rfl rfl fun M w_0 a hM hD s=>?_
 refine se (rg (sqb 1000 s (bxm (t rfl)) rfl rfl fun b1 a w s=>sqb 1001 s (al (z:=(⟨false,(0:Int),false⟩:Change))) rfl rfl fun b2 a w s=>nl ?_))
 refine se ?_
 refine wpIn_block ?_
 refine se (rg (sq s (mv (t rfl)) rfl fun a w s=>sq s (nt (t rfl)) rfl fun a w s=>sq s (sa (t rfl)) rfl fun a w s=>nl ?_))
 refine cm s rfl hm (fun hb hm=>?_) (fun hb hm=>?_)
 ·refine se (rg (sq s (bl381_ ) rfl fun a w s=>sw (K:=1001) s (t rfl) rfl (t rfl) rfl fun w s=>nl ?_))
  obtain rfl:=si hm
  refine wpIn_ret ?_
  exact rn hD s rfl (rv1 (rc (K:=1001) rfl rfl))
 ·refine se (rg (sq s (fm_ (off:=1) (m:=0) (q:=1) (t rfl) (by kernel_rfl) rfl) rfl fun a w s=>sq s (lf (K:=1000) (f:=Change.timer) (t rfl) rfl) rfl fun a w s=>sq s (eq (t rfl) ci) rfl fun a w s=>sq s (sa (t rfl)) rfl fun a w s=>nl ?_))
  obtain ⟨z3,hz3,hkz3⟩:=bs hm
  refine cpI (fun a w=>St M w_0 17 [(0,Va (v0)),(1,Va (v1)),(2,Va (v2)),(3,Qv (pb b1 0)),(6,Qv (pb b2 0)),(1000,Mg b1 (z3)),(1001,Mg b2 ((⟨false,(0:Int),false⟩:Change)))] a w) ?_ fun a w s=>?_
  ·refine cm s rfl hz3 (fun hb hm=>?_) (fun hb hm=>?_)
   ·refine rg (sq s (fm_ (off:=1) (m:=0) (q:=1) (t rfl) (by kernel_rfl) rfl) rfl fun a w s=>sf (γ:=Change) (K:=1000) s (t rfl) rfl ci fun w s=>nl ?_)
    obtain rfl:=si hm
    exact s.pick [0,1,2,3,6,1000,1001]
   ·refine wpIn_skip ?_
    obtain rfl:=si hm
    exact s.pick [0,1,2,3,6,1000,1001]
  ·replace hm:=hkz3
   refine se (rg (sq s (lm (K:=1000) (t rfl) rfl) rfl fun a w s=>sw (K:=1001) s (t rfl) rfl (t rfl) rfl fun w s=>nl ?_))
   obtain rfl:=si hm
   refine wpIn_ret ?_
   exact rn hD s rfl (rv1 (rc (K:=1001) rfl rfl))
def m326 (f:Nat) (v0:Change) (v1:Bool) (v2:Bool):Option (Change):=some v0
set_option maxRecDepth 100000 in
theorem s326 (f:Nat) (v0:Change) (v1:Bool) (v2:Bool) (r:Change) (hm:m326 f v0 v1 v2=some r):Sp Tryz.prog 326 [Va (v0),Va (v1),Va (v2)] (Va (r)):=by
 unfold m326 at hm
 refine ens Tryz.func326 (by kernel_rfl) rfl Tryz.ntmps326 rfl rfl fun M w_0 a hM hD s=>?_
 refine se (rg (sq s (bx (t rfl)) rfl fun a w s=>sqb 1000 s (al (z:=(⟨false,(0:Int),false⟩:Change))) rfl rfl fun b1 a w s=>nl ?_))
 refine se (rg (sq s (ld (t rfl)) rfl fun a w s=>sw (K:=1000) s (t rfl) rfl (t rfl) rfl fun w s=>nl ?_))
 obtain rfl:=si hm
 refine wpIn_ret ?_
 exact rn hD s rfl (rv1 (rc (K:=1000) rfl rfl))
def m327 (f:Nat) (v0:Change) (v1:Bool) (v2:Bool):Option (Change):=(bif (v1 != v2) then some { v0 with value:=v1 } else some v0).bind fun z3=>some { z3 with conflict:=(v1 && v2) }
set_option maxRecDepth 100000 in
theorem s327 (f:Nat) (v0:Change) (v1:Bool) (v2:Bool) (r:Change) (hm:m327 f v0 v1 v2=some r):Sp Tryz.prog 327 [Va (v0),Va (v1),Va (v2)] (Va (r)):=by
 unfold m327 at hm
 refine ens Tryz.func327 (by kernel_rfl) rfl Tryz.ntmps327 rfl rfl fun M w_0 a hM hD s=>?_
 refine se (rg (sqb 1000 s (bxm (t rfl)) rfl rfl fun b1 a w s=>sqb 1001 s (al (z:=(⟨false,(0:Int),false⟩:Change))) rfl rfl fun b2 a w s=>nl ?_))
 refine se ?_
 refine se (rg (sq s (mv (t rfl)) rfl fun a w s=>sq s (mv (t rfl)) rfl fun a w s=>sq s (bne (t rfl) (t rfl) Tryz.underlying4) rfl fun a w s=>nl ?_))
 obtain ⟨z3,hz3,hkz3⟩:=bs hm
 refine cpI (fun a w=>St M w_0 18 [(0,Va (v0)),(1,Va (v1)),(2,Va (v2)),(3,Qv (pb b1 0)),(6,Qv (pb b2 0)),(1000,Mg b1 (z3)),(1001,Mg b2 ((⟨false,(0:Int),false⟩:Change)))] a w) ?_ fun a w s=>?_
 ·refine cm s rfl hz3 (fun hb hm=>?_) (fun hb hm=>?_)
  ·refine rg (sq s (mv (t rfl)) rfl fun a w s=>sq s (fm_ (off:=0) (m:=0) (q:=0) (t rfl) (by kernel_rfl) rfl) rfl fun a w s=>sf (γ:=Change) (K:=1000) s (t rfl) rfl (t rfl) fun w s=>nl ?_)
   obtain rfl:=si hm
   exact s.pick [0,1,2,3,6,1000,1001]
  ·refine wpIn_skip ?_
   obtain rfl:=si hm
   exact s.pick [0,1,2,3,6,1000,1001]
 ·replace hm:=hkz3
  refine se (rg (sq s (mv (t rfl)) rfl fun a w s=>sq s (mv (t rfl)) rfl fun a w s=>sg s rfl rfl (fun hb=>(mv (t rfl))) rfl fun a w s=>sq s (paP (t rfl) rfl) rfl fun a w s=>sq s (fm_ (off:=2) (m:=0) (q:=2) (t rfl) (by kernel_rfl) rfl) rfl fun a w s=>sf (γ:=Change) (K:=1000) s (t rfl) rfl (t rfl) fun w s=>nl ?_))
  refine se (rg (sq s (lm (K:=1000) (t rfl) rfl) rfl fun a w s=>sw (K:=1001) s (t rfl) rfl (t rfl) rfl fun w s=>nl ?_))
  obtain rfl:=si hm
  refine wpIn_ret ?_
  exact rn hD s rfl (rv1 (rc (K:=1001) rfl rfl))
def m319 (f:Nat) :Option (Unit):=some ()
set_option maxRecDepth 100000 in
theorem s319 (f:Nat) (r:Unit) (hm:m319 f =some r):Sp Tryz.prog 319 [] (Qa [(fv 326 [] []),(fv 327 [] []),(fv 328 [] [])]):=by
 unfold m319 at hm
 refine ens Tryz.func319 (by kernel_rfl) rfl Tryz.ntmps319 rfl rfl fun M w_0 a hM hD s=>?_
 refine se (rg (sqr 1000 s (alr (cs:=[.nilFunc,.nilFunc,.nilFunc]) (z:=.agg #[.nilFunc,.nilFunc,.nilFunc]) (by kernel_rfl) rfl rfl) rfl rfl fun b1 a w s=>nl ?_))
 refine se (rg (sq s (bly (e:=377) (len:=3) (z:=[.nilFunc,.nilFunc,.nilFunc]) (cs:=[(fv 326 [] []),(fv 327 [] []),(fv 328 [] [])]) rfl (cd1 qf (ocr rfl) (cd1 qf (ocr rfl) (cd1 qf (ocr rfl) cd0))) (by kernel_rfl) (by kernel_rfl) (by kernel_rfl) rfl) rfl fun a w s=>sra (K:=1000) (m:=[(fv 326 [] []),(fv 327 [] []),(fv 328 [] [])]) (cs':=[(fv 326 [] []),(fv 327 [] []),(fv 328 [] [])]) s (t rfl) rfl (t rfl) (by kernel_rfl) rfl rfl rfl fun w s=>nl ?_))
 obtain rfl:=si hm
 refine wpIn_ret ?_
 exact rn hD s rfl (rv1 (rca (K:=1000) rfl rfl (by kernel_rfl) rfl (by kernel_rfl)))
def m318_l1 (v6:List Int):Nat→(Int×(List Bool))→Option (Int×(List Bool))
 | 0,_=>none
 | n+1,z1=>(bif (decide (z1.1 < (v6.length:Int))) then (idx v6 z1.1).bind fun x4=>(app z1.2 ([(x4 == (0:Int)),(x4 == (2:Int))]:List Bool)).bind fun x5=>m318_l1 v6 n ((wr (z1.1 + (1:Int))),x5) else some (z1.1,z1.2))
def m318 (f:Nat) (v0:Int) (v1:Int) (v2:List ByteArray) (v3:List Signal) (v4:List Int) (v5:List Int) (v6:List Int) (v7:List Bool) (v8:List Bool) (v9:List Bool) (v10:List Int):Option ((List Bool)):=(m318_l1 v6 f ((0:Int),([]:List Bool))).bind fun o2s=>(m325 f ([o2s.2,v8,v9]:List (List Bool))).bind fun x7=>some x7
set_option maxRecDepth 100000 in
theorem s318 (f:Nat) (n0:Nat) (n1:Value) (n2:Value) (n3:Value) (n4:Value) (n5:Value) (n6:Value) (n7:Value) (n8:Value) (n9:Value) (v0:Int) (v1:Int) (v2:List ByteArray) (v3:List Signal) (v4:List Int) (v5:List Int) (v6:List Int) (v7:List Bool) (v8:List Bool) (v9:List Bool) (v10:List Int) (r:(List Bool)) (hm:m318 f v0 v1 v2 v3 v4 v5 v6 v7 v8 v9 v10=some r):Cg Tryz.prog 318 [Qv (pb n0 0)] [Mr n0 [(.int .i64 v0),n1,n2,n3,n4,n5,n6,n7,n8,n9,(.int .i64 v1)],At n1 (Va (v2)),At n2 (Va (v3)),At n3 (Va (v4)),At n4 (Va (v5)),Ow 3 n5 (v6),Ow 4 n6 (v7),Ow 4 n7 (v8),Ow 4 n8 (v9),Ow 3 n9 (v10)] (Rz (fun x:Value=>Qv x) (fun x=>[Mr n0 [(.int .i64 v0),n1,n2,n3,n4,n5,n6,n7,n8,n9,(.int .i64 v1)],At n1 (Va (v2)),At n2 (Va (v3)),At n3 (Va (v4)),At n4 (Va (v5)),Ow 3 n5 (v6),Ow 4 n6 (v7),Ow 4 n7 (v8),Ow 4 n8 (v9),Ow 3 n9 (v10),Ow 4 x (r)])):=by
 unfold m318 at hm
 refine eng Tryz.func318 (by kernel_rfl) rfl Tryz.ntmps318 rfl rfl fun M w_0 a hM hD s=>?_
 refine se (rg (sq s (saq cq) rfl fun a w s=>nl ?_))
 refine se (rg (sq s (saq cq) rfl fun a w s=>nl ?_))
 refine se ?_
 refine se (rg (sq s (mvq (t rfl)) rfl fun a w s=>sq s (nkq (t rfl)) rfl fun a w s=>sq s (fm_ (off:=5) (m:=4) (q:=5) (t rfl) (by kernel_rfl) rfl) rfl fun a w s=>sq s (fm_ (off:=0) (m:=0) (q:=5) (t rfl) (by kernel_rfl) rfl) rfl fun a w s=>sq s (lrc (K:=1000) (List Int) (t rfl) rfl rfl rfl rfl) rfl fun a w s=>sq s (lnq (α:=Int) (k:=1005) (t rfl) rfl) rfl fun a w s=>sq s (mv ci) rfl fun a w s=>nl ?_))
 refine nilt (α:=Bool) (d:=3) 1010 4 s rfl rfl fun c3 s=>?_
 obtain ⟨o2s,hoo2,hko2⟩:=bs hm
 refine cpI (fun a w=>∃ (o2sc0:Value),St M w_0 37 [(0,Qv (pb n0 0)),(2,Qv (.slice none 0 0)),(3,Qv o2sc0),(10,Qv n5),(11,Va ((v6.length:Int))),(12,Va (o2s.1)),(1000,Mr n0 [(.int .i64 v0),n1,n2,n3,n4,n5,n6,n7,n8,n9,(.int .i64 v1)]),(1001,At n1 (Va (v2))),(1002,At n2 (Va (v3))),(1003,At n3 (Va (v4))),(1004,At n4 (Va (v5))),(1005,Ow 3 n5 (v6)),(1006,Ow 4 n6 (v7)),(1007,Ow 4 n7 (v8)),(1008,Ow 4 n8 (v9)),(1009,Ow 3 n9 (v10)),(1010,Ow 4 o2sc0 (o2s.2))] a w) ?_ fun a w s=>?_
 ·refine wpIn_block ?_
  refine loI (fun n z1=>m318_l1 v6 n z1) o2s (fun z1 a w=>∃ (z1c0:Value),St M w_0 37 [(0,Qv (pb n0 0)),(2,Qv (.slice none 0 0)),(3,Qv z1c0),(10,Qv n5),(11,Va ((v6.length:Int))),(12,Va (z1.1)),(1000,Mr n0 [(.int .i64 v0),n1,n2,n3,n4,n5,n6,n7,n8,n9,(.int .i64 v1)]),(1001,At n1 (Va (v2))),(1002,At n2 (Va (v3))),(1003,At n3 (Va (v4))),(1004,At n4 (Va (v5))),(1005,Ow 3 n5 (v6)),(1006,Ow 4 n6 (v7)),(1007,Ow 4 n7 (v8)),(1008,Ow 4 n8 (v9)),(1009,Ow 3 n9 (v10)),(1010,Ow 4 z1c0 (z1.2))] a w) f ((0:Int),([]:List Bool)) ⟨c3,s.pick [0,2,3,10,11,12,1000,1001,1002,1003,1004,1005,1006,1007,1008,1009,1010]⟩ hoo2 (fun _=>rfl) fun n z1 a w hm s=>?_
  obtain ⟨z1c0,s⟩:=s
  replace hm:m318_l1 v6 (n + 1) z1=some o2s:=hm
  unfold m318_l1 at hm
  refine se (rg (sq s (lt (t rfl) (t rfl)) rfl fun a w s=>nl ?_))
  refine se ?_
  refine cm s rfl hm (fun hb hm=>?_) (fun hb hm=>?_)
  ·refine wpIn_skip ?_
   refine se ?_
   refine wpIn_block ?_
   obtain ⟨x4,hx4,hm⟩:=bs hm
   refine se (rg (sq s (ixq (α:=Int) (k:=1005) (t rfl) rfl (t rfl) hx4) rfl fun a w s=>sq s (lq (k:=1005) (t rfl) rfl (idxg hx4)) rfl fun a w s=>sq s (sa (t rfl)) rfl fun a w s=>nl ?_))
   obtain ⟨x5,hx5,hm⟩:=bs hm
   refine rg (sq s (mvq (t rfl)) rfl fun a w s=>sq s (mv (t rfl)) rfl fun a w s=>sq s (eq (t rfl) ci) rfl fun a w s=>sq s (mv (t rfl)) rfl fun a w s=>sq s (eq (t rfl) ci) rfl fun a w s=>sq s (bsv (o1 (t rfl) (o1 (t rfl) o0)) rfl rfl (by kernel_rfl)) rfl fun a w s=>apd (α:=Bool) (k:=1010) s (t rfl) rfl (t rfl) hx5 rfl rfl fun c6 a w s=>sq s (saq (t rfl)) rfl fun a w s=>nl ?_)
   refine rg (sq s (ad (t rfl) ci) rfl fun a w s=>sq s (mv (t rfl)) rfl fun a w s=>nl ?_)
   exact ⟨_,hm,⟨c6,s.pick [0,2,3,10,11,12,1000,1001,1002,1003,1004,1005,1006,1007,1008,1009,1010]⟩⟩
  ·refine wpIn_exit ?_
   obtain rfl:=si hm
   exact ⟨z1c0,s.pick [0,2,3,10,11,12,1000,1001,1002,1003,1004,1005,1006,1007,1008,1009,1010]⟩
 ·obtain ⟨o2sc0,s⟩:=s
  replace hm:=hko2
  obtain ⟨x7,hx7,hm⟩:=bs hm
  refine se (flow s (m:=13) (.cons (.cons (.cons (.cons (.cons (.cons (.cons (.cons (.cons (.cons (.cons (.cons (.cons .nil rfl (mvq (t rfl))) rfl (mvq (t rfl))) rfl (nkq (t rfl))) rfl (fm_ (off:=5) (m:=4) (q:=5) (t rfl) (by kernel_rfl) rfl)) rfl (fm_ (off:=2) (m:=0) (q:=7) (t rfl) (by kernel_rfl) rfl)) rfl (lrc (K:=1000) (List Bool) (t rfl) rfl rfl rfl rfl)) rfl (mvq (t rfl))) rfl (nkq (t rfl))) rfl (fm_ (off:=5) (m:=4) (q:=5) (t rfl) (by kernel_rfl) rfl)) rfl (fm_ (off:=3) (m:=0) (q:=8) (t rfl) (by kernel_rfl) rfl)) rfl (lrc (K:=1000) (List Bool) (t rfl) rfl rfl rfl rfl)) rfl (bsw (β:=Bool) (cd1 (t rfl) (oco (k:=1010) rfl) (cd1 (t rfl) (oco (k:=1007) rfl) (cd1 (t rfl) (oco (k:=1008) rfl) cd0))) rfl rfl (by kernel_rfl))) rfl (tfg (k:=1010) (flz (fun _=>flq) (fun _=>(flc flo fln))) rfl (tfg (k:=1007) (flz (fun _=>flq) (fun _=>(flc flo fln))) rfl (tfg (k:=1008) (flz (fun _=>flq) (fun _=>(flc flo fln))) rfl (cc rfl (oc (rwd (t rfl) (rl1 (rpz (k:=1010) rfl) (rl1 (rpz (k:=1007) rfl) (rl1 (rpz (k:=1008) rfl) rl0)))) on) (s325 f _ _ hx7)))))) (by kernel_rfl) rfl rfl fun a w s=>opz (d:=36) [1012] s rfl (fun _=>rfl) rfl fun y8 s=>sq s (saq (t rfl)) rfl fun a w s=>nl ?_)
  obtain rfl:=si hm
  refine wpIn_ret ?_
  exact rz [1000,1001,1002,1003,1004,1005,1006,1007,1008,1009,1012] y8 hM hD s rfl (rv1 (rt rfl)) (kc rfl (kc rfl (kc rfl (kc rfl (kc rfl (kc rfl (kc rfl (kc rfl (kc rfl (kc rfl (kc rfl kn))))))))))) rfl
def m317_l1 (f:Nat) (v1:Int) (v3:List Signal):Nat→(Int×(List Bool)×(List Bool))→Option (Int×(List Bool)×(List Bool))
 | 0,_=>none
 | n+1,z3=>(bif (decide (z3.1 < (v3.length:Int))) then (idx v3 z3.1).bind fun x5=>(bif ((x5).Kind == (0:Int)) then (m320 f ((x5).On) z3.2.2).bind fun x8=>(idx z3.2.1 z3.1).bind fun x9=>(idx z3.2.2 (wr (v1 + z3.1))).bind fun x10=>some ((z3.2.1.set z3.1.toNat x8),(z3.2.2.set (wr (v1 + z3.1)).toNat x8)) else some (z3.2.1,z3.2.2)).bind fun z7=>m317_l1 f v1 v3 n ((wr (z3.1 + (1:Int))),z7.1,z7.2) else some (z3.1,z3.2.1,z3.2.2))
def m317 (f:Nat) (v0:Int) (v1:Int) (v2:List ByteArray) (v3:List Signal) (v4:List Int) (v5:List Int) (v6:List Int) (v7:List Bool) (v8:List Bool) (v9:List Bool) (v10:List Int):Option ((List Bool)):=(m318 f v0 v1 v2 v3 v4 v5 v6 v7 v8 v9 v10).bind fun x1=>(m317_l1 f v1 v3 f ((0:Int),v9,x1)).bind fun o4s=>some o4s.2.1
set_option maxRecDepth 100000 in
set_option maxHeartbeats 2000000 in
theorem s317 (f:Nat) (n0:Nat) (n1:Value) (n2:Value) (n3:Value) (n4:Value) (n5:Value) (n6:Value) (n7:Value) (n8:Value) (n9:Value) (v0:Int) (v1:Int) (v2:List ByteArray) (v3:List Signal) (v4:List Int) (v5:List Int) (v6:List Int) (v7:List Bool) (v8:List Bool) (v9:List Bool) (v10:List Int) (r:(List Bool)) (hm:m317 f v0 v1 v2 v3 v4 v5 v6 v7 v8 v9 v10=some r):Cg Tryz.prog 317 [Qv (pb n0 0)] [Mr n0 [(.int .i64 v0),n1,n2,n3,n4,n5,n6,n7,n8,n9,(.int .i64 v1)],At n1 (Va (v2)),At n2 (Va (v3)),At n3 (Va (v4)),At n4 (Va (v5)),Ow 3 n5 (v6),Ow 4 n6 (v7),Ow 4 n7 (v8),Ow 4 n8 (v9),Ow 3 n9 (v10)] (Rz (fun x:Unit=>Dd) (fun x=>[Mr n0 [(.int .i64 v0),n1,n2,n3,n4,n5,n6,n7,n8,n9,(.int .i64 v1)],At n1 (Va (v2)),At n2 (Va (v3)),At n3 (Va (v4)),At n4 (Va (v5)),Ow 3 n5 (v6),Ow 4 n6 (v7),Ow 4 n7 (v8),Ow 4 n8 (r),Ow 3 n9 (v10)])):=by
 unfold m317 at hm
 refine eng Tryz.func317 (by kernel_rfl) rfl Tryz.ntmps317 rfl rfl fun M w_0 a hM hD s=>?_
 obtain ⟨x1,hx1,hm⟩:=bs hm
 refine se (rg (sq s (mvq (t rfl)) rfl fun a w s=>cgv [1000,1001,1002,1003,1004,1005,1006,1007,1008,1009] [1000,1001,1002,1003,1004,1005,1006,1007,1008,1009,1010] hM s qf rfl (oc (t rfl) on) vn vn (s318 f n0 n1 n2 n3 n4 n5 n6 n7 n8 n9 _ _ _ _ _ _ _ _ _ _ _ _ hx1) (kc rfl (kc rfl (kc rfl (kc rfl (kc rfl (kc rfl (kc rfl (kc rfl (kc rfl (kc rfl kn)))))))))) rfl (fun _=>rfl) rfl rfl rfl fun y2 a w s=>sq s (saq (t rfl)) rfl fun a w s=>nl ?_))
 refine se (rg (sq s (mvq (t rfl)) rfl fun a w s=>sq s (nkq (t rfl)) rfl fun a w s=>sq s (fm_ (off:=0) (m:=4) (q:=0) (t rfl) (by kernel_rfl) rfl) rfl fun a w s=>sq s (fm_ (off:=2) (m:=0) (q:=2) (t rfl) (by kernel_rfl) rfl) rfl fun a w s=>sq s (lrc (K:=1000) (List Signal) (t rfl) rfl rfl rfl rfl) rfl fun a w s=>sq s (ln (ta (k:=1002) (t rfl) rfl)) rfl fun a w s=>sq s (mv ci) rfl fun a w s=>nl ?_))
 obtain ⟨o4s,hoo4,hko4⟩:=bs hm
 refine cpI (fun a w=>St M w_0 44 [(0,Qv (pb n0 0)),(2,Qv y2),(12,Qv n2),(13,Va ((v3.length:Int))),(14,Va (o4s.1)),(1000,Mr n0 [(.int .i64 v0),n1,n2,n3,n4,n5,n6,n7,n8,n9,(.int .i64 v1)]),(1001,At n1 (Va (v2))),(1002,At n2 (Va (v3))),(1003,At n3 (Va (v4))),(1004,At n4 (Va (v5))),(1005,Ow 3 n5 (v6)),(1006,Ow 4 n6 (v7)),(1007,Ow 4 n7 (v8)),(1008,Ow 4 n8 (o4s.2.1)),(1009,Ow 3 n9 (v10)),(1010,Ow 4 y2 (o4s.2.2))] a w) ?_ fun a w s=>?_
 ·refine wpIn_block ?_
  refine loI (fun n z3=>m317_l1 f v1 v3 n z3) o4s (fun z3 a w=>St M w_0 44 [(0,Qv (pb n0 0)),(2,Qv y2),(12,Qv n2),(13,Va ((v3.length:Int))),(14,Va (z3.1)),(1000,Mr n0 [(.int .i64 v0),n1,n2,n3,n4,n5,n6,n7,n8,n9,(.int .i64 v1)]),(1001,At n1 (Va (v2))),(1002,At n2 (Va (v3))),(1003,At n3 (Va (v4))),(1004,At n4 (Va (v5))),(1005,Ow 3 n5 (v6)),(1006,Ow 4 n6 (v7)),(1007,Ow 4 n7 (v8)),(1008,Ow 4 n8 (z3.2.1)),(1009,Ow 3 n9 (v10)),(1010,Ow 4 y2 (z3.2.2))] a w) f ((0:Int),v9,x1) (s.pick [0,2,12,13,14,1000,1001,1002,1003,1004,1005,1006,1007,1008,1009,1010]) hoo4 (fun _=>rfl) fun n z3 a w hm s=>?_
  replace hm:m317_l1 f v1 v3 (n + 1) z3=some o4s:=hm
  unfold m317_l1 at hm
  refine se (rg (sq s (lt (t rfl) (t rfl)) rfl fun a w s=>nl ?_))
  refine se ?_
  refine cm s rfl hm (fun hb hm=>?_) (fun hb hm=>?_)
  ·refine wpIn_skip ?_
   refine se ?_
   refine wpIn_block ?_
   obtain ⟨x5,hx5,hm⟩:=bs hm
   refine se (rg (sq s (mv (t rfl)) rfl fun a w s=>sq s (ix (ta (k:=1002) (t rfl) rfl) (t rfl) hx5) rfl fun a w s=>sq s (ld (t rfl)) rfl fun a w s=>sqr 1011 s (alr (cs:=[(.string ByteArray.empty),(.int .i64 (0:Int)),(.int .i64 (0:Int)),(.int .i64 (0:Int)),(.slice none 0 0),(.int .i64 (0:Int)),(.int .i64 (0:Int)),(.slice none 0 0),(.int .i64 (0:Int)),(.bool false)]) (z:=.agg #[(.string ByteArray.empty),(.int .i64 (0:Int)),(.int .i64 (0:Int)),(.int .i64 (0:Int)),(.slice none 0 0),(.int .i64 (0:Int)),(.int .i64 (0:Int)),(.slice none 0 0),(.int .i64 (0:Int)),(.bool false)]) (by kernel_rfl) rfl rfl) rfl rfl fun b6 a w s=>sq s (sa (t rfl)) rfl fun a w s=>swd (K:=1011) s (t rfl) rfl (t rfl) rfl fun w s=>nl ?_))
   refine se (rg (sq s (fm_ (off:=1) (m:=0) (q:=1) (t rfl) (by kernel_rfl) rfl) rfl fun a w s=>sq s (lf (K:=1011) (f:=Signal.Kind) (t rfl) rfl) rfl fun a w s=>sq s (eq (t rfl) ci) rfl fun a w s=>nl ?_))
   obtain ⟨z7,hz7,hkz7⟩:=bs hm
   refine cpI (fun a w=>St M w_0 44 [(0,Qv (pb n0 0)),(2,Qv y2),(3,Va (z3.1)),(4,Qv (pb b6 0)),(12,Qv n2),(13,Va ((v3.length:Int))),(14,Va (z3.1)),(1000,Mr n0 [(.int .i64 v0),n1,n2,n3,n4,n5,n6,n7,n8,n9,(.int .i64 v1)]),(1001,At n1 (Va (v2))),(1002,At n2 (Va (v3))),(1003,At n3 (Va (v4))),(1004,At n4 (Va (v5))),(1005,Ow 3 n5 (v6)),(1006,Ow 4 n6 (v7)),(1007,Ow 4 n7 (v8)),(1008,Ow 4 n8 (z7.1)),(1009,Ow 3 n9 (v10)),(1010,Ow 4 y2 (z7.2)),(1011,Mg b6 (x5))] a w) ?_ fun a w s=>?_
   ·refine cm s rfl hz7 (fun hb hm=>?_) (fun hb hm=>?_)
    ·obtain ⟨x8,hx8,hm⟩:=bs hm
     refine se (rg (sq s (fm_ (off:=2) (m:=2) (q:=2) (t rfl) (by kernel_rfl) rfl) rfl fun a w s=>sq s (lf (K:=1011) (f:=Signal.On) (t rfl) rfl) rfl fun a w s=>sq s (mvq (t rfl)) rfl fun a w s=>sq s (tfg (k:=1010) fl1 rfl (cc rfl (oc (t rfl) (oc (ta (k:=1010) (t rfl) rfl) on)) (s320 f _ _ _ hx8))) rfl fun a w s=>sq s (sa (t rfl)) rfl fun a w s=>nl ?_))
     obtain ⟨x9,hx9,hm⟩:=bs hm
     obtain ⟨x10,hx10,hm⟩:=bs hm
     refine flow2 [(2,Qv y2),(3,Va (z3.1)),(5,Va (x8))] [0,1,2,3,4,5,7,8,9,10,13,15] [26,27,28,29,30,31,33,34,35,36,39,41] [36] [37] [40,38,37,32] [(16,[]),(17,[40,38,37,32]),(18,[])] s (.skip (.skip (.skip (.cons (.late (.cons (.late (.late (.cons (.cons (.cons (.cons (.late (.cons (.cons (.cons (.cons (.cons (.cons .nil rfl rfl (mvq (t rfl))) rfl rfl (nkq (t rfl))) rfl rfl (fm_ (off:=5) (m:=4) (q:=5) (t rfl) (by kernel_rfl) rfl)) rfl rfl (fm_ (off:=3) (m:=0) (q:=8) (t rfl) (by kernel_rfl) rfl)) rfl rfl (lrc (K:=1000) (List Bool) (t rfl) rfl rfl rfl rfl)) rfl rfl (mv (t rfl))) rfl rfl (mvq (t rfl))) rfl rfl (mvq (t rfl))) rfl rfl (nkq (t rfl))) rfl rfl (fm_ (off:=10) (m:=0) (q:=10) (t rfl) (by kernel_rfl) rfl)) rfl rfl (lrc (K:=1000) Int (t rfl) rfl rfl rfl rfl)) rfl rfl (mv (t rfl))) rfl rfl (ad (qi (t rfl)) (t rfl))) rfl rfl (mv (t rfl))) rfl rfl (mv (t rfl))) rfl rfl (ixq (α:=Bool) (k:=1008) (t rfl) rfl (t rfl) hx9)) rfl) rfl) rfl) (by kernel_rfl) (by kernel_rfl) rfl rfl (sb1 rfl (sb1 rfl (sb1 rfl sb0))) rfl (by decide) rfl rfl ?_
     refine ⟨⟨fun _=>rfl,rfl,.inr ⟨(sb1 rfl (sb1 rfl (sb1 rfl sb0))),(sb1 rfl sb0),(sn2 rfl sn0)⟩⟩,by kernel_rfl,_,rfl,fun Ψ a w s=>stq (k:=1008) s (t rfl) rfl (idxg hx9) (t rfl) fun w s=>nl ?_⟩
     refine nxt Ψ s ?_
     refine ⟨⟨fun _=>rfl,rfl,.inr ⟨(sb1 rfl (sb1 rfl (sb1 rfl sb0))),(sb1 rfl sb0),(sn2 rfl sn0)⟩⟩,by kernel_rfl,_,rfl,fun Ψ a w s=>sq s (ixq (α:=Bool) (k:=1010) (t rfl) rfl (t rfl) hx10) rfl fun a w s=>nl ?_⟩
     refine nxt Ψ s ?_
     refine ⟨⟨fun _=>rfl,rfl,.inl rfl⟩,by kernel_rfl,_,rfl,fun Ψ a w s=>stq (k:=1010) s (t rfl) rfl (idxg hx10) (t rfl) fun w s=>nl ?_⟩
     refine nxt Ψ s ?_
     refine ⟨⟨fun _=>rfl,rfl,.inl rfl⟩,fun a w s=>?_⟩
     replace s:St M w_0 44 [(0,Qv (pb n0 0)),(2,Qv y2),(3,Va (z3.1)),(4,Qv (pb b6 0)),(5,Va (x8)),(12,Qv n2),(13,Va ((v3.length:Int))),(14,Va (z3.1)),(1000,Mr n0 [(.int .i64 v0),n1,n2,n3,n4,n5,n6,n7,n8,n9,(.int .i64 v1)]),(1001,At n1 (Va (v2))),(1002,At n2 (Va (v3))),(1003,At n3 (Va (v4))),(1004,At n4 (Va (v5))),(1005,Ow 3 n5 (v6)),(1006,Ow 4 n6 (v7)),(1007,Ow 4 n7 (v8)),(1008,Ow 4 n8 ((z3.2.1.set z3.1.toNat x8))),(1009,Ow 3 n9 (v10)),(1010,Ow 4 y2 ((z3.2.2.set (wr (v1 + z3.1)).toNat x8))),(1011,Mg b6 (x5))] a w:=s.pick [0,2,3,4,5,12,13,14,1000,1001,1002,1003,1004,1005,1006,1007,1008,1009,1010,1011]
     obtain rfl:=si hm
     exact s.pick [0,2,3,4,12,13,14,1000,1001,1002,1003,1004,1005,1006,1007,1008,1009,1010,1011]
    ·refine wpIn_skip ?_
     obtain rfl:=si hm
     exact s.pick [0,2,3,4,12,13,14,1000,1001,1002,1003,1004,1005,1006,1007,1008,1009,1010,1011]
   ·replace hm:=hkz7
    refine rg (sq s (ad (t rfl) ci) rfl fun a w s=>sq s (mv (t rfl)) rfl fun a w s=>nl ?_)
    exact ⟨_,hm,s.pick [0,2,12,13,14,1000,1001,1002,1003,1004,1005,1006,1007,1008,1009,1010]⟩
  ·refine wpIn_exit ?_
   obtain rfl:=si hm
   exact s.pick [0,2,12,13,14,1000,1001,1002,1003,1004,1005,1006,1007,1008,1009,1010]
 ·replace hm:=hko4
  obtain rfl:=si hm
  exact rze [1000,1001,1002,1003,1004,1005,1006,1007,1008,1009] () hM hD s rfl rv0 (kc rfl (kc rfl (kc rfl (kc rfl (kc rfl (kc rfl (kc rfl (kc rfl (kc rfl (kc rfl kn)))))))))) rfl
def m301_l1 (f:Nat) (v1:Int) (v3:List Signal) (x6:(List Bool)):Nat→(Int×(List Bool)×(List Int)×(List Int))→Option (Int×(List Bool)×(List Int)×(List Int))
 | 0,_=>none
 | n+1,z10=>(bif (decide (z10.1 < (v3.length:Int))) then (idx v3 z10.1).bind fun x13=>(idx (List.range 3) ((x13).Kind)).bind fun x15=>(idx z10.2.1 z10.1).bind fun x16=>(idx z10.2.2.1 z10.1).bind fun x17=>(m320 f ((x13).On) x6).bind fun x18=>(bif ((x13).Kind == (1:Int)) then (m320 f ((x13).Off) x6).bind fun x19=>some x19 else some false).bind fun r20=>((bif x15 == 0 then m326 f (⟨x16,x17,false⟩:Change) x18 r20 else bif x15 == 1 then m327 f (⟨x16,x17,false⟩:Change) x18 r20 else bif x15 == 2 then m328 f (⟨x16,x17,false⟩:Change) x18 r20 else none)).bind fun x24=>(idx z10.2.1 z10.1).bind fun x26=>(idx z10.2.2.1 z10.1).bind fun x27=>(bif (x24).conflict then (app z10.2.2.2 ([(wr (v1 + z10.1))]:List Int)).bind fun x29=>some x29 else some z10.2.2.2).bind fun z28=>m301_l1 f v1 v3 x6 n ((wr (z10.1 + (1:Int))),(z10.2.1.set z10.1.toNat ((x24).value)),(z10.2.2.1.set z10.1.toNat ((x24).timer)),z28) else some (z10.1,z10.2.1,z10.2.2.1,z10.2.2.2))
def m301 (f:Nat) (v0:Int) (v1:Int) (v2:List ByteArray) (v3:List Signal) (v4:List Int) (v5:List Int) (v6:List Int) (v7:List Bool) (v8:List Bool) (v9:List Bool) (v10:List Int):Option (Bool×(List Int)×(List Bool)×(List Int)):=(m300 f (⟨v6,v7,v8,v9,v10⟩:State)).bind fun x1=>(m317 f v0 v1 v2 v3 v4 v5 v6 v7 v8 v9 v10).bind fun x4=>(m318 f v0 v1 v2 v3 v4 v5 v6 v7 v8 x4 v10).bind fun x6=>(m319 f).bind fun x8=>(m301_l1 f v1 v3 x6 f ((0:Int),x4,v10,([]:List Int))).bind fun o11s=>(m120 f (⟨x1.1,x1.2.1,x1.2.2.1,x1.2.2.2.1,x1.2.2.2.2⟩:State) (⟨v6,v7,v8,o11s.2.1,o11s.2.2.1⟩:State)).bind fun x31=>some ((!x31),o11s.2.2.2,o11s.2.1,o11s.2.2.1)
set_option maxRecDepth 100000 in
set_option maxHeartbeats 2000000 in
theorem s301 (f:Nat) (n0:Nat) (n1:Value) (n2:Value) (n3:Value) (n4:Value) (n5:Value) (n6:Value) (n7:Value) (n8:Value) (n9:Value) (v0:Int) (v1:Int) (v2:List ByteArray) (v3:List Signal) (v4:List Int) (v5:List Int) (v6:List Int) (v7:List Bool) (v8:List Bool) (v9:List Bool) (v10:List Int) (r:Bool×(List Int)×(List Bool)×(List Int)) (hm:m301 f v0 v1 v2 v3 v4 v5 v6 v7 v8 v9 v10=some r):Cg Tryz.prog 301 [Qv (pb n0 0)] [Mr n0 [(.int .i64 v0),n1,n2,n3,n4,n5,n6,n7,n8,n9,(.int .i64 v1)],At n1 (Va (v2)),At n2 (Va (v3)),At n3 (Va (v4)),At n4 (Va (v5)),Ow 3 n5 (v6),Ow 4 n6 (v7),Ow 4 n7 (v8),Ow 4 n8 (v9),Ow 3 n9 (v10)] (Rz (fun x:Unit=>T2 (Va (r.1)) (Va (r.2.1))) (fun x=>[Mr n0 [(.int .i64 v0),n1,n2,n3,n4,n5,n6,n7,n8,n9,(.int .i64 v1)],At n1 (Va (v2)),At n2 (Va (v3)),At n3 (Va (v4)),At n4 (Va (v5)),Ow 3 n5 (v6),Ow 4 n6 (v7),Ow 4 n7 (v8),Ow 4 n8 (r.2.2.1),Ow 3 n9 (r.2.2.2)])):=by
 unfold m301 at hm
 refine eng Tryz.func301 (by kernel_rfl) rfl Tryz.ntmps301 rfl rfl fun M w_0 a hM hD s=>?_
 refine se (rg (sq s (sa cb) rfl fun a w s=>sq s (saq cq) rfl fun a w s=>nl ?_))
 obtain ⟨x1,hx1,hm⟩:=bs hm
 refine se (rg (sq s (mvq (t rfl)) rfl fun a w s=>sq s (nkq (t rfl)) rfl fun a w s=>sq s (fm_ (off:=5) (m:=4) (q:=5) (t rfl) (by kernel_rfl) rfl) rfl fun a w s=>sq s (lra (K:=1000) (ds:=[n5,n6,n7,n8,n9]) State (t rfl) rfl rfl rfl rfl) rfl fun a w s=>sqz [1010,1011,1012,1013,1014] hM s (tfg (k:=1009) (flz (fun _=>fla) (fun _=>(flc flo (flc flo (flc flo (flc flo (flc flo fln))))))) rfl (tfg (k:=1008) (flz (fun _=>fla) (fun _=>(flc flo (flc flo (flc flo (flc flo (flc flo fln))))))) rfl (tfg (k:=1007) (flz (fun _=>fla) (fun _=>(flc flo (flc flo (flc flo (flc flo (flc flo fln))))))) rfl (tfg (k:=1006) (flz (fun _=>fla) (fun _=>(flc flo (flc flo (flc flo (flc flo (flc flo fln))))))) rfl (tfg (k:=1005) (flz (fun _=>fla) (fun _=>(flc flo (flc flo (flc flo (flc flo (flc flo fln))))))) rfl (cc rfl (oc (qad (y:=(⟨v6,v7,v8,v9,v10⟩:State)) (t rfl) (rpS30 (l:=([n5],[n6],[n7],[n8],[n9])) (rpz (k:=1005) rfl) (rpz (k:=1006) rfl) (rpz (k:=1007) rfl) (rpz (k:=1008) rfl) (rpz (k:=1009) rfl)) rfl) on) (s300 f _ _ hx1))))))) (fun _=>rfl) rfl rfl fun y2 a w s=>sqr 1015 s (alr (cs:=[(.slice none 0 0),(.slice none 0 0),(.slice none 0 0),(.slice none 0 0),(.slice none 0 0)]) (z:=.agg #[(.slice none 0 0),(.slice none 0 0),(.slice none 0 0),(.slice none 0 0),(.slice none 0 0)]) (by kernel_rfl) rfl rfl) rfl rfl fun b3 a w s=>sra (K:=1015) (m:=[y2.1,y2.2.1,y2.2.2.1,y2.2.2.2.1,y2.2.2.2.2]) (cs':=[y2.1,y2.2.1,y2.2.2.1,y2.2.2.2.1,y2.2.2.2.2]) s (t rfl) rfl (t rfl) (by kernel_rfl) rfl rfl rfl fun w s=>nl ?_))
 obtain ⟨x4,hx4,hm⟩:=bs hm
 refine se (rg (sq s (mvq (t rfl)) rfl fun a w s=>cgv [1000,1001,1002,1003,1004,1005,1006,1007,1008,1009] [1000,1001,1002,1003,1004,1005,1006,1007,1008,1009] hM s qf rfl (oc (t rfl) on) vn vn (s317 f n0 n1 n2 n3 n4 n5 n6 n7 n8 n9 _ _ _ _ _ _ _ _ _ _ _ _ hx4) (kc rfl (kc rfl (kc rfl (kc rfl (kc rfl (kc rfl (kc rfl (kc rfl (kc rfl (kc rfl kn)))))))))) rfl (fun _=>rfl) rfl rfl rfl fun y5 a w s=>nl ?_))
 obtain ⟨x6,hx6,hm⟩:=bs hm
 obtain ⟨x8,hx8,hm⟩:=bs hm
 refine se (rg (sq s (mvq (t rfl)) rfl fun a w s=>cgv [1000,1001,1002,1003,1004,1005,1006,1007,1008,1009] [1000,1001,1002,1003,1004,1005,1006,1007,1008,1009,1016] hM s qf rfl (oc (t rfl) on) vn vn (s318 f n0 n1 n2 n3 n4 n5 n6 n7 n8 n9 _ _ _ _ _ _ _ _ _ _ _ _ hx6) (kc rfl (kc rfl (kc rfl (kc rfl (kc rfl (kc rfl (kc rfl (kc rfl (kc rfl (kc rfl kn)))))))))) rfl (fun _=>rfl) rfl rfl rfl fun y7 a w s=>sq s (cc rfl on (s319 f _ hx8)) rfl fun a w s=>sqr 1017 s (alr (cs:=[.nilFunc,.nilFunc,.nilFunc]) (z:=.agg #[.nilFunc,.nilFunc,.nilFunc]) (by kernel_rfl) rfl rfl) rfl rfl fun b9 a w s=>sq s (saq (t rfl)) rfl fun a w s=>sra (K:=1017) (m:=[(fv 326 [] []),(fv 327 [] []),(fv 328 [] [])]) (cs':=[(fv 326 [] []),(fv 327 [] []),(fv 328 [] [])]) s (t rfl) rfl (t rfl) (by kernel_rfl) rfl rfl rfl fun w s=>nl ?_))
 refine se (rg (sq s (saq cq) rfl fun a w s=>nl ?_))
 refine se ?_
 refine se (rg (sq s (mvq (t rfl)) rfl fun a w s=>sq s (nkq (t rfl)) rfl fun a w s=>sq s (fm_ (off:=0) (m:=4) (q:=0) (t rfl) (by kernel_rfl) rfl) rfl fun a w s=>sq s (fm_ (off:=2) (m:=0) (q:=2) (t rfl) (by kernel_rfl) rfl) rfl fun a w s=>sq s (lrc (K:=1000) (List Signal) (t rfl) rfl rfl rfl rfl) rfl fun a w s=>sq s (ln (ta (k:=1002) (t rfl) rfl)) rfl fun a w s=>sq s (mv ci) rfl fun a w s=>nl ?_))
 refine nilt (α:=Int) (d:=7) 1018 3 s rfl rfl fun c12 s=>?_
 obtain ⟨o11s,hoo11,hko11⟩:=bs hm
 refine cpI (fun a w=>∃ (o11sc0:Value),St M w_0 105 [(0,Qv (pb n0 0)),(2,Va (false)),(3,Qv (.slice none 0 0)),(4,Qv (pb b3 0)),(5,Qv y7),(6,Qv (pb b9 0)),(7,Qv o11sc0),(25,Qv n2),(26,Va ((v3.length:Int))),(27,Va (o11s.1)),(1000,Mr n0 [(.int .i64 v0),n1,n2,n3,n4,n5,n6,n7,n8,n9,(.int .i64 v1)]),(1001,At n1 (Va (v2))),(1002,At n2 (Va (v3))),(1003,At n3 (Va (v4))),(1004,At n4 (Va (v5))),(1005,Ow 3 n5 (v6)),(1006,Ow 4 n6 (v7)),(1007,Ow 4 n7 (v8)),(1008,Ow 4 n8 (o11s.2.1)),(1009,Ow 3 n9 (o11s.2.2.1)),(1015,Mr b3 [y2.1,y2.2.1,y2.2.2.1,y2.2.2.2.1,y2.2.2.2.2]),(1010,Ow 3 y2.1 (x1.1)),(1011,Ow 4 y2.2.1 (x1.2.1)),(1012,Ow 4 y2.2.2.1 (x1.2.2.1)),(1013,Ow 4 y2.2.2.2.1 (x1.2.2.2.1)),(1014,Ow 3 y2.2.2.2.2 (x1.2.2.2.2)),(1016,Ow 4 y7 (x6)),(1017,Mr b9 [(fv 326 [] []),(fv 327 [] []),(fv 328 [] [])]),(1018,Ow 3 o11sc0 (o11s.2.2.2))] a w) ?_ fun a w s=>?_
 ·refine wpIn_block ?_
  refine loI (fun n z10=>m301_l1 f v1 v3 x6 n z10) o11s (fun z10 a w=>∃ (z10c0:Value),St M w_0 105 [(0,Qv (pb n0 0)),(2,Va (false)),(3,Qv (.slice none 0 0)),(4,Qv (pb b3 0)),(5,Qv y7),(6,Qv (pb b9 0)),(7,Qv z10c0),(25,Qv n2),(26,Va ((v3.length:Int))),(27,Va (z10.1)),(1000,Mr n0 [(.int .i64 v0),n1,n2,n3,n4,n5,n6,n7,n8,n9,(.int .i64 v1)]),(1001,At n1 (Va (v2))),(1002,At n2 (Va (v3))),(1003,At n3 (Va (v4))),(1004,At n4 (Va (v5))),(1005,Ow 3 n5 (v6)),(1006,Ow 4 n6 (v7)),(1007,Ow 4 n7 (v8)),(1008,Ow 4 n8 (z10.2.1)),(1009,Ow 3 n9 (z10.2.2.1)),(1015,Mr b3 [y2.1,y2.2.1,y2.2.2.1,y2.2.2.2.1,y2.2.2.2.2]),(1010,Ow 3 y2.1 (x1.1)),(1011,Ow 4 y2.2.1 (x1.2.1)),(1012,Ow 4 y2.2.2.1 (x1.2.2.1)),(1013,Ow 4 y2.2.2.2.1 (x1.2.2.2.1)),(1014,Ow 3 y2.2.2.2.2 (x1.2.2.2.2)),(1016,Ow 4 y7 (x6)),(1017,Mr b9 [(fv 326 [] []),(fv 327 [] []),(fv 328 [] [])]),(1018,Ow 3 z10c0 (z10.2.2.2))] a w) f ((0:Int),x4,v10,([]:List Int)) ⟨c12,s.pick [0,2,3,4,5,6,7,25,26,27,1000,1001,1002,1003,1004,1005,1006,1007,1008,1009,1015,1010,1011,1012,1013,1014,1016,1017,1018]⟩ hoo11 (fun _=>rfl) fun n z10 a w hm s=>?_
  obtain ⟨z10c0,s⟩:=s
  replace hm:m301_l1 f v1 v3 x6 (n + 1) z10=some o11s:=hm
  unfold m301_l1 at hm
  refine se (rg (sq s (lt (t rfl) (t rfl)) rfl fun a w s=>nl ?_))
  refine se ?_
  refine cm s rfl hm (fun hb hm=>?_) (fun hb hm=>?_)
  ·refine wpIn_skip ?_
   refine se ?_
   refine wpIn_block ?_
   obtain ⟨x13,hx13,hm⟩:=bs hm
   refine se (rg (sq s (mv (t rfl)) rfl fun a w s=>sq s (ix (ta (k:=1002) (t rfl) rfl) (t rfl) hx13) rfl fun a w s=>sq s (ld (t rfl)) rfl fun a w s=>sqr 1019 s (alr (cs:=[(.string ByteArray.empty),(.int .i64 (0:Int)),(.int .i64 (0:Int)),(.int .i64 (0:Int)),(.slice none 0 0),(.int .i64 (0:Int)),(.int .i64 (0:Int)),(.slice none 0 0),(.int .i64 (0:Int)),(.bool false)]) (z:=.agg #[(.string ByteArray.empty),(.int .i64 (0:Int)),(.int .i64 (0:Int)),(.int .i64 (0:Int)),(.slice none 0 0),(.int .i64 (0:Int)),(.int .i64 (0:Int)),(.slice none 0 0),(.int .i64 (0:Int)),(.bool false)]) (by kernel_rfl) rfl rfl) rfl rfl fun b14 a w s=>sq s (sa (t rfl)) rfl fun a w s=>swd (K:=1019) s (t rfl) rfl (t rfl) rfl fun w s=>nl ?_))
   obtain ⟨x15,hx15,hm⟩:=bs hm
   obtain ⟨x16,hx16,hm⟩:=bs hm
   obtain ⟨x17,hx17,hm⟩:=bs hm
   obtain ⟨x18,hx18,hm⟩:=bs hm
   obtain ⟨r20,hr20,hm⟩:=bs hm
   have gr20:=gT hr20
   have er20:=gF hr20
   obtain ⟨x19,hx19,gr20⟩:=gx gr20
   obtain ⟨x24,hx24,hm⟩:=bs hm
   refine se (flow s (m:=36) (.cons (.cons (.cons (.cong (.cong (.cong (.cong (.cons (.cons (.cons (.cons (.cons (.cons (.cons (.cons (.cons (.cons (.cons (.cons (.cons (.cons (.cons (.cons (.cons (.cons (.cons (.cons (.cons (.cons (.cons (.cons (.cons (.cons (.cons (.cons (.cons .nil rfl (fm_ (off:=1) (m:=0) (q:=1) (t rfl) (by kernel_rfl) rfl)) rfl (lf (K:=1019) (f:=Signal.Kind) (t rfl) rfl)) rfl (iax (e:=377) (t rfl) (t rfl) (by kernel_rfl) (by kernel_rfl) hx15)) rfl (lsel (K:=1017) (ds:=[(fv 326 [] []),(fv 327 [] []),(fv 328 [] [])]) (t rfl) rfl rfl (idxr hx15).1 (Nat.le_of_ble_eq_true rfl) (by kernel_rfl))) rfl (mvq (t rfl))) rfl (nkq (t rfl))) rfl (fm_ (off:=5) (m:=4) (q:=5) (t rfl) (by kernel_rfl) rfl)) rfl (fm_ (off:=3) (m:=0) (q:=8) (t rfl) (by kernel_rfl) rfl)) rfl (lrc (K:=1000) (List Bool) (t rfl) rfl rfl rfl rfl)) rfl (mv (t rfl))) rfl (ixq (α:=Bool) (k:=1008) (t rfl) rfl (t rfl) hx16)) rfl (lq (k:=1008) (t rfl) rfl (idxg hx16))) rfl (mvq (t rfl))) rfl (nkq (t rfl))) rfl (fm_ (off:=5) (m:=4) (q:=5) (t rfl) (by kernel_rfl) rfl)) rfl (fm_ (off:=4) (m:=0) (q:=9) (t rfl) (by kernel_rfl) rfl)) rfl (lrc (K:=1000) (List Int) (t rfl) rfl rfl rfl rfl)) rfl (mv (t rfl))) rfl (ixq (α:=Int) (k:=1009) (t rfl) rfl (t rfl) hx17)) rfl (lq (k:=1009) (t rfl) rfl (idxg hx17))) rfl (bl381_0_1_2 (t rfl) (t rfl) cb)) rfl (fm_ (off:=2) (m:=2) (q:=2) (t rfl) (by kernel_rfl) rfl)) rfl (lf (K:=1019) (f:=Signal.On) (t rfl) rfl)) rfl (mvq (t rfl))) rfl (tfg (k:=1016) fl1 rfl (cc rfl (oc (t rfl) (oc (ta (k:=1016) (t rfl) rfl) on)) (s320 f _ _ _ hx18)))) rfl (fm_ (off:=1) (m:=0) (q:=1) (t rfl) (by kernel_rfl) rfl)) rfl (lf (K:=1019) (f:=Signal.Kind) (t rfl) rfl)) rfl (eq (t rfl) ci)) rfl (mv (t rfl))) rfl rfl rfl (fun hb=>(fm_ (off:=5) (m:=2) (q:=5) (t rfl) (by kernel_rfl) rfl))) rfl rfl rfl (fun hb=>(lf (K:=1019) (f:=Signal.Off) (tg rfl hb) rfl))) rfl rfl rfl (fun hb=>(mvq (t rfl)))) rfl rfl rfl (fun hb=>(tfg (k:=1016) fl1 rfl (cc rfl (oc (tg rfl hb) (oc (ta (k:=1016) (tg rfl hb) rfl) on)) (s320 f _ _ _ (hx19 hb)))))) rfl (pa (t rfl) rfl (fun h=>si (gr20 h)) (fun h=>(si (er20 h)).symm))) rfl (bifE hx24 (fun hj hx=>(ccv (qsel hj (t rfl) rfl) rfl (oc (t rfl) (oc (t rfl) (oc (t rfl) on))) vn vn (s326 f _ _ _ _ hx))) (fun _ hx=>(bifE hx (fun hj hx=>(ccv (qsel hj (t rfl) rfl) rfl (oc (t rfl) (oc (t rfl) (oc (t rfl) on))) vn vn (s327 f _ _ _ _ hx))) (fun _ hx=>(bifE hx (fun hj hx=>(ccv (qsel hj (t rfl) rfl) rfl (oc (t rfl) (oc (t rfl) (oc (t rfl) on))) vn vn (s328 f _ _ _ _ hx))) (fun _ hx=>(bifN hx)))))))) rfl (al (z:=(⟨false,(0:Int),false⟩:Change)))) (by kernel_rfl) rfl rfl fun a w s=>opb (d:=10) 1020 s rfl rfl fun b25 s=>sw (K:=1020) s (t rfl) rfl (t rfl) rfl fun w s=>nl ?_)
   obtain ⟨x26,hx26,hm⟩:=bs hm
   obtain ⟨x27,hx27,hm⟩:=bs hm
   refine se (flow2 [(8,Va (z10.1)),(10,Qv (pb b25 0)),(1020,Mg b25 (x24))] [0,1,2,3,4,5,6,7,8,9,10,12,13,16] [67,68,69,70,71,72,73,74,75,76,77,79,80,83] [] [81] [82,81,78] [(17,[]),(18,[82,81,78]),(19,[])] s (.skip (.skip (.skip (.cons (.late (.late (.cons (.cons (.late (.cons (.cons (.cons (.cons (.cons (.cons (.cons (.cons (.cons (.cons (.cons .nil rfl rfl (mvq (t rfl))) rfl rfl (nkq (t rfl))) rfl rfl (fm_ (off:=5) (m:=4) (q:=5) (t rfl) (by kernel_rfl) rfl)) rfl rfl (fm_ (off:=3) (m:=0) (q:=8) (t rfl) (by kernel_rfl) rfl)) rfl rfl (lrc (K:=1000) (List Bool) (t rfl) rfl rfl rfl rfl)) rfl rfl (mv (t rfl))) rfl rfl (mvq (t rfl))) rfl rfl (nkq (t rfl))) rfl rfl (fm_ (off:=5) (m:=4) (q:=5) (t rfl) (by kernel_rfl) rfl)) rfl rfl (fm_ (off:=4) (m:=0) (q:=9) (t rfl) (by kernel_rfl) rfl)) rfl rfl (lrc (K:=1000) (List Int) (t rfl) rfl rfl rfl rfl)) rfl rfl (mv (t rfl))) rfl rfl (fm_ (off:=0) (m:=0) (q:=0) (t rfl) (by kernel_rfl) rfl)) rfl rfl (lf (K:=1020) (f:=Change.value) (t rfl) rfl)) rfl rfl (fm_ (off:=1) (m:=0) (q:=1) (t rfl) (by kernel_rfl) rfl)) rfl rfl (lf (K:=1020) (f:=Change.timer) (t rfl) rfl)) rfl rfl (ixq (α:=Bool) (k:=1008) (t rfl) rfl (t rfl) hx26)) rfl) rfl) rfl) (by kernel_rfl) (by kernel_rfl) rfl rfl (sb1 rfl (sb1 rfl (sb1 rfl sb0))) rfl (by decide) rfl rfl ?_)
   refine ⟨⟨fun _=>rfl,rfl,.inr ⟨(sb1 rfl (sb1 rfl (sb1 rfl sb0))),sb0,(sn2 rfl sn0)⟩⟩,by kernel_rfl,_,rfl,fun Ψ a w s=>stq (k:=1008) s (t rfl) rfl (idxg hx26) (t rfl) fun w s=>nl ?_⟩
   refine nxt Ψ s ?_
   refine ⟨⟨fun _=>rfl,rfl,.inr ⟨(sb1 rfl (sb1 rfl (sb1 rfl sb0))),sb0,(sn2 rfl sn0)⟩⟩,by kernel_rfl,_,rfl,fun Ψ a w s=>sq s (ixq (α:=Int) (k:=1009) (t rfl) rfl (t rfl) hx27) rfl fun a w s=>nl ?_⟩
   refine nxt Ψ s ?_
   refine ⟨⟨fun _=>rfl,rfl,.inl rfl⟩,by kernel_rfl,_,rfl,fun Ψ a w s=>stq (k:=1009) s (t rfl) rfl (idxg hx27) (t rfl) fun w s=>nl ?_⟩
   refine nxt Ψ s ?_
   refine ⟨⟨fun _=>rfl,rfl,.inl rfl⟩,fun a w s=>?_⟩
   replace s:St M w_0 105 [(0,Qv (pb n0 0)),(2,Va (false)),(3,Qv (.slice none 0 0)),(4,Qv (pb b3 0)),(5,Qv y7),(6,Qv (pb b9 0)),(7,Qv z10c0),(8,Va (z10.1)),(9,Qv (pb b14 0)),(10,Qv (pb b25 0)),(25,Qv n2),(26,Va ((v3.length:Int))),(27,Va (z10.1)),(1000,Mr n0 [(.int .i64 v0),n1,n2,n3,n4,n5,n6,n7,n8,n9,(.int .i64 v1)]),(1001,At n1 (Va (v2))),(1002,At n2 (Va (v3))),(1003,At n3 (Va (v4))),(1004,At n4 (Va (v5))),(1005,Ow 3 n5 (v6)),(1006,Ow 4 n6 (v7)),(1007,Ow 4 n7 (v8)),(1008,Ow 4 n8 ((z10.2.1.set z10.1.toNat ((x24).value)))),(1009,Ow 3 n9 ((z10.2.2.1.set z10.1.toNat ((x24).timer)))),(1015,Mr b3 [y2.1,y2.2.1,y2.2.2.1,y2.2.2.2.1,y2.2.2.2.2]),(1010,Ow 3 y2.1 (x1.1)),(1011,Ow 4 y2.2.1 (x1.2.1)),(1012,Ow 4 y2.2.2.1 (x1.2.2.1)),(1013,Ow 4 y2.2.2.2.1 (x1.2.2.2.1)),(1014,Ow 3 y2.2.2.2.2 (x1.2.2.2.2)),(1016,Ow 4 y7 (x6)),(1017,Mr b9 [(fv 326 [] []),(fv 327 [] []),(fv 328 [] [])]),(1018,Ow 3 z10c0 (z10.2.2.2)),(1019,Mg b14 (x13)),(1020,Mg b25 (x24))] a w:=s.pick [0,2,3,4,5,6,7,8,9,10,25,26,27,1000,1001,1002,1003,1004,1005,1006,1007,1008,1009,1015,1010,1011,1012,1013,1014,1016,1017,1018,1019,1020]
   refine se (rg (sq s (fm_ (off:=2) (m:=0) (q:=2) (t rfl) (by kernel_rfl) rfl) rfl fun a w s=>sq s (lf (K:=1020) (f:=Change.conflict) (t rfl) rfl) rfl fun a w s=>nl ?_))
   obtain ⟨z28,hz28,hkz28⟩:=bs hm
   refine cpI (fun a w=>∃ (z28c0:Value),St M w_0 105 [(0,Qv (pb n0 0)),(2,Va (false)),(3,Qv (.slice none 0 0)),(4,Qv (pb b3 0)),(5,Qv y7),(6,Qv (pb b9 0)),(7,Qv z28c0),(8,Va (z10.1)),(9,Qv (pb b14 0)),(10,Qv (pb b25 0)),(25,Qv n2),(26,Va ((v3.length:Int))),(27,Va (z10.1)),(1000,Mr n0 [(.int .i64 v0),n1,n2,n3,n4,n5,n6,n7,n8,n9,(.int .i64 v1)]),(1001,At n1 (Va (v2))),(1002,At n2 (Va (v3))),(1003,At n3 (Va (v4))),(1004,At n4 (Va (v5))),(1005,Ow 3 n5 (v6)),(1006,Ow 4 n6 (v7)),(1007,Ow 4 n7 (v8)),(1008,Ow 4 n8 ((z10.2.1.set z10.1.toNat ((x24).value)))),(1009,Ow 3 n9 ((z10.2.2.1.set z10.1.toNat ((x24).timer)))),(1015,Mr b3 [y2.1,y2.2.1,y2.2.2.1,y2.2.2.2.1,y2.2.2.2.2]),(1010,Ow 3 y2.1 (x1.1)),(1011,Ow 4 y2.2.1 (x1.2.1)),(1012,Ow 4 y2.2.2.1 (x1.2.2.1)),(1013,Ow 4 y2.2.2.2.1 (x1.2.2.2.1)),(1014,Ow 3 y2.2.2.2.2 (x1.2.2.2.2)),(1016,Ow 4 y7 (x6)),(1017,Mr b9 [(fv 326 [] []),(fv 327 [] []),(fv 328 [] [])]),(1018,Ow 3 z28c0 (z28)),(1019,Mg b14 (x13)),(1020,Mg b25 (x24))] a w) ?_ fun a w s=>?_
   ·refine cm s rfl hz28 (fun hb hm=>?_) (fun hb hm=>?_)
    ·obtain ⟨x29,hx29,hm⟩:=bs hm
     refine rg (sq s (mvq (t rfl)) rfl fun a w s=>sq s (mvq (t rfl)) rfl fun a w s=>sq s (nkq (t rfl)) rfl fun a w s=>sq s (fm_ (off:=10) (m:=0) (q:=10) (t rfl) (by kernel_rfl) rfl) rfl fun a w s=>sq s (lrc (K:=1000) Int (t rfl) rfl rfl rfl rfl) rfl fun a w s=>sq s (mv (t rfl)) rfl fun a w s=>sq s (ad (qi (t rfl)) (t rfl)) rfl fun a w s=>sq s (bsv (o1 (t rfl) o0) rfl rfl (by kernel_rfl)) rfl fun a w s=>apd (α:=Int) (k:=1018) s (t rfl) rfl (t rfl) hx29 rfl rfl fun c30 a w s=>sq s (saq (t rfl)) rfl fun a w s=>nl ?_)
     obtain rfl:=si hm
     exact ⟨c30,s.pick [0,2,3,4,5,6,7,8,9,10,25,26,27,1000,1001,1002,1003,1004,1005,1006,1007,1008,1009,1015,1010,1011,1012,1013,1014,1016,1017,1018,1019,1020]⟩
    ·refine wpIn_skip ?_
     obtain rfl:=si hm
     exact ⟨z10c0,s.pick [0,2,3,4,5,6,7,8,9,10,25,26,27,1000,1001,1002,1003,1004,1005,1006,1007,1008,1009,1015,1010,1011,1012,1013,1014,1016,1017,1018,1019,1020]⟩
   ·obtain ⟨z28c0,s⟩:=s
    replace hm:=hkz28
    refine rg (sq s (ad (t rfl) ci) rfl fun a w s=>sq s (mv (t rfl)) rfl fun a w s=>nl ?_)
    exact ⟨_,hm,⟨z28c0,s.pick [0,2,3,4,5,6,7,25,26,27,1000,1001,1002,1003,1004,1005,1006,1007,1008,1009,1015,1010,1011,1012,1013,1014,1016,1017,1018]⟩⟩
  ·refine wpIn_exit ?_
   obtain rfl:=si hm
   exact ⟨z10c0,s.pick [0,2,3,4,5,6,7,25,26,27,1000,1001,1002,1003,1004,1005,1006,1007,1008,1009,1015,1010,1011,1012,1013,1014,1016,1017,1018]⟩
 ·obtain ⟨o11sc0,s⟩:=s
  replace hm:=hko11
  obtain ⟨x31,hx31,hm⟩:=bs hm
  refine se (flow2 [(7,Qv o11sc0)] [0,1,2,3,4,5,6] [97,98,99,100,101,102,103] [] [] [104] [(8,[]),(9,[104])] s (.skip (.skip (.late (.cons (.cons (.cons (.cons (.cons (.cons (.cons .nil rfl rfl (lra (K:=1015) (ds:=[y2.1,y2.2.1,y2.2.2.1,y2.2.2.2.1,y2.2.2.2.2]) State (t rfl) rfl rfl rfl rfl)) rfl rfl (mvq (t rfl))) rfl rfl (nkq (t rfl))) rfl rfl (fm_ (off:=5) (m:=4) (q:=5) (t rfl) (by kernel_rfl) rfl)) rfl rfl (lra (K:=1000) (ds:=[n5,n6,n7,n8,n9]) State (t rfl) rfl rfl rfl rfl)) rfl rfl (tfg (k:=1009) fl1 rfl (tfg (k:=1008) fl1 rfl (tfg (k:=1007) fl1 rfl (tfg (k:=1006) fl1 rfl (tfg (k:=1005) fl1 rfl (tfg (k:=1014) fl1 rfl (tfg (k:=1013) fl1 rfl (tfg (k:=1012) fl1 rfl (tfg (k:=1011) fl1 rfl (tfg (k:=1010) fl1 rfl (cc rfl (oc (qad (y:=(⟨x1.1,x1.2.1,x1.2.2.1,x1.2.2.2.1,x1.2.2.2.2⟩:State)) (t rfl) (rpS30 (l:=([y2.1],[y2.2.1],[y2.2.2.1],[y2.2.2.2.1],[y2.2.2.2.2])) (rpz (k:=1010) rfl) (rpz (k:=1011) rfl) (rpz (k:=1012) rfl) (rpz (k:=1013) rfl) (rpz (k:=1014) rfl)) rfl) (oc (qad (y:=(⟨v6,v7,v8,o11s.2.1,o11s.2.2.1⟩:State)) (t rfl) (rpS30 (l:=([n5],[n6],[n7],[n8],[n9])) (rpz (k:=1005) rfl) (rpz (k:=1006) rfl) (rpz (k:=1007) rfl) (rpz (k:=1008) rfl) (rpz (k:=1009) rfl)) rfl) on)) (s120 f _ _ _ hx31))))))))))))) rfl rfl (nt (t rfl))) rfl rfl (mvq (t rfl))) rfl) rfl) (by kernel_rfl) (by kernel_rfl) rfl rfl (sb1 rfl sb0) rfl (by decide) rfl rfl ?_)
  refine ⟨⟨fun _=>rfl,rfl,.inr ⟨(sb1 rfl sb0),sb0,sn0⟩⟩,by kernel_rfl,_,rfl,fun Ψ a w s=>sq s (sa (t rfl)) rfl fun a w s=>nl ?_⟩
  refine nxt Ψ s ?_
  refine ⟨⟨fun _=>rfl,rfl,.inr ⟨(sb1 rfl sb0),sb0,sn0⟩⟩,by kernel_rfl,_,rfl,fun Ψ a w s=>sq s (saq (t rfl)) rfl fun a w s=>nl ?_⟩
  refine nxt Ψ s ?_
  refine ⟨⟨fun _=>rfl,rfl,.inl rfl⟩,fun a w s=>?_⟩
  replace s:St M w_0 105 [(0,Qv (pb n0 0)),(2,Va ((!x31))),(3,Qv o11sc0),(4,Qv (pb b3 0)),(5,Qv y7),(6,Qv (pb b9 0)),(7,Qv o11sc0),(25,Qv n2),(26,Va ((v3.length:Int))),(27,Va (o11s.1)),(1000,Mr n0 [(.int .i64 v0),n1,n2,n3,n4,n5,n6,n7,n8,n9,(.int .i64 v1)]),(1001,At n1 (Va (v2))),(1002,At n2 (Va (v3))),(1003,At n3 (Va (v4))),(1004,At n4 (Va (v5))),(1005,Ow 3 n5 (v6)),(1006,Ow 4 n6 (v7)),(1007,Ow 4 n7 (v8)),(1008,Ow 4 n8 (o11s.2.1)),(1009,Ow 3 n9 (o11s.2.2.1)),(1018,Ow 3 o11sc0 (o11s.2.2.2)),(1015,Mr b3 [y2.1,y2.2.1,y2.2.2.1,y2.2.2.2.1,y2.2.2.2.2]),(1010,Ow 3 y2.1 (x1.1)),(1011,Ow 4 y2.2.1 (x1.2.1)),(1012,Ow 4 y2.2.2.1 (x1.2.2.1)),(1013,Ow 4 y2.2.2.2.1 (x1.2.2.2.1)),(1014,Ow 3 y2.2.2.2.2 (x1.2.2.2.2)),(1016,Ow 4 y7 (x6)),(1017,Mr b9 [(fv 326 [] []),(fv 327 [] []),(fv 328 [] [])])] a w:=s.pick [0,2,3,4,5,6,7,25,26,27,1000,1001,1002,1003,1004,1005,1006,1007,1008,1009,1018,1015,1010,1011,1012,1013,1014,1016,1017]
  obtain rfl:=si hm
  refine fzk (α:=Int) (k:=1018) hM s rfl fun s=>?_
  refine wpIn_ret ?_
  exact rz [1000,1001,1002,1003,1004,1005,1006,1007,1008,1009] () hM hD s rfl (rv2 (rt rfl) (ro (ta (k:=1018) (t rfl) rfl))) (kc rfl (kc rfl (kc rfl (kc rfl (kc rfl (kc rfl (kc rfl (kc rfl (kc rfl (kc rfl kn)))))))))) rfl
def m273_l1 (f:Nat) (v0:Int) (v1:Int) (v2:List ByteArray) (v3:List Signal) (v4:List Int) (v5:List Int) (v6:List Int) (v7:List Bool) (v8:List Bool):Nat→(Int×(List Bool)×(List Int)×(List Int))→Option (Lo (Int×(List Bool)×(List Int)×(List Int)) (Int×Int×(List Bool)×(List Int)×(List Int)))
 | 0,_=>none
 | n+1,z1=>(bif (decide (z1.1≤(64:Int))) then (m301 f v0 v1 v2 v3 v4 v5 v6 v7 v8 z1.2.1 z1.2.2.1).bind fun x4=>(app z1.2.2.2 x4.2.1).bind fun x6=>(bif (!x4.1) then (m206 f x6).bind fun x8=>(m207 f x8).bind fun x10=>some (.ret (z1.1,(0:Int),x4.2.2.1,x4.2.2.2,x10)) else m273_l1 f v0 v1 v2 v3 v4 v5 v6 v7 v8 n ((wr (z1.1 + (1:Int))),x4.2.2.1,x4.2.2.2,x6)) else some (.brk (z1.1,z1.2.1,z1.2.2.1,z1.2.2.2)))
def m273 (f:Nat) (v0:Int) (v1:Int) (v2:List ByteArray) (v3:List Signal) (v4:List Int) (v5:List Int) (v6:List Int) (v7:List Bool) (v8:List Bool) (v9:List Bool) (v10:List Int):Option (Int×Int×(List Bool)×(List Int)×(List Int)):=((m273_l1 f v0 v1 v2 v3 v4 v5 v6 v7 v8 f ((0:Int),v9,v10,([]:List Int))).bind fun o2=>match o2 with | .brk o2s=>some ((0:Int),(21:Int),o2s.2.1,o2s.2.2.1,([]:List Int)) | .ret r=>some r)
set_option maxRecDepth 100000 in
theorem s273 (f:Nat) (n0:Nat) (n1:Value) (n2:Value) (n3:Value) (n4:Value) (n5:Value) (n6:Value) (n7:Value) (n8:Value) (n9:Value) (v0:Int) (v1:Int) (v2:List ByteArray) (v3:List Signal) (v4:List Int) (v5:List Int) (v6:List Int) (v7:List Bool) (v8:List Bool) (v9:List Bool) (v10:List Int) (r:Int×Int×(List Bool)×(List Int)×(List Int)) (hm:m273 f v0 v1 v2 v3 v4 v5 v6 v7 v8 v9 v10=some r):Cg Tryz.prog 273 [Qv (pb n0 0)] [Mr n0 [(.int .i64 v0),n1,n2,n3,n4,n5,n6,n7,n8,n9,(.int .i64 v1)],At n1 (Va (v2)),At n2 (Va (v3)),At n3 (Va (v4)),At n4 (Va (v5)),Ow 3 n5 (v6),Ow 4 n6 (v7),Ow 4 n7 (v8),Ow 4 n8 (v9),Ow 3 n9 (v10)] (Rz (fun x:Value=>T3 (Va (r.1)) (Qv x) (Va (r.2.1))) (fun x=>[Mr n0 [(.int .i64 v0),n1,n2,n3,n4,n5,n6,n7,n8,n9,(.int .i64 v1)],At n1 (Va (v2)),At n2 (Va (v3)),At n3 (Va (v4)),At n4 (Va (v5)),Ow 3 n5 (v6),Ow 4 n6 (v7),Ow 4 n7 (v8),Ow 4 n8 (r.2.2.1),Ow 3 n9 (r.2.2.2.1),Ow 3 x (r.2.2.2.2)])):=by
 unfold m273 at hm
 refine eng Tryz.func273 (by kernel_rfl) rfl Tryz.ntmps273 rfl rfl fun M w_0 a hM hD s=>?_
 refine se (rg (sq s (sa ci) rfl fun a w s=>sq s (saq cq) rfl fun a w s=>sq s (sa ci) rfl fun a w s=>nl ?_))
 refine se (rg (sq s (saq cq) rfl fun a w s=>nl ?_))
 refine se ?_
 refine se (rg (sq s (sa ci) rfl fun a w s=>nl ?_))
 refine nilt (α:=Int) (d:=5) 1010 3 s rfl rfl fun c3 s=>?_
 obtain ⟨o2,hoo2,hko2⟩:=bs hm
 refine lcI o2 (fun o2s a w=>∃ (o2sc0:Value),St M w_0 28 [(0,Qv (pb n0 0)),(2,Va ((0:Int))),(3,Qv (.slice none 0 0)),(4,Va ((0:Int))),(5,Qv o2sc0),(6,Va (o2s.1)),(1000,Mr n0 [(.int .i64 v0),n1,n2,n3,n4,n5,n6,n7,n8,n9,(.int .i64 v1)]),(1001,At n1 (Va (v2))),(1002,At n2 (Va (v3))),(1003,At n3 (Va (v4))),(1004,At n4 (Va (v5))),(1005,Ow 3 n5 (v6)),(1006,Ow 4 n6 (v7)),(1007,Ow 4 n7 (v8)),(1008,Ow 4 n8 (o2s.2.1)),(1009,Ow 3 n9 (o2s.2.2.1)),(1010,Ow 3 o2sc0 (o2s.2.2.2))] a w) ?_ fun o2s a w ho s=>?_
 ·refine wpIn_block ?_
  refine loI (fun n z1=>m273_l1 f v0 v1 v2 v3 v4 v5 v6 v7 v8 n z1) o2 (fun z1 a w=>∃ (z1c0:Value),St M w_0 28 [(0,Qv (pb n0 0)),(2,Va ((0:Int))),(3,Qv (.slice none 0 0)),(4,Va ((0:Int))),(5,Qv z1c0),(6,Va (z1.1)),(1000,Mr n0 [(.int .i64 v0),n1,n2,n3,n4,n5,n6,n7,n8,n9,(.int .i64 v1)]),(1001,At n1 (Va (v2))),(1002,At n2 (Va (v3))),(1003,At n3 (Va (v4))),(1004,At n4 (Va (v5))),(1005,Ow 3 n5 (v6)),(1006,Ow 4 n6 (v7)),(1007,Ow 4 n7 (v8)),(1008,Ow 4 n8 (z1.2.1)),(1009,Ow 3 n9 (z1.2.2.1)),(1010,Ow 3 z1c0 (z1.2.2.2))] a w) f ((0:Int),v9,v10,([]:List Int)) ⟨c3,s.pick [0,2,3,4,5,6,1000,1001,1002,1003,1004,1005,1006,1007,1008,1009,1010]⟩ hoo2 (fun _=>rfl) fun n z1 a w hm s=>?_
  obtain ⟨z1c0,s⟩:=s
  replace hm:m273_l1 f v0 v1 v2 v3 v4 v5 v6 v7 v8 (n + 1) z1=some o2:=hm
  unfold m273_l1 at hm
  refine se ?_
  refine se (rg (sq s (mv (t rfl)) rfl fun a w s=>sq s (le (t rfl) ci) rfl fun a w s=>nl ?_))
  refine cm s rfl hm (fun hb hm=>?_) (fun hb hm=>?_)
  ·refine wpIn_skip ?_
   refine se ?_
   refine wpIn_block ?_
   obtain ⟨x4,hx4,hm⟩:=bs hm
   refine se (rg (sq s (mvq (t rfl)) rfl fun a w s=>cgv [1000,1001,1002,1003,1004,1005,1006,1007,1008,1009] [1000,1001,1002,1003,1004,1005,1006,1007,1008,1009] hM s qf rfl (oc (t rfl) on) vn vn (s301 f n0 n1 n2 n3 n4 n5 n6 n7 n8 n9 _ _ _ _ _ _ _ _ _ _ _ _ hx4) (kc rfl (kc rfl (kc rfl (kc rfl (kc rfl (kc rfl (kc rfl (kc rfl (kc rfl (kc rfl kn)))))))))) rfl (fun _=>rfl) rfl rfl rfl fun y5 a w s=>sq s (mve (t rfl)) rfl fun a w s=>sq s (Pn.x20 (t rfl)) rfl fun a w s=>sq s (Pn.x21 (t rfl)) rfl fun a w s=>sq s (sa (t rfl)) rfl fun a w s=>sq s (sa (t rfl)) rfl fun a w s=>nl ?_))
   obtain ⟨x6,hx6,hm⟩:=bs hm
   refine se (rg (sq s (mvq (t rfl)) rfl fun a w s=>sq s (mv (t rfl)) rfl fun a w s=>apd (α:=Int) (k:=1010) s (t rfl) rfl (t rfl) hx6 rfl rfl fun c7 a w s=>sq s (saq (t rfl)) rfl fun a w s=>nl ?_))
   refine se (rg (sq s (mv (t rfl)) rfl fun a w s=>sq s (nt (t rfl)) rfl fun a w s=>nl ?_))
   refine cm s rfl hm (fun hb hm=>?_) (fun hb hm=>?_)
   ·obtain ⟨x8,hx8,hm⟩:=bs hm
    refine se (rg (sq s (mvq (t rfl)) rfl fun a w s=>cgv [1010] [1010] hM s qf rfl (oc (t rfl) on) vn vn (s206 f c7 _ _ hx8) (kc rfl kn) rfl (fun _=>rfl) rfl rfl rfl fun y9 a w s=>nl ?_))
    obtain ⟨x10,hx10,hm⟩:=bs hm
    refine se (rg (sq s (mv (t rfl)) rfl fun a w s=>sq s (mvq (t rfl)) rfl fun a w s=>cgv [1010] [1010] hM s qf rfl (oc (t rfl) on) vn vn (s207 f c7 _ _ hx10) (kc rfl kn) rfl (fun _=>rfl) rfl rfl rfl fun y11 a w s=>sq s (sa (t rfl)) rfl fun a w s=>sq s (saq (t rfl)) rfl fun a w s=>sq s (sa ci) rfl fun a w s=>nl ?_))
    obtain rfl:=si hm
    replace hm:=hko2
    dsimp only at hm
    obtain rfl:=si hm
    refine wpIn_ret ?_
    exact rz [1000,1001,1002,1003,1004,1005,1006,1007,1008,1009,1010] y11 hM hD s rfl (rv3 (rt rfl) (rt rfl) (rt rfl)) (kc rfl (kc rfl (kc rfl (kc rfl (kc rfl (kc rfl (kc rfl (kc rfl (kc rfl (kc rfl (kc rfl kn))))))))))) rfl
   ·refine wpIn_skip ?_
    refine rg (sq s (mv (t rfl)) rfl fun a w s=>sq s (ad (t rfl) ci) rfl fun a w s=>sq s (sa (t rfl)) rfl fun a w s=>nl ?_)
    exact ⟨_,hm,⟨c7,s.pick [0,2,3,4,5,6,1000,1001,1002,1003,1004,1005,1006,1007,1008,1009,1010]⟩⟩
  ·refine wpIn_exit ?_
   exact ⟨_,(si hm).symm,⟨z1c0,s.pick [0,2,3,4,5,6,1000,1001,1002,1003,1004,1005,1006,1007,1008,1009,1010]⟩⟩
 ·obtain ⟨o2sc0,s⟩:=s
  subst ho
  replace hm:=hko2
  dsimp only at hm
  refine se (rg (sq s (sa ci) rfl fun a w s=>sq s (saq cq) rfl fun a w s=>sq s (sa ci) rfl fun a w s=>nl ?_))
  obtain rfl:=si hm
  refine nilt (α:=Int) (d:=3) 1012 3 s rfl rfl fun c12 s=>?_
  refine wpIn_ret ?_
  exact rz [1000,1001,1002,1003,1004,1005,1006,1007,1008,1009,1012] c12 hM hD s rfl (rv3 (rt rfl) (rt rfl) (rt rfl)) (kc rfl (kc rfl (kc rfl (kc rfl (kc rfl (kc rfl (kc rfl (kc rfl (kc rfl (kc rfl (kc rfl kn))))))))))) rfl
def m250 (f:Nat) (v0:Control) (v1:State):Option (State×Int×(List Int)):=(m272 f v0 v1).bind fun x2=>match x2 with | .inl x2=>(bif (x2 != (0:Int)) then some ((⟨([]:List Int),([]:List Bool),([]:List Bool),([]:List Bool),([]:List Int)⟩:State),x2,([]:List Int)) else none) | .inr x2=>(bif (x2.1 != (0:Int)) then some ((⟨([]:List Int),([]:List Bool),([]:List Bool),([]:List Bool),([]:List Int)⟩:State),x2.1,([]:List Int)) else (m273 f x2.2.1 x2.2.2.1 x2.2.2.2.1 x2.2.2.2.2.1 x2.2.2.2.2.2.1 x2.2.2.2.2.2.2.1 x2.2.2.2.2.2.2.2.1 x2.2.2.2.2.2.2.2.2.1 x2.2.2.2.2.2.2.2.2.2.1 x2.2.2.2.2.2.2.2.2.2.2.1 x2.2.2.2.2.2.2.2.2.2.2.2).bind fun x5=>(bif (x5.2.1 != (0:Int)) then some ((⟨([]:List Int),([]:List Bool),([]:List Bool),([]:List Bool),([]:List Int)⟩:State),x5.2.1,([]:List Int)) else some ((⟨x2.2.2.2.2.2.2.2.1,x2.2.2.2.2.2.2.2.2.1,x2.2.2.2.2.2.2.2.2.2.1,x5.2.2.1,x5.2.2.2.1⟩:State),(0:Int),x5.2.2.2.2)))
set_option maxRecDepth 100000 in
set_option maxHeartbeats 2000000 in
theorem s250 (f:Nat) (v0:Control) (v1:State) (r:State×Int×(List Int)) (hm:m250 f v0 v1=some r):Sp Tryz.prog 250 [Va (v0),Va (v1)] (Rz (fun x:Value=>T3 (Va (r.1)) (Qv x) (Va (r.2.1))) (fun x=>[Ow 3 x (r.2.2)])):=by
 unfold m250 at hm
 refine ens Tryz.func250 (by kernel_rfl) rfl Tryz.ntmps250 rfl rfl fun M w_0 a hM hD s=>?_
 refine se (rg (sq s (bx (t rfl)) rfl fun a w s=>sq s (bx (t rfl)) rfl fun a w s=>sqr 1000 s (alr (cs:=[(.slice none 0 0),(.slice none 0 0),(.slice none 0 0),(.slice none 0 0),(.slice none 0 0)]) (z:=.agg #[(.slice none 0 0),(.slice none 0 0),(.slice none 0 0),(.slice none 0 0),(.slice none 0 0)]) (by kernel_rfl) rfl rfl) rfl rfl fun b1 a w s=>sq s (saq cq) rfl fun a w s=>sq s (sa ci) rfl fun a w s=>nl ?_))
 obtain ⟨x2,hx2,hm⟩:=bs hm
 rcases x2 with x2 | x2
 ·dsimp only at hm
  refine se (rg (sq s (ld (t rfl)) rfl fun a w s=>sq s (ld (t rfl)) rfl fun a w s=>sq s (cc rfl (oc (t rfl) (oc (t rfl) on)) (smR (R:=(T2 (Qv (.pointer none)) (Va (x2)))) (s272 f _ _ _ hx2))) rfl fun a w s=>sq s (mve (t rfl)) rfl fun a w s=>sq s (Pn.x20 (t rfl)) rfl fun a w s=>sq s (Pn.x21 (t rfl)) rfl fun a w s=>sq s (saq (t rfl)) rfl fun a w s=>sq s (sa (t rfl)) rfl fun a w s=>nl ?_))
  refine se ?_
  refine se (rg (sq s (mv (t rfl)) rfl fun a w s=>sq s (ne (t rfl) ci) rfl fun a w s=>nl ?_))
  refine cm s rfl hm (fun hb hm=>?_) (fun hb hm=>?_)
  ·refine se (rg (sq s (bla (L:=[(0,1),(1,1),(2,1),(3,1),(4,1)]) (z:=[(.slice none 0 0),(.slice none 0 0),(.slice none 0 0),(.slice none 0 0),(.slice none 0 0)]) (res:=[(.slice none 0 0),(.slice none 0 0),(.slice none 0 0),(.slice none 0 0),(.slice none 0 0)]) rfl (by kernel_rfl) (by kernel_rfl) pdn rfl rfl) rfl fun a w s=>sq s (mv (t rfl)) rfl fun a w s=>sra (K:=1000) (m:=[(.slice none 0 0),(.slice none 0 0),(.slice none 0 0),(.slice none 0 0),(.slice none 0 0)]) (cs':=[(.slice none 0 0),(.slice none 0 0),(.slice none 0 0),(.slice none 0 0),(.slice none 0 0)]) s (t rfl) rfl (t rfl) (by kernel_rfl) rfl rfl rfl fun w s=>sq s (saq cq) rfl fun a w s=>sq s (sa (t rfl)) rfl fun a w s=>nl ?_))
   obtain rfl:=si hm
   refine shut (k:=1000) (x:=(⟨([]:List Int),([]:List Bool),([]:List Bool),([]:List Bool),([]:List Int)⟩:State)) s rfl (rpS30 (l:=([(.slice none 0 0)],[(.slice none 0 0)],[(.slice none 0 0)],[(.slice none 0 0)],[(.slice none 0 0)])) (rpn (α:=Int)) (rpn (α:=Bool)) (rpn (α:=Bool)) (rpn (α:=Bool)) (rpn (α:=Int))) fun s=>?_
   refine nilt (α:=Int) (d:=5) 1001 3 s rfl rfl fun c3 s=>?_
   refine wpIn_ret ?_
   exact rz [1001] c3 hM hD s rfl (rv3 (rc (K:=1000) rfl rfl) (rt rfl) (rt rfl)) (kc rfl kn) rfl
  ·refine wpIn_skip ?_
   cases hm
 ·dsimp only at hm
  refine se (rg (sq s (ld (t rfl)) rfl fun a w s=>sq s (ld (t rfl)) rfl fun a w s=>sqz [1001,1002,1003,1004,1005,1006,1007,1008,1009,1010] hM s (cc rfl (oc (t rfl) (oc (t rfl) on)) (smR (R:=(Rz (fun x:Nat×Value×Value×Value×Value×Value×Value×Value×Value×Value=>T2 (Qv (pb x.1 0)) (Va (x2.1))) (fun x=>[Mr x.1 [(.int .i64 x2.2.1),x.2.1,x.2.2.1,x.2.2.2.1,x.2.2.2.2.1,x.2.2.2.2.2.1,x.2.2.2.2.2.2.1,x.2.2.2.2.2.2.2.1,x.2.2.2.2.2.2.2.2.1,x.2.2.2.2.2.2.2.2.2,(.int .i64 x2.2.2.1)],At x.2.1 (Va (x2.2.2.2.1)),At x.2.2.1 (Va (x2.2.2.2.2.1)),At x.2.2.2.1 (Va (x2.2.2.2.2.2.1)),At x.2.2.2.2.1 (Va (x2.2.2.2.2.2.2.1)),Ow 3 x.2.2.2.2.2.1 (x2.2.2.2.2.2.2.2.1),Ow 4 x.2.2.2.2.2.2.1 (x2.2.2.2.2.2.2.2.2.1),Ow 4 x.2.2.2.2.2.2.2.1 (x2.2.2.2.2.2.2.2.2.2.1),Ow 4 x.2.2.2.2.2.2.2.2.1 (x2.2.2.2.2.2.2.2.2.2.2.1),Ow 3 x.2.2.2.2.2.2.2.2.2 (x2.2.2.2.2.2.2.2.2.2.2.2)]))) (s272 f _ _ _ hx2))) (fun _=>rfl) rfl rfl fun y3 a w s=>sq s (mve (t rfl)) rfl fun a w s=>sq s (Pn.x20 (t rfl)) rfl fun a w s=>sq s (Pn.x21 (t rfl)) rfl fun a w s=>sq s (saq (t rfl)) rfl fun a w s=>sq s (sa (t rfl)) rfl fun a w s=>nl ?_))
  refine se ?_
  refine se (rg (sq s (mv (t rfl)) rfl fun a w s=>sq s (ne (t rfl) ci) rfl fun a w s=>nl ?_))
  refine cm s rfl hm (fun hb hm=>?_) (fun hb hm=>?_)
  ·refine se (rg (sq s (bla (L:=[(0,1),(1,1),(2,1),(3,1),(4,1)]) (z:=[(.slice none 0 0),(.slice none 0 0),(.slice none 0 0),(.slice none 0 0),(.slice none 0 0)]) (res:=[(.slice none 0 0),(.slice none 0 0),(.slice none 0 0),(.slice none 0 0),(.slice none 0 0)]) rfl (by kernel_rfl) (by kernel_rfl) pdn rfl rfl) rfl fun a w s=>sq s (mv (t rfl)) rfl fun a w s=>sra (K:=1000) (m:=[(.slice none 0 0),(.slice none 0 0),(.slice none 0 0),(.slice none 0 0),(.slice none 0 0)]) (cs':=[(.slice none 0 0),(.slice none 0 0),(.slice none 0 0),(.slice none 0 0),(.slice none 0 0)]) s (t rfl) rfl (t rfl) (by kernel_rfl) rfl rfl rfl fun w s=>sq s (saq cq) rfl fun a w s=>sq s (sa (t rfl)) rfl fun a w s=>nl ?_))
   obtain rfl:=si hm
   refine shut (k:=1000) (x:=(⟨([]:List Int),([]:List Bool),([]:List Bool),([]:List Bool),([]:List Int)⟩:State)) s rfl (rpS30 (l:=([(.slice none 0 0)],[(.slice none 0 0)],[(.slice none 0 0)],[(.slice none 0 0)],[(.slice none 0 0)])) (rpn (α:=Int)) (rpn (α:=Bool)) (rpn (α:=Bool)) (rpn (α:=Bool)) (rpn (α:=Int))) fun s=>?_
   refine nilt (α:=Int) (d:=5) 1011 3 s rfl rfl fun c4 s=>?_
   refine wpIn_ret ?_
   exact rz [1011] c4 hM hD s rfl (rv3 (rc (K:=1000) rfl rfl) (rt rfl) (rt rfl)) (kc rfl kn) rfl
  ·refine wpIn_skip ?_
   obtain ⟨x5,hx5,hm⟩:=bs hm
   refine se (rg (sq s (mvq (t rfl)) rfl fun a w s=>cgv [1001,1002,1003,1004,1005,1006,1007,1008,1009,1010] [1001,1002,1003,1004,1005,1006,1007,1008,1009,1010,1012] hM s qf rfl (oc (t rfl) on) vn vn (s273 f y3.1 y3.2.1 y3.2.2.1 y3.2.2.2.1 y3.2.2.2.2.1 y3.2.2.2.2.2.1 y3.2.2.2.2.2.2.1 y3.2.2.2.2.2.2.2.1 y3.2.2.2.2.2.2.2.2.1 y3.2.2.2.2.2.2.2.2.2 _ _ _ _ _ _ _ _ _ _ _ _ hx5) (kc rfl (kc rfl (kc rfl (kc rfl (kc rfl (kc rfl (kc rfl (kc rfl (kc rfl (kc rfl kn)))))))))) rfl (fun _=>rfl) rfl rfl rfl fun y6 a w s=>sq s (mve (t rfl)) rfl fun a w s=>sq s (Pn.x30 (t rfl)) rfl fun a w s=>sq s (Pn.x31 (t rfl)) rfl fun a w s=>sq s (Pn.x32 (t rfl)) rfl fun a w s=>sq s (sa (t rfl)) rfl fun a w s=>sq s (saq (t rfl)) rfl fun a w s=>sq s (sa (t rfl)) rfl fun a w s=>nl ?_))
   refine se ?_
   refine se (rg (sq s (mv (t rfl)) rfl fun a w s=>sq s (ne (t rfl) ci) rfl fun a w s=>nl ?_))
   refine cm s rfl hm (fun hb hm=>?_) (fun hb hm=>?_)
   ·refine se (rg (sq s (bla (L:=[(0,1),(1,1),(2,1),(3,1),(4,1)]) (z:=[(.slice none 0 0),(.slice none 0 0),(.slice none 0 0),(.slice none 0 0),(.slice none 0 0)]) (res:=[(.slice none 0 0),(.slice none 0 0),(.slice none 0 0),(.slice none 0 0),(.slice none 0 0)]) rfl (by kernel_rfl) (by kernel_rfl) pdn rfl rfl) rfl fun a w s=>sq s (mv (t rfl)) rfl fun a w s=>sra (K:=1000) (m:=[(.slice none 0 0),(.slice none 0 0),(.slice none 0 0),(.slice none 0 0),(.slice none 0 0)]) (cs':=[(.slice none 0 0),(.slice none 0 0),(.slice none 0 0),(.slice none 0 0),(.slice none 0 0)]) s (t rfl) rfl (t rfl) (by kernel_rfl) rfl rfl rfl fun w s=>sq s (saq cq) rfl fun a w s=>sq s (sa (t rfl)) rfl fun a w s=>nl ?_))
    obtain rfl:=si hm
    refine shut (k:=1000) (x:=(⟨([]:List Int),([]:List Bool),([]:List Bool),([]:List Bool),([]:List Int)⟩:State)) s rfl (rpS30 (l:=([(.slice none 0 0)],[(.slice none 0 0)],[(.slice none 0 0)],[(.slice none 0 0)],[(.slice none 0 0)])) (rpn (α:=Int)) (rpn (α:=Bool)) (rpn (α:=Bool)) (rpn (α:=Bool)) (rpn (α:=Int))) fun s=>?_
    refine nilt (α:=Int) (d:=5) 1013 3 s rfl rfl fun c7 s=>?_
    refine wpIn_ret ?_
    exact rz [1013] c7 hM hD s rfl (rv3 (rc (K:=1000) rfl rfl) (rt rfl) (rt rfl)) (kc rfl kn) rfl
   ·refine wpIn_skip ?_
    refine se (rg (sq s (mvq (t rfl)) rfl fun a w s=>sq s (nkq (t rfl)) rfl fun a w s=>sq s (fm_ (off:=5) (m:=4) (q:=5) (t rfl) (by kernel_rfl) rfl) rfl fun a w s=>sq s (lra (K:=1001) (ds:=[y3.2.2.2.2.2.1,y3.2.2.2.2.2.2.1,y3.2.2.2.2.2.2.2.1,y3.2.2.2.2.2.2.2.2.1,y3.2.2.2.2.2.2.2.2.2]) State (t rfl) rfl rfl rfl rfl) rfl fun a w s=>sq s (mvq (t rfl)) rfl fun a w s=>sra (K:=1000) (m:=[y3.2.2.2.2.2.1,y3.2.2.2.2.2.2.1,y3.2.2.2.2.2.2.2.1,y3.2.2.2.2.2.2.2.2.1,y3.2.2.2.2.2.2.2.2.2]) (cs':=[y3.2.2.2.2.2.1,y3.2.2.2.2.2.2.1,y3.2.2.2.2.2.2.2.1,y3.2.2.2.2.2.2.2.2.1,y3.2.2.2.2.2.2.2.2.2]) s (t rfl) rfl (t rfl) (by kernel_rfl) rfl rfl rfl fun w s=>sq s (saq (t rfl)) rfl fun a w s=>sq s (sa ci) rfl fun a w s=>nl ?_))
    obtain rfl:=si hm
    refine fzk (α:=Int) (k:=1006) hM s rfl fun s=>?_
    refine fzk (α:=Bool) (k:=1007) hM s rfl fun s=>?_
    refine fzk (α:=Bool) (k:=1008) hM s rfl fun s=>?_
    refine fzk (α:=Bool) (k:=1009) hM s rfl fun s=>?_
    refine fzk (α:=Int) (k:=1010) hM s rfl fun s=>?_
    refine shut (k:=1000) (x:=(⟨x2.2.2.2.2.2.2.2.1,x2.2.2.2.2.2.2.2.2.1,x2.2.2.2.2.2.2.2.2.2.1,x5.2.2.1,x5.2.2.2.1⟩:State)) s rfl (rpS30 (l:=([y3.2.2.2.2.2.1],[y3.2.2.2.2.2.2.1],[y3.2.2.2.2.2.2.2.1],[y3.2.2.2.2.2.2.2.2.1],[y3.2.2.2.2.2.2.2.2.2])) (rpz (k:=1006) rfl) (rpz (k:=1007) rfl) (rpz (k:=1008) rfl) (rpz (k:=1009) rfl) (rpz (k:=1010) rfl)) fun s=>?_
    refine wpIn_ret ?_
    exact rz [1012] y6 hM hD s rfl (rv3 (rc (K:=1000) rfl rfl) (rt rfl) (rt rfl)) (kc rfl kn) rfl
def m251 (f:Nat) (v0:Control) (v1:State) (v2:Int):Option (Bool):=(bif (decide (v2 < (wr ((2:Int) * (v0).Actuators)))) then (idx ((v1).Ends) (wr (v2.tdiv (2:Int)))).bind fun x1=>(idx [(0:Int),(2:Int)] (v2.tmod (2:Int))).bind fun x2=>some (x1 == x2) else (bif (decide ((wr (v2 - (wr ((2:Int) * (v0).Actuators)))) < (((v1).Inputs).length:Int))) then (idx ((v1).Inputs) (wr (v2 - (wr ((2:Int) * (v0).Actuators))))).bind fun x3=>some x3 else (idx ((v1).Values) (wr ((wr (v2 - (wr ((2:Int) * (v0).Actuators)))) - (((v1).Inputs).length:Int)))).bind fun x4=>some x4))
set_option maxRecDepth 100000 in
theorem s251 (f:Nat) (v0:Control) (v1:State) (v2:Int) (r:Bool) (hm:m251 f v0 v1 v2=some r):Sp Tryz.prog 251 [Va (v0),Va (v1),Va (v2)] (Va (r)):=by
 unfold m251 at hm
 refine ens Tryz.func251 (by kernel_rfl) rfl Tryz.ntmps251 rfl rfl fun M w_0 a hM hD s=>?_
 refine se (rg (sq s (bx (t rfl)) rfl fun a w s=>sq s (bx (t rfl)) rfl fun a w s=>sq s (sa cb) rfl fun a w s=>nl ?_))
 refine se ?_
 refine se (rg (sq s (mv (t rfl)) rfl fun a w s=>sq s (fa (f:=Control.Actuators) (t rfl)) rfl fun a w s=>sq s (ld (t rfl)) rfl fun a w s=>sq s (ml ci (t rfl)) rfl fun a w s=>sq s (lt (t rfl) (t rfl)) rfl fun a w s=>nl ?_))
 refine cm s rfl hm (fun hb hm=>?_) (fun hb hm=>?_)
 ·obtain ⟨x1,hx1,hm⟩:=bs hm
  obtain ⟨x2,hx2,hm⟩:=bs hm
  refine se (flow s (m:=11) (.cons (.cons (.cons (.cons (.cons (.cons (.cons (.cons (.cons (.cons (.cons .nil rfl (fa (f:=State.Ends) (t rfl))) rfl (ld (t rfl))) rfl (mv (t rfl))) rfl (qu (t rfl) ci (by decide))) rfl (ix (t rfl) (t rfl) hx1)) rfl (ld (t rfl))) rfl (bly (e:=3) (len:=2) (z:=[(.int .i64 (0:Int)),(.int .i64 (0:Int))]) (cs:=[(.int .i64 (0:Int)),(.int .i64 (2:Int))]) rfl (cd1 (iq ci) (ocr rfl) (cd1 (iq ci) (ocr rfl) cd0)) (by kernel_rfl) (by kernel_rfl) (by kernel_rfl) rfl)) rfl (mv (t rfl))) rfl (rm (t rfl) ci (by decide))) rfl (aix (e:=3) (xs:=[(0:Int),(2:Int)]) (t rfl) (t rfl) (by kernel_rfl) (by kernel_rfl) (by kernel_rfl) rfl rfl hx2)) rfl (eq (t rfl) (t rfl))) (by kernel_rfl) rfl rfl fun a w s=>sq s (sa (t rfl)) rfl fun a w s=>nl ?_)
  obtain rfl:=si hm
  refine wpIn_ret ?_
  exact rn hD s rfl (rv1 (rt rfl))
 ·refine wpIn_skip ?_
  refine se (rg (sq s (mv (t rfl)) rfl fun a w s=>sq s (fa (f:=Control.Actuators) (t rfl)) rfl fun a w s=>sq s (ld (t rfl)) rfl fun a w s=>sq s (ml ci (t rfl)) rfl fun a w s=>sq s (sb (t rfl) (t rfl)) rfl fun a w s=>sq s (sa (t rfl)) rfl fun a w s=>nl ?_))
  refine se ?_
  refine se (rg (sq s (mv (t rfl)) rfl fun a w s=>sq s (fa (f:=State.Inputs) (t rfl)) rfl fun a w s=>sq s (ld (t rfl)) rfl fun a w s=>sq s (ln (t rfl)) rfl fun a w s=>sq s (lt (t rfl) (t rfl)) rfl fun a w s=>nl ?_))
  refine cm s rfl hm (fun hb hm=>?_) (fun hb hm=>?_)
  ·obtain ⟨x3,hx3,hm⟩:=bs hm
   refine se (rg (sq s (fa (f:=State.Inputs) (t rfl)) rfl fun a w s=>sq s (ld (t rfl)) rfl fun a w s=>sq s (mv (t rfl)) rfl fun a w s=>sq s (ix (t rfl) (t rfl) hx3) rfl fun a w s=>sq s (ld (t rfl)) rfl fun a w s=>sq s (sa (t rfl)) rfl fun a w s=>nl ?_))
   obtain rfl:=si hm
   refine wpIn_ret ?_
   exact rn hD s rfl (rv1 (rt rfl))
  ·refine wpIn_skip ?_
   obtain ⟨x4,hx4,hm⟩:=bs hm
   refine se (rg (sq s (fa (f:=State.Values) (t rfl)) rfl fun a w s=>sq s (ld (t rfl)) rfl fun a w s=>sq s (mv (t rfl)) rfl fun a w s=>sq s (fa (f:=State.Inputs) (t rfl)) rfl fun a w s=>sq s (ld (t rfl)) rfl fun a w s=>sq s (ln (t rfl)) rfl fun a w s=>sq s (sb (t rfl) (t rfl)) rfl fun a w s=>sq s (ix (t rfl) (t rfl) hx4) rfl fun a w s=>sq s (ld (t rfl)) rfl fun a w s=>sq s (sa (t rfl)) rfl fun a w s=>nl ?_))
   obtain rfl:=si hm
   refine wpIn_ret ?_
   exact rn hD s rfl (rv1 (rt rfl))
def m135 (f:Nat) (v0:State):Option ((List Int)×(List Bool)×(List Bool)×(List Bool)×(List Int)):=(m128 f ((v0).Ends)).bind fun x2=>(m129 f ((v0).Valves)).bind fun x3=>(m129 f ((v0).Inputs)).bind fun x4=>(m129 f ((v0).Values)).bind fun x5=>(m128 f ((v0).Timers)).bind fun x6=>some (x2,x3,x4,x5,x6)
set_option maxRecDepth 100000 in
theorem s135 (f:Nat) (v0:State) (r:(List Int)×(List Bool)×(List Bool)×(List Bool)×(List Int)) (hm:m135 f v0=some r):Sp Tryz.prog 135 [Va (v0)] (Rz (fun x:Value×Value×Value×Value×Value=>Qa [x.1,x.2.1,x.2.2.1,x.2.2.2.1,x.2.2.2.2]) (fun x=>[Ow 3 x.1 (r.1),Ow 4 x.2.1 (r.2.1),Ow 4 x.2.2.1 (r.2.2.1),Ow 4 x.2.2.2.1 (r.2.2.2.1),Ow 3 x.2.2.2.2 (r.2.2.2.2)])):=by
 unfold m135 at hm
 refine ens Tryz.func135 (by kernel_rfl) rfl Tryz.ntmps135 rfl rfl fun M w_0 a hM hD s=>?_
 refine se (rg (sq s (bx (t rfl)) rfl fun a w s=>sqr 1000 s (alr (cs:=[(.slice none 0 0),(.slice none 0 0),(.slice none 0 0),(.slice none 0 0),(.slice none 0 0)]) (z:=.agg #[(.slice none 0 0),(.slice none 0 0),(.slice none 0 0),(.slice none 0 0),(.slice none 0 0)]) (by kernel_rfl) rfl rfl) rfl rfl fun b1 a w s=>nl ?_))
 obtain ⟨x2,hx2,hm⟩:=bs hm
 obtain ⟨x3,hx3,hm⟩:=bs hm
 obtain ⟨x4,hx4,hm⟩:=bs hm
 obtain ⟨x5,hx5,hm⟩:=bs hm
 obtain ⟨x6,hx6,hm⟩:=bs hm
 refine se (flow s (m:=15) (.cons (.cons (.cons (.cons (.cons (.cons (.cons (.cons (.cons (.cons (.cons (.cons (.cons (.cons (.cons .nil rfl (fa (f:=State.Ends) (t rfl))) rfl (ld (t rfl))) rfl (cc rfl (oc (t rfl) on) (s128 f _ _ hx2))) rfl (fa (f:=State.Valves) (t rfl))) rfl (ld (t rfl))) rfl (cc rfl (oc (t rfl) on) (s129 f _ _ hx3))) rfl (fa (f:=State.Inputs) (t rfl))) rfl (ld (t rfl))) rfl (cc rfl (oc (t rfl) on) (s129 f _ _ hx4))) rfl (fa (f:=State.Values) (t rfl))) rfl (ld (t rfl))) rfl (cc rfl (oc (t rfl) on) (s129 f _ _ hx5))) rfl (fa (f:=State.Timers) (t rfl))) rfl (ld (t rfl))) rfl (cc rfl (oc (t rfl) on) (s128 f _ _ hx6))) (by kernel_rfl) rfl rfl fun a w s=>opz (d:=5) [1006] s rfl (fun _=>rfl) rfl fun y7 s=>opz (d:=8) [1007] s rfl (fun _=>rfl) rfl fun y8 s=>opz (d:=11) [1008] s rfl (fun _=>rfl) rfl fun y9 s=>opz (d:=14) [1009] s rfl (fun _=>rfl) rfl fun y10 s=>opz (d:=17) [1010] s rfl (fun _=>rfl) rfl fun y11 s=>sq s (bla (L:=[(0,1),(1,1),(2,1),(3,1),(4,1)]) (z:=[(.slice none 0 0),(.slice none 0 0),(.slice none 0 0),(.slice none 0 0),(.slice none 0 0)]) (res:=[y7,y8,y9,y10,y11]) rfl (by kernel_rfl) (by kernel_rfl) (pdq (t rfl) (oco (k:=1006) rfl) (pdq (t rfl) (oco (k:=1007) rfl) (pdq (t rfl) (oco (k:=1008) rfl) (pdq (t rfl) (oco (k:=1009) rfl) (pdq (t rfl) (oco (k:=1010) rfl) pdn))))) rfl rfl) rfl fun a w s=>sra (K:=1000) (m:=[y7,y8,y9,y10,y11]) (cs':=[y7,y8,y9,y10,y11]) s (t rfl) rfl (t rfl) (by kernel_rfl) rfl rfl rfl fun w s=>nl ?_)
 obtain rfl:=si hm
 refine wpIn_ret ?_
 exact rz [1006,1007,1008,1009,1010] (y7,y8,y9,y10,y11) hM hD s rfl (rv1 (rca (K:=1000) rfl rfl (by kernel_rfl) rfl (by kernel_rfl))) (kc rfl (kc rfl (kc rfl (kc rfl (kc rfl kn))))) rfl
def m204_l1 (f:Nat) (v0:Control) (x2:State×Int×(List Int)):Nat→(Int×(List Int)×(List Int)×(List Bool))→Option (Int×(List Int)×(List Int)×(List Bool))
 | 0,_=>none
 | n+1,z9=>(bif (decide (z9.1 < (v0).Actuators)) then (idx ((v0).Plus) z9.1).bind fun x11=>(m251 f v0 x2.1 x11).bind fun x12=>(idx ((v0).Minus) z9.1).bind fun x13=>(m251 f v0 x2.1 x13).bind fun x14=>(bif (x12 && x14) then (app z9.2.1 ([(wr ((wr ((wr ((wr ((2:Int) * (v0).Actuators)) + (((v0).Inputs).length:Int))) + (((v0).Signals).length:Int))) + z9.1))]:List Int)).bind fun x16=>some (x16,z9.2.2.2) else (bif (x12 || x14) then (idx z9.2.2.2 z9.1).bind fun x19=>some (z9.2.2.2.set z9.1.toNat x12) else some z9.2.2.2).bind fun z18=>some (z9.2.1,z18)).bind fun z15=>(idx z9.2.2.1 z9.1).bind fun x20=>(idx z15.2 z9.1).bind fun x22=>(bif x22 then some ((2:Int),(1:Int)) else some ((0:Int),(3:Int))).bind fun z23=>(bif ((x20 != z23.1) && (x20 != z23.2)) then (idx z9.2.2.1 z9.1).bind fun x25=>some (z9.2.2.1.set z9.1.toNat z23.2) else some z9.2.2.1).bind fun z24=>m204_l1 f v0 x2 n ((wr (z9.1 + (1:Int))),z15.1,z24,z15.2) else some (z9.1,z9.2.1,z9.2.2.1,z9.2.2.2))
def m204 (f:Nat) (v0:Control) (v1:State):Option (State×Int×(List Int)):=(m250 f v0 v1).bind fun x2=>(bif (x2.2.1 != (0:Int)) then some ((⟨([]:List Int),([]:List Bool),([]:List Bool),([]:List Bool),([]:List Int)⟩:State),x2.2.1,([]:List Int)) else (m135 f x2.1).bind fun x6=>(m204_l1 f v0 x2 f ((0:Int),x2.2.2,x6.1,x6.2.1)).bind fun o10s=>some ((⟨o10s.2.2.1,o10s.2.2.2,x6.2.2.1,x6.2.2.2.1,x6.2.2.2.2⟩:State),(0:Int),o10s.2.1))
set_option maxRecDepth 100000 in
set_option maxHeartbeats 2000000 in
theorem s204 (f:Nat) (v0:Control) (v1:State) (r:State×Int×(List Int)) (hm:m204 f v0 v1=some r):Sp Tryz.prog 204 [Va (v0),Va (v1)] (Rz (fun x:Value=>T3 (Va (r.1)) (Qv x) (Va (r.2.1))) (fun x=>[Ow 3 x (r.2.2)])):=by
 unfold m204 at hm
 refine ens Tryz.func204 (by kernel_rfl) rfl Tryz.ntmps204 rfl rfl fun M w_0 a hM hD s=>?_
 refine se (rg (sq s (bx (t rfl)) rfl fun a w s=>sq s (bx (t rfl)) rfl fun a w s=>sqr 1000 s (alr (cs:=[(.slice none 0 0),(.slice none 0 0),(.slice none 0 0),(.slice none 0 0),(.slice none 0 0)]) (z:=.agg #[(.slice none 0 0),(.slice none 0 0),(.slice none 0 0),(.slice none 0 0),(.slice none 0 0)]) (by kernel_rfl) rfl rfl) rfl rfl fun b1 a w s=>sq s (saq cq) rfl fun a w s=>sq s (sa ci) rfl fun a w s=>nl ?_))
 obtain ⟨x2,hx2,hm⟩:=bs hm
 refine se (rg (sq s (ld (t rfl)) rfl fun a w s=>sq s (ld (t rfl)) rfl fun a w s=>sqz [1001] hM s (cc rfl (oc (t rfl) (oc (t rfl) on)) (s250 f _ _ _ hx2)) (fun _=>rfl) rfl rfl fun y3 a w s=>sq s (mve (t rfl)) rfl fun a w s=>sq s (Pn.x30 (t rfl)) rfl fun a w s=>sq s (Pn.x31 (t rfl)) rfl fun a w s=>sq s (Pn.x32 (t rfl)) rfl fun a w s=>sqr 1002 s (alr (cs:=[(.slice none 0 0),(.slice none 0 0),(.slice none 0 0),(.slice none 0 0),(.slice none 0 0)]) (z:=.agg #[(.slice none 0 0),(.slice none 0 0),(.slice none 0 0),(.slice none 0 0),(.slice none 0 0)]) (by kernel_rfl) rfl rfl) rfl rfl fun b4 a w s=>swd (K:=1002) s (t rfl) rfl (t rfl) rfl fun w s=>sq s (saq (t rfl)) rfl fun a w s=>sq s (sa (t rfl)) rfl fun a w s=>nl ?_))
 refine se ?_
 refine se (rg (sq s (mv (t rfl)) rfl fun a w s=>sq s (ne (t rfl) ci) rfl fun a w s=>nl ?_))
 refine cm s rfl hm (fun hb hm=>?_) (fun hb hm=>?_)
 ·refine se (rg (sq s (bla (L:=[(0,1),(1,1),(2,1),(3,1),(4,1)]) (z:=[(.slice none 0 0),(.slice none 0 0),(.slice none 0 0),(.slice none 0 0),(.slice none 0 0)]) (res:=[(.slice none 0 0),(.slice none 0 0),(.slice none 0 0),(.slice none 0 0),(.slice none 0 0)]) rfl (by kernel_rfl) (by kernel_rfl) pdn rfl rfl) rfl fun a w s=>sq s (mv (t rfl)) rfl fun a w s=>sra (K:=1000) (m:=[(.slice none 0 0),(.slice none 0 0),(.slice none 0 0),(.slice none 0 0),(.slice none 0 0)]) (cs':=[(.slice none 0 0),(.slice none 0 0),(.slice none 0 0),(.slice none 0 0),(.slice none 0 0)]) s (t rfl) rfl (t rfl) (by kernel_rfl) rfl rfl rfl fun w s=>sq s (saq cq) rfl fun a w s=>sq s (sa (t rfl)) rfl fun a w s=>nl ?_))
  obtain rfl:=si hm
  refine shut (k:=1000) (x:=(⟨([]:List Int),([]:List Bool),([]:List Bool),([]:List Bool),([]:List Int)⟩:State)) s rfl (rpS30 (l:=([(.slice none 0 0)],[(.slice none 0 0)],[(.slice none 0 0)],[(.slice none 0 0)],[(.slice none 0 0)])) (rpn (α:=Int)) (rpn (α:=Bool)) (rpn (α:=Bool)) (rpn (α:=Bool)) (rpn (α:=Int))) fun s=>?_
  refine nilt (α:=Int) (d:=5) 1003 3 s rfl rfl fun c5 s=>?_
  refine wpIn_ret ?_
  exact rz [1003] c5 hM hD s rfl (rv3 (rc (K:=1000) rfl rfl) (rt rfl) (rt rfl)) (kc rfl kn) rfl
 ·refine wpIn_skip ?_
  obtain ⟨x6,hx6,hm⟩:=bs hm
  refine se (rg (sq s (lm (K:=1002) (t rfl) rfl) rfl fun a w s=>sqz [1004,1005,1006,1007,1008] hM s (cc rfl (oc (t rfl) on) (s135 f _ _ hx6)) (fun _=>rfl) rfl rfl fun y7 a w s=>sqr 1009 s (alr (cs:=[(.slice none 0 0),(.slice none 0 0),(.slice none 0 0),(.slice none 0 0),(.slice none 0 0)]) (z:=.agg #[(.slice none 0 0),(.slice none 0 0),(.slice none 0 0),(.slice none 0 0),(.slice none 0 0)]) (by kernel_rfl) rfl rfl) rfl rfl fun b8 a w s=>sra (K:=1009) (m:=[y7.1,y7.2.1,y7.2.2.1,y7.2.2.2.1,y7.2.2.2.2]) (cs':=[y7.1,y7.2.1,y7.2.2.1,y7.2.2.2.1,y7.2.2.2.2]) s (t rfl) rfl (t rfl) (by kernel_rfl) rfl rfl rfl fun w s=>nl ?_))
  refine se (rg (sq s (fa (f:=Control.Actuators) (t rfl)) rfl fun a w s=>sq s (ld (t rfl)) rfl fun a w s=>sq s (ml ci (t rfl)) rfl fun a w s=>sq s (fa (f:=Control.Inputs) (t rfl)) rfl fun a w s=>sq s (ld (t rfl)) rfl fun a w s=>sq s (ln (t rfl)) rfl fun a w s=>sq s (ad (t rfl) (t rfl)) rfl fun a w s=>sq s (fa (f:=Control.Signals) (t rfl)) rfl fun a w s=>sq s (ld (t rfl)) rfl fun a w s=>sq s (ln (t rfl)) rfl fun a w s=>sq s (ad (t rfl) (t rfl)) rfl fun a w s=>sq s (sa (t rfl)) rfl fun a w s=>nl ?_))
  refine se ?_
  refine se (rg (sq s (fa (f:=Control.Actuators) (t rfl)) rfl fun a w s=>sq s (ld (t rfl)) rfl fun a w s=>sq s (mv ci) rfl fun a w s=>nl ?_))
  obtain ⟨o10s,hoo10,hko10⟩:=bs hm
  refine cpI (fun a w=>∃ (o10sc0:Value),St M w_0 114 [(0,Va (v0)),(1,Va (v1)),(2,Pt (v0)),(3,Pt (v1)),(4,Qv (pb b1 0)),(5,Qv (.slice none 0 0)),(6,Va ((0:Int))),(7,Qv (pb b4 0)),(8,Qv o10sc0),(9,Va (x2.2.1)),(10,Qv (pb b8 0)),(11,Va ((wr ((wr ((wr ((2:Int) * (v0).Actuators)) + (((v0).Inputs).length:Int))) + (((v0).Signals).length:Int))))),(42,Va ((v0).Actuators)),(43,Va (o10s.1)),(1000,Mr b1 [(.slice none 0 0),(.slice none 0 0),(.slice none 0 0),(.slice none 0 0),(.slice none 0 0)]),(1002,Mg b4 (x2.1)),(1001,Ow 3 o10sc0 (o10s.2.1)),(1009,Mr b8 [y7.1,y7.2.1,y7.2.2.1,y7.2.2.2.1,y7.2.2.2.2]),(1004,Ow 3 y7.1 (o10s.2.2.1)),(1005,Ow 4 y7.2.1 (o10s.2.2.2)),(1006,Ow 4 y7.2.2.1 (x6.2.2.1)),(1007,Ow 4 y7.2.2.2.1 (x6.2.2.2.1)),(1008,Ow 3 y7.2.2.2.2 (x6.2.2.2.2))] a w) ?_ fun a w s=>?_
  ·refine wpIn_block ?_
   refine loI (fun n z9=>m204_l1 f v0 x2 n z9) o10s (fun z9 a w=>∃ (z9c0:Value),St M w_0 114 [(0,Va (v0)),(1,Va (v1)),(2,Pt (v0)),(3,Pt (v1)),(4,Qv (pb b1 0)),(5,Qv (.slice none 0 0)),(6,Va ((0:Int))),(7,Qv (pb b4 0)),(8,Qv z9c0),(9,Va (x2.2.1)),(10,Qv (pb b8 0)),(11,Va ((wr ((wr ((wr ((2:Int) * (v0).Actuators)) + (((v0).Inputs).length:Int))) + (((v0).Signals).length:Int))))),(42,Va ((v0).Actuators)),(43,Va (z9.1)),(1000,Mr b1 [(.slice none 0 0),(.slice none 0 0),(.slice none 0 0),(.slice none 0 0),(.slice none 0 0)]),(1002,Mg b4 (x2.1)),(1001,Ow 3 z9c0 (z9.2.1)),(1009,Mr b8 [y7.1,y7.2.1,y7.2.2.1,y7.2.2.2.1,y7.2.2.2.2]),(1004,Ow 3 y7.1 (z9.2.2.1)),(1005,Ow 4 y7.2.1 (z9.2.2.2)),(1006,Ow 4 y7.2.2.1 (x6.2.2.1)),(1007,Ow 4 y7.2.2.2.1 (x6.2.2.2.1)),(1008,Ow 3 y7.2.2.2.2 (x6.2.2.2.2))] a w) f ((0:Int),x2.2.2,x6.1,x6.2.1) ⟨y3,s.pick [0,1,2,3,4,5,6,7,8,9,10,11,42,43,1000,1002,1001,1009,1004,1005,1006,1007,1008]⟩ hoo10 (fun _=>rfl) fun n z9 a w hm s=>?_
   obtain ⟨z9c0,s⟩:=s
   replace hm:m204_l1 f v0 x2 (n + 1) z9=some o10s:=hm
   unfold m204_l1 at hm
   refine se (rg (sq s (lt (t rfl) (t rfl)) rfl fun a w s=>nl ?_))
   refine se ?_
   refine cm s rfl hm (fun hb hm=>?_) (fun hb hm=>?_)
   ·refine wpIn_skip ?_
    refine se ?_
    refine wpIn_block ?_
    refine se (rg (sq s (mv (t rfl)) rfl fun a w s=>sq s (sa (t rfl)) rfl fun a w s=>nl ?_))
    obtain ⟨x11,hx11,hm⟩:=bs hm
    obtain ⟨x12,hx12,hm⟩:=bs hm
    obtain ⟨x13,hx13,hm⟩:=bs hm
    obtain ⟨x14,hx14,hm⟩:=bs hm
    refine se (flow s (m:=16) (.cons (.cons (.cons (.cons (.cons (.cons (.cons (.cons (.cons (.cons (.cons (.cons (.cons (.cons (.cons (.cons .nil rfl (ld (t rfl))) rfl (lm (K:=1002) (t rfl) rfl)) rfl (fa (f:=Control.Plus) (t rfl))) rfl (ld (t rfl))) rfl (mv (t rfl))) rfl (ix (t rfl) (t rfl) hx11)) rfl (ld (t rfl))) rfl (cc rfl (oc (t rfl) (oc (t rfl) (oc (t rfl) on))) (s251 f _ _ _ _ hx12))) rfl (ld (t rfl))) rfl (lm (K:=1002) (t rfl) rfl)) rfl (fa (f:=Control.Minus) (t rfl))) rfl (ld (t rfl))) rfl (mv (t rfl))) rfl (ix (t rfl) (t rfl) hx13)) rfl (ld (t rfl))) rfl (cc rfl (oc (t rfl) (oc (t rfl) (oc (t rfl) on))) (s251 f _ _ _ _ hx14))) (by kernel_rfl) rfl rfl fun a w s=>sq s (sa (t rfl)) rfl fun a w s=>sq s (sa (t rfl)) rfl fun a w s=>nl ?_)
    refine se ?_
    refine wpIn_block ?_
    refine se (rg (sq s (mv (t rfl)) rfl fun a w s=>sq s (mv (t rfl)) rfl fun a w s=>sg s rfl rfl (fun hb=>(mv (t rfl))) rfl fun a w s=>sq s (paP (t rfl) rfl) rfl fun a w s=>sq s (sa (t rfl)) rfl fun a w s=>nl ?_))
    obtain ⟨z15,hz15,hkz15⟩:=bs hm
    refine cpI (fun a w=>∃ (z15c0:Value),St M w_0 114 [(0,Va (v0)),(1,Va (v1)),(2,Pt (v0)),(3,Pt (v1)),(4,Qv (pb b1 0)),(5,Qv (.slice none 0 0)),(6,Va ((0:Int))),(7,Qv (pb b4 0)),(8,Qv z15c0),(9,Va (x2.2.1)),(10,Qv (pb b8 0)),(11,Va ((wr ((wr ((wr ((2:Int) * (v0).Actuators)) + (((v0).Inputs).length:Int))) + (((v0).Signals).length:Int))))),(12,Va (z9.1)),(13,Va (x12)),(14,Va (x14)),(42,Va ((v0).Actuators)),(43,Va (z9.1)),(1000,Mr b1 [(.slice none 0 0),(.slice none 0 0),(.slice none 0 0),(.slice none 0 0),(.slice none 0 0)]),(1002,Mg b4 (x2.1)),(1001,Ow 3 z15c0 (z15.1)),(1009,Mr b8 [y7.1,y7.2.1,y7.2.2.1,y7.2.2.2.1,y7.2.2.2.2]),(1004,Ow 3 y7.1 (z9.2.2.1)),(1005,Ow 4 y7.2.1 (z15.2)),(1006,Ow 4 y7.2.2.1 (x6.2.2.1)),(1007,Ow 4 y7.2.2.2.1 (x6.2.2.2.1)),(1008,Ow 3 y7.2.2.2.2 (x6.2.2.2.2))] a w) ?_ fun a w s=>?_
    ·refine cm s rfl hz15 (fun hb hm=>?_) (fun hb hm=>?_)
     ·obtain ⟨x16,hx16,hm⟩:=bs hm
      refine rg (sq s (mvq (t rfl)) rfl fun a w s=>sq s (mv (t rfl)) rfl fun a w s=>sq s (mv (t rfl)) rfl fun a w s=>sq s (ad (t rfl) (t rfl)) rfl fun a w s=>sq s (bsv (o1 (t rfl) o0) rfl rfl (by kernel_rfl)) rfl fun a w s=>apd (α:=Int) (k:=1001) s (t rfl) rfl (t rfl) hx16 rfl rfl fun c17 a w s=>sq s (saq (t rfl)) rfl fun a w s=>nl ?_)
      obtain rfl:=si hm
      exact ⟨c17,s.pick [0,1,2,3,4,5,6,7,8,9,10,11,12,13,14,42,43,1000,1002,1001,1009,1004,1005,1006,1007,1008]⟩
     ·refine se (rg (sq s (mv (t rfl)) rfl fun a w s=>sq s (mv (t rfl)) rfl fun a w s=>sg s rfl rfl (fun hb=>(mv (t rfl))) rfl fun a w s=>sq s (poP (t rfl) rfl) rfl fun a w s=>sq s (sa (t rfl)) rfl fun a w s=>nl ?_))
      obtain ⟨z18,hz18,hkz18⟩:=bs hm
      refine cpI (fun a w=>St M w_0 114 [(0,Va (v0)),(1,Va (v1)),(2,Pt (v0)),(3,Pt (v1)),(4,Qv (pb b1 0)),(5,Qv (.slice none 0 0)),(6,Va ((0:Int))),(7,Qv (pb b4 0)),(8,Qv z9c0),(9,Va (x2.2.1)),(10,Qv (pb b8 0)),(11,Va ((wr ((wr ((wr ((2:Int) * (v0).Actuators)) + (((v0).Inputs).length:Int))) + (((v0).Signals).length:Int))))),(12,Va (z9.1)),(13,Va (x12)),(14,Va (x14)),(42,Va ((v0).Actuators)),(43,Va (z9.1)),(1000,Mr b1 [(.slice none 0 0),(.slice none 0 0),(.slice none 0 0),(.slice none 0 0),(.slice none 0 0)]),(1002,Mg b4 (x2.1)),(1001,Ow 3 z9c0 (z9.2.1)),(1009,Mr b8 [y7.1,y7.2.1,y7.2.2.1,y7.2.2.2.1,y7.2.2.2.2]),(1004,Ow 3 y7.1 (z9.2.2.1)),(1005,Ow 4 y7.2.1 (z18)),(1006,Ow 4 y7.2.2.1 (x6.2.2.1)),(1007,Ow 4 y7.2.2.2.1 (x6.2.2.2.1)),(1008,Ow 3 y7.2.2.2.2 (x6.2.2.2.2))] a w) ?_ fun a w s=>?_
      ·refine cm s rfl hz18 (fun hb hm=>?_) (fun hb hm=>?_)
       ·obtain ⟨x19,hx19,hm⟩:=bs hm
        refine rg (sq s (fm_ (off:=1) (m:=0) (q:=1) (t rfl) (by kernel_rfl) rfl) rfl fun a w s=>sq s (lrc (K:=1009) (List Bool) (t rfl) rfl rfl rfl rfl) rfl fun a w s=>sq s (mv (t rfl)) rfl fun a w s=>sq s (mv (t rfl)) rfl fun a w s=>sq s (ixq (α:=Bool) (k:=1005) (t rfl) rfl (t rfl) hx19) rfl fun a w s=>stq (k:=1005) s (t rfl) rfl (idxg hx19) (t rfl) fun w s=>nl ?_)
        obtain rfl:=si hm
        exact s.pick [0,1,2,3,4,5,6,7,8,9,10,11,12,13,14,42,43,1000,1002,1001,1009,1004,1005,1006,1007,1008]
       ·refine wpIn_skip ?_
        obtain rfl:=si hm
        exact s.pick [0,1,2,3,4,5,6,7,8,9,10,11,12,13,14,42,43,1000,1002,1001,1009,1004,1005,1006,1007,1008]
      ·replace hm:=hkz18
       obtain rfl:=si hm
       exact ⟨z9c0,s.pick [0,1,2,3,4,5,6,7,8,9,10,11,12,13,14,42,43,1000,1002,1001,1009,1004,1005,1006,1007,1008]⟩
    ·obtain ⟨z15c0,s⟩:=s
     replace hm:=hkz15
     obtain ⟨x20,hx20,hm⟩:=bs hm
     refine se (rg (sq s (fm_ (off:=0) (m:=0) (q:=0) (t rfl) (by kernel_rfl) rfl) rfl fun a w s=>sq s (lrc (K:=1009) (List Int) (t rfl) rfl rfl rfl rfl) rfl fun a w s=>sq s (mv (t rfl)) rfl fun a w s=>sq s (ixq (α:=Int) (k:=1004) (t rfl) rfl (t rfl) hx20) rfl fun a w s=>sq s (lq (k:=1004) (t rfl) rfl (idxg hx20)) rfl fun a w s=>sq s (bly (e:=3) (len:=2) (z:=[(.int .i64 (0:Int)),(.int .i64 (0:Int))]) (cs:=[(.int .i64 (0:Int)),(.int .i64 (3:Int))]) rfl (cd1 (iq ci) (ocr rfl) (cd1 (iq ci) (ocr rfl) cd0)) (by kernel_rfl) (by kernel_rfl) (by kernel_rfl) rfl) rfl fun a w s=>sqr 1011 s (alr (cs:=[(.int .i64 (0:Int)),(.int .i64 (0:Int))]) (z:=.agg #[(.int .i64 (0:Int)),(.int .i64 (0:Int))]) (by kernel_rfl) rfl rfl) rfl rfl fun b21 a w s=>sq s (sa (t rfl)) rfl fun a w s=>sra (K:=1011) (m:=[(.int .i64 (0:Int)),(.int .i64 (3:Int))]) (cs':=[(.int .i64 (0:Int)),(.int .i64 (3:Int))]) s (t rfl) rfl (t rfl) (by kernel_rfl) rfl rfl rfl fun w s=>nl ?_))
     refine se ?_
     obtain ⟨x22,hx22,hm⟩:=bs hm
     refine se (rg (sq s (fm_ (off:=1) (m:=0) (q:=1) (t rfl) (by kernel_rfl) rfl) rfl fun a w s=>sq s (lrc (K:=1009) (List Bool) (t rfl) rfl rfl rfl rfl) rfl fun a w s=>sq s (mv (t rfl)) rfl fun a w s=>sq s (ixq (α:=Bool) (k:=1005) (t rfl) rfl (t rfl) hx22) rfl fun a w s=>sq s (lq (k:=1005) (t rfl) rfl (idxg hx22)) rfl fun a w s=>nl ?_))
     obtain ⟨z23,hz23,hkz23⟩:=bs hm
     refine cpI (fun a w=>St M w_0 114 [(0,Va (v0)),(1,Va (v1)),(2,Pt (v0)),(3,Pt (v1)),(4,Qv (pb b1 0)),(5,Qv (.slice none 0 0)),(6,Va ((0:Int))),(7,Qv (pb b4 0)),(8,Qv z15c0),(9,Va (x2.2.1)),(10,Qv (pb b8 0)),(11,Va ((wr ((wr ((wr ((2:Int) * (v0).Actuators)) + (((v0).Inputs).length:Int))) + (((v0).Signals).length:Int))))),(12,Va (z9.1)),(13,Va (x12)),(14,Va (x14)),(15,Va (x20)),(16,Qv (pb b21 0)),(42,Va ((v0).Actuators)),(43,Va (z9.1)),(1000,Mr b1 [(.slice none 0 0),(.slice none 0 0),(.slice none 0 0),(.slice none 0 0),(.slice none 0 0)]),(1002,Mg b4 (x2.1)),(1001,Ow 3 z15c0 (z15.1)),(1009,Mr b8 [y7.1,y7.2.1,y7.2.2.1,y7.2.2.2.1,y7.2.2.2.2]),(1004,Ow 3 y7.1 (z9.2.2.1)),(1005,Ow 4 y7.2.1 (z15.2)),(1006,Ow 4 y7.2.2.1 (x6.2.2.1)),(1007,Ow 4 y7.2.2.2.1 (x6.2.2.2.1)),(1008,Ow 3 y7.2.2.2.2 (x6.2.2.2.2)),(1011,Mr b21 [(.int .i64 z23.1),(.int .i64 z23.2)])] a w) ?_ fun a w s=>?_
     ·refine cm s rfl hz23 (fun hb hm=>?_) (fun hb hm=>?_)
      ·refine rg (sq s (bly (e:=3) (len:=2) (z:=[(.int .i64 (0:Int)),(.int .i64 (0:Int))]) (cs:=[(.int .i64 (2:Int)),(.int .i64 (1:Int))]) rfl (cd1 (iq ci) (ocr rfl) (cd1 (iq ci) (ocr rfl) cd0)) (by kernel_rfl) (by kernel_rfl) (by kernel_rfl) rfl) rfl fun a w s=>sra (K:=1011) (m:=[(.int .i64 (2:Int)),(.int .i64 (1:Int))]) (cs':=[(.int .i64 (2:Int)),(.int .i64 (1:Int))]) s (t rfl) rfl (t rfl) (by kernel_rfl) rfl rfl rfl fun w s=>nl ?_)
       obtain rfl:=si hm
       exact s.pick [0,1,2,3,4,5,6,7,8,9,10,11,12,13,14,15,16,42,43,1000,1002,1001,1009,1004,1005,1006,1007,1008,1011]
      ·refine wpIn_skip ?_
       obtain rfl:=si hm
       exact s.pick [0,1,2,3,4,5,6,7,8,9,10,11,12,13,14,15,16,42,43,1000,1002,1001,1009,1004,1005,1006,1007,1008,1011]
     ·replace hm:=hkz23
      refine se (rg (sq s (mv (t rfl)) rfl fun a w s=>sq s (iax (e:=3) (len:=2) (j:=0) (t rfl) ci (by kernel_rfl) (by kernel_rfl) (by kernel_rfl)) rfl fun a w s=>sq s (lrc (K:=1011) Int (t rfl) rfl rfl rfl rfl) rfl fun a w s=>sq s (ne (t rfl) (qi (t rfl))) rfl fun a w s=>sq s (mv (t rfl)) rfl fun a w s=>sg s rfl rfl (fun hb=>(mv (t rfl))) rfl fun a w s=>sg s rfl rfl (fun hb=>(iax (e:=3) (len:=2) (j:=1) (t rfl) ci (by kernel_rfl) (by kernel_rfl) (by kernel_rfl))) rfl fun a w s=>sg s rfl rfl (fun hb=>(lrc (K:=1011) Int (tg rfl hb) rfl rfl rfl rfl)) rfl fun a w s=>sg s rfl rfl (fun hb=>(ne (tg rfl hb) (qi (tg rfl hb)))) rfl fun a w s=>sq s (paP (t rfl) rfl) rfl fun a w s=>nl ?_))
      obtain ⟨z24,hz24,hkz24⟩:=bs hm
      refine cpI (fun a w=>St M w_0 114 [(0,Va (v0)),(1,Va (v1)),(2,Pt (v0)),(3,Pt (v1)),(4,Qv (pb b1 0)),(5,Qv (.slice none 0 0)),(6,Va ((0:Int))),(7,Qv (pb b4 0)),(8,Qv z15c0),(9,Va (x2.2.1)),(10,Qv (pb b8 0)),(11,Va ((wr ((wr ((wr ((2:Int) * (v0).Actuators)) + (((v0).Inputs).length:Int))) + (((v0).Signals).length:Int))))),(12,Va (z9.1)),(13,Va (x12)),(14,Va (x14)),(15,Va (x20)),(16,Qv (pb b21 0)),(42,Va ((v0).Actuators)),(43,Va (z9.1)),(1000,Mr b1 [(.slice none 0 0),(.slice none 0 0),(.slice none 0 0),(.slice none 0 0),(.slice none 0 0)]),(1002,Mg b4 (x2.1)),(1001,Ow 3 z15c0 (z15.1)),(1009,Mr b8 [y7.1,y7.2.1,y7.2.2.1,y7.2.2.2.1,y7.2.2.2.2]),(1004,Ow 3 y7.1 (z24)),(1005,Ow 4 y7.2.1 (z15.2)),(1006,Ow 4 y7.2.2.1 (x6.2.2.1)),(1007,Ow 4 y7.2.2.2.1 (x6.2.2.2.1)),(1008,Ow 3 y7.2.2.2.2 (x6.2.2.2.2)),(1011,Mr b21 [(.int .i64 z23.1),(.int .i64 z23.2)])] a w) ?_ fun a w s=>?_
      ·refine cm s rfl hz24 (fun hb hm=>?_) (fun hb hm=>?_)
       ·obtain ⟨x25,hx25,hm⟩:=bs hm
        refine rg (sq s (fm_ (off:=0) (m:=0) (q:=0) (t rfl) (by kernel_rfl) rfl) rfl fun a w s=>sq s (lrc (K:=1009) (List Int) (t rfl) rfl rfl rfl rfl) rfl fun a w s=>sq s (mv (t rfl)) rfl fun a w s=>sq s (iax (e:=3) (len:=2) (j:=1) (t rfl) ci (by kernel_rfl) (by kernel_rfl) (by kernel_rfl)) rfl fun a w s=>sq s (lrc (K:=1011) Int (t rfl) rfl rfl rfl rfl) rfl fun a w s=>sq s (ixq (α:=Int) (k:=1004) (t rfl) rfl (t rfl) hx25) rfl fun a w s=>stq (k:=1004) s (t rfl) rfl (idxg hx25) (qi (t rfl)) fun w s=>nl ?_)
        obtain rfl:=si hm
        exact s.pick [0,1,2,3,4,5,6,7,8,9,10,11,12,13,14,15,16,42,43,1000,1002,1001,1009,1004,1005,1006,1007,1008,1011]
       ·refine wpIn_skip ?_
        obtain rfl:=si hm
        exact s.pick [0,1,2,3,4,5,6,7,8,9,10,11,12,13,14,15,16,42,43,1000,1002,1001,1009,1004,1005,1006,1007,1008,1011]
      ·replace hm:=hkz24
       refine rg (sq s (ad (t rfl) ci) rfl fun a w s=>sq s (mv (t rfl)) rfl fun a w s=>nl ?_)
       exact ⟨_,hm,⟨z15c0,s.pick [0,1,2,3,4,5,6,7,8,9,10,11,42,43,1000,1002,1001,1009,1004,1005,1006,1007,1008]⟩⟩
   ·refine wpIn_exit ?_
    obtain rfl:=si hm
    exact ⟨z9c0,s.pick [0,1,2,3,4,5,6,7,8,9,10,11,42,43,1000,1002,1001,1009,1004,1005,1006,1007,1008]⟩
  ·obtain ⟨o10sc0,s⟩:=s
   replace hm:=hko10
   refine se (rg (sq s (lra (K:=1009) (ds:=[y7.1,y7.2.1,y7.2.2.1,y7.2.2.2.1,y7.2.2.2.2]) State (t rfl) rfl rfl rfl rfl) rfl fun a w s=>sq s (mvq (t rfl)) rfl fun a w s=>sra (K:=1000) (m:=[y7.1,y7.2.1,y7.2.2.1,y7.2.2.2.1,y7.2.2.2.2]) (cs':=[y7.1,y7.2.1,y7.2.2.1,y7.2.2.2.1,y7.2.2.2.2]) s (t rfl) rfl (t rfl) (by kernel_rfl) rfl rfl rfl fun w s=>sq s (saq (t rfl)) rfl fun a w s=>sq s (sa ci) rfl fun a w s=>nl ?_))
   obtain rfl:=si hm
   refine fzk (α:=Int) (k:=1004) hM s rfl fun s=>?_
   refine fzk (α:=Bool) (k:=1005) hM s rfl fun s=>?_
   refine fzk (α:=Bool) (k:=1006) hM s rfl fun s=>?_
   refine fzk (α:=Bool) (k:=1007) hM s rfl fun s=>?_
   refine fzk (α:=Int) (k:=1008) hM s rfl fun s=>?_
   refine shut (k:=1000) (x:=(⟨o10s.2.2.1,o10s.2.2.2,x6.2.2.1,x6.2.2.2.1,x6.2.2.2.2⟩:State)) s rfl (rpS30 (l:=([y7.1],[y7.2.1],[y7.2.2.1],[y7.2.2.2.1],[y7.2.2.2.2])) (rpz (k:=1004) rfl) (rpz (k:=1005) rfl) (rpz (k:=1006) rfl) (rpz (k:=1007) rfl) (rpz (k:=1008) rfl)) fun s=>?_
   refine wpIn_ret ?_
   exact rz [1001] o10sc0 hM hD s rfl (rv3 (rc (K:=1000) rfl rfl) (rt rfl) (rt rfl)) (kc rfl kn) rfl
def m186 (f:Nat) (v0:Control) (v1:State):Option (Bool×Int):=(m203 f v0 v1).bind fun x1=>(bif (x1 != (0:Int)) then some (false,x1) else (m204 f v0 v1).bind fun x2=>(bif (x2.2.1 == (0:Int)) then (m120 f x2.1 v1).bind fun x5=>some x5 else some false).bind fun r6=>some (r6,(0:Int)))
set_option maxRecDepth 100000 in
theorem s186 (f:Nat) (v0:Control) (v1:State) (r:Bool×Int) (hm:m186 f v0 v1=some r):Sp Tryz.prog 186 [Va (v0),Va (v1)] (T2 (Va (r.1)) (Va (r.2))):=by
 unfold m186 at hm
 refine ens Tryz.func186 (by kernel_rfl) rfl Tryz.ntmps186 rfl rfl fun M w_0 a hM hD s=>?_
 refine se (rg (sq s (bx (t rfl)) rfl fun a w s=>sq s (bx (t rfl)) rfl fun a w s=>sq s (sa cb) rfl fun a w s=>sq s (sa ci) rfl fun a w s=>nl ?_))
 refine se ?_
 obtain ⟨x1,hx1,hm⟩:=bs hm
 refine se (rg (sq s (ld (t rfl)) rfl fun a w s=>sq s (ld (t rfl)) rfl fun a w s=>sq s (cc rfl (oc (t rfl) (oc (t rfl) on)) (s203 f _ _ _ hx1)) rfl fun a w s=>sq s (sa (t rfl)) rfl fun a w s=>nl ?_))
 refine se (rg (sq s (mv (t rfl)) rfl fun a w s=>sq s (ne (t rfl) ci) rfl fun a w s=>nl ?_))
 refine cm s rfl hm (fun hb hm=>?_) (fun hb hm=>?_)
 ·refine se (rg (sq s (mv (t rfl)) rfl fun a w s=>sq s (sa cb) rfl fun a w s=>sq s (sa (t rfl)) rfl fun a w s=>nl ?_))
  obtain rfl:=si hm
  refine wpIn_ret ?_
  exact rn hD s rfl (rv2 (rt rfl) (rt rfl))
 ·refine wpIn_skip ?_
  obtain ⟨x2,hx2,hm⟩:=bs hm
  refine se (rg (sq s (ld (t rfl)) rfl fun a w s=>sq s (ld (t rfl)) rfl fun a w s=>sqz [1000] hM s (cc rfl (oc (t rfl) (oc (t rfl) on)) (s204 f _ _ _ hx2)) (fun _=>rfl) rfl rfl fun y3 a w s=>sq s (mve (t rfl)) rfl fun a w s=>sq s (Pn.x30 (t rfl)) rfl fun a w s=>sq s (Pn.x31 (t rfl)) rfl fun a w s=>sq s (Pn.x32 (t rfl)) rfl fun a w s=>sqr 1001 s (alr (cs:=[(.slice none 0 0),(.slice none 0 0),(.slice none 0 0),(.slice none 0 0),(.slice none 0 0)]) (z:=.agg #[(.slice none 0 0),(.slice none 0 0),(.slice none 0 0),(.slice none 0 0),(.slice none 0 0)]) (by kernel_rfl) rfl rfl) rfl rfl fun b4 a w s=>swd (K:=1001) s (t rfl) rfl (t rfl) rfl fun w s=>sq s (saq (t rfl)) rfl fun a w s=>sq s (sa (t rfl)) rfl fun a w s=>nl ?_))
  obtain ⟨r6,hr6,hm⟩:=bs hm
  have gr6:=gT hr6
  have er6:=gF hr6
  obtain ⟨x5,hx5,gr6⟩:=gx gr6
  refine se (rg (sq s (mv (t rfl)) rfl fun a w s=>sq s (eq (t rfl) ci) rfl fun a w s=>sq s (mv (t rfl)) rfl fun a w s=>sg s rfl rfl (fun hb=>(lm (K:=1001) (t rfl) rfl)) rfl fun a w s=>sg s rfl rfl (fun hb=>(ld (t rfl))) rfl fun a w s=>sg s rfl rfl (fun hb=>(cc rfl (oc (tg rfl hb) (oc (tg rfl hb) on)) (s120 f _ _ _ (hx5 hb)))) rfl fun a w s=>sq s (pa (t rfl) rfl (fun h=>si (gr6 h)) (fun h=>(si (er6 h)).symm)) rfl fun a w s=>sq s (sa (t rfl)) rfl fun a w s=>sq s (sa ci) rfl fun a w s=>nl ?_))
  obtain rfl:=si hm
  refine wpIn_ret ?_
  exact rn hD s rfl (rv2 (rt rfl) (rt rfl))
def m110 (f:Nat) (v0:Control) (v1:State):Option (Int):=(m186 f v0 v1).bind fun x1=>(bif (x1.2 != (0:Int)) then some x1.2 else (bif (!x1.1) then some (14:Int) else some (0:Int)))
set_option maxRecDepth 100000 in
theorem s110 (f:Nat) (v0:Control) (v1:State) (r:Int) (hm:m110 f v0 v1=some r):Sp Tryz.prog 110 [Va (v0),Va (v1)] (Va (r)):=by
 unfold m110 at hm
 refine ens Tryz.func110 (by kernel_rfl) rfl Tryz.ntmps110 rfl rfl fun M w_0 a hM hD s=>?_
 refine se (rg (sq s (bx (t rfl)) rfl fun a w s=>sq s (bx (t rfl)) rfl fun a w s=>sq s (sa ci) rfl fun a w s=>nl ?_))
 obtain ⟨x1,hx1,hm⟩:=bs hm
 refine se (rg (sq s (ld (t rfl)) rfl fun a w s=>sq s (ld (t rfl)) rfl fun a w s=>sq s (cc rfl (oc (t rfl) (oc (t rfl) on)) (s186 f _ _ _ hx1)) rfl fun a w s=>sq s (mve (t rfl)) rfl fun a w s=>sq s (Pn.x20 (t rfl)) rfl fun a w s=>sq s (Pn.x21 (t rfl)) rfl fun a w s=>sq s (sa (t rfl)) rfl fun a w s=>sq s (sa (t rfl)) rfl fun a w s=>nl ?_))
 refine se ?_
 refine wpIn_block ?_
 refine se (rg (sq s (mv (t rfl)) rfl fun a w s=>sq s (ne (t rfl) ci) rfl fun a w s=>sq s (sa (t rfl)) rfl fun a w s=>nl ?_))
 refine cm s rfl hm (fun hb hm=>?_) (fun hb hm=>?_)
 ·refine se (rg (sq s (mv (t rfl)) rfl fun a w s=>sq s (sa (t rfl)) rfl fun a w s=>nl ?_))
  obtain rfl:=si hm
  refine wpIn_ret ?_
  exact rn hD s rfl (rv1 (rt rfl))
 ·refine se (rg (sq s (mv (t rfl)) rfl fun a w s=>sq s (nt (t rfl)) rfl fun a w s=>sq s (sa (t rfl)) rfl fun a w s=>nl ?_))
  refine cm s rfl hm (fun hb hm=>?_) (fun hb hm=>?_)
  ·refine se (rg (sq s (sa ci) rfl fun a w s=>nl ?_))
   obtain rfl:=si hm
   refine wpIn_ret ?_
   exact rn hD s rfl (rv1 (rt rfl))
  ·refine wpIn_skip ?_
   refine se (rg (sq s (sa ci) rfl fun a w s=>nl ?_))
   obtain rfl:=si hm
   refine wpIn_ret ?_
   exact rn hD s rfl (rv1 (rt rfl))
def m188_l2 {σ:Type} (gy:Event→σ→Option (Bool×σ)) (v0:State):Nat→(Int×σ)→Option (Lo (Int×σ) (σ))
 | 0,_=>none
 | n+1,z4=>(bif (decide (z4.1 < (((v0).Timers).length:Int))) then (idx ((v0).Timers) z4.1).bind fun x6=>bif (x6 == (1:Int)) then ((gy (⟨(1:Int),z4.1,false⟩:Event) z4.2).bind fun x7=>(bif (bif (x6 == (1:Int)) then (!x7.1) else false) then some (.ret x7.2) else m188_l2 gy v0 n ((wr (z4.1 + (1:Int))),x7.2))) else (bif false then some (.ret z4.2) else m188_l2 gy v0 n ((wr (z4.1 + (1:Int))),z4.2)) else some (.brk (z4.1,z4.2)))
def m188_l1 {σ:Type} (gy:Event→σ→Option (Bool×σ)) (v0:State):Nat→(Int×σ)→Option (Lo (Int×σ) (σ))
 | 0,_=>none
 | n+1,z1=>(bif (decide (z1.1 < (((v0).Ends).length:Int))) then (idx ((v0).Ends) z1.1).bind fun x3=>bif ((x3 == (1:Int)) || (x3 == (3:Int))) then ((gy (⟨(0:Int),z1.1,false⟩:Event) z1.2).bind fun x4=>(bif (bif ((x3 == (1:Int)) || (x3 == (3:Int))) then (!x4.1) else false) then some (.ret x4.2) else m188_l1 gy v0 n ((wr (z1.1 + (1:Int))),x4.2))) else (bif false then some (.ret z1.2) else m188_l1 gy v0 n ((wr (z1.1 + (1:Int))),z1.2)) else some (.brk (z1.1,z1.2)))
def m188 {σ:Type} (gy:Event→σ→Option (Bool×σ)) (f:Nat) (v0:State) (v1:σ):Option (σ):=((m188_l1 gy v0 f ((0:Int),v1)).bind fun o2=>match o2 with | .brk o2s=>((m188_l2 gy v0 f ((0:Int),o2s.2)).bind fun o5=>match o5 with | .brk o5s=>some o5s.2 | .ret r=>some r) | .ret r=>some r)
set_option maxRecDepth 100000 in
set_option maxHeartbeats 2000000 in
theorem s188 {σ:Type} (E:σ→Ent) [hE:∀ s,Gh (E s)] (n0:Nat) (gy:Event→σ→Option (Bool×σ)) (ihy:∀ x s r,gy x s=some r→Cy Tryz.prog n0 [Va x] [E s] (Rz (fun _:Unit=>Va r.1) fun _=>[E r.2])) (f:Nat) (v0:State) (v1:σ) (r:σ) (hm:m188 gy f v0 v1=some r):Cg Tryz.prog 188 [Qv (yv n0),Pt (v0)] [E (v1)] (Rz (fun x:Unit=>Dd) (fun x=>[E (r)])):=by
 unfold m188 at hm
 refine eng Tryz.func188 (by kernel_rfl) rfl Tryz.ntmps188 rfl rfl fun M w_0 a hM hD s=>?_
 refine se ?_
 refine se (rg (sq s (fa (f:=State.Ends) (t rfl)) rfl fun a w s=>sq s (ld (t rfl)) rfl fun a w s=>sq s (ln (t rfl)) rfl fun a w s=>sq s (mv ci) rfl fun a w s=>nl ?_))
 obtain ⟨o2,hoo2,hko2⟩:=bs hm
 refine lcI o2 (fun o2s a w=>St M w_0 47 [(0,Qv (yv n0)),(1,Pt (v0)),(8,Va ((v0).Ends)),(9,Va ((((v0).Ends).length:Int))),(10,Va (o2s.1)),(1000,E (o2s.2))] a w) ?_ fun o2s a w ho s=>?_
 ·refine wpIn_block ?_
  refine loI (fun n z1=>m188_l1 gy v0 n z1) o2 (fun z1 a w=>St M w_0 47 [(0,Qv (yv n0)),(1,Pt (v0)),(8,Va ((v0).Ends)),(9,Va ((((v0).Ends).length:Int))),(10,Va (z1.1)),(1000,E (z1.2))] a w) f ((0:Int),v1) (s.pick [0,1,8,9,10,1000]) hoo2 (fun _=>rfl) fun n z1 a w hm s=>?_
  replace hm:m188_l1 gy v0 (n + 1) z1=some o2:=hm
  unfold m188_l1 at hm
  refine se (rg (sq s (lt (t rfl) (t rfl)) rfl fun a w s=>nl ?_))
  refine se ?_
  refine cm s rfl hm (fun hb hm=>?_) (fun hb hm=>?_)
  ·refine wpIn_skip ?_
   refine se ?_
   refine wpIn_block ?_
   obtain ⟨x3,hx3,hm⟩:=bs hm
   refine se (rg (sq s (mv (t rfl)) rfl fun a w s=>sq s (ix (t rfl) (t rfl) hx3) rfl fun a w s=>sq s (ld (t rfl)) rfl fun a w s=>sq s (sa (t rfl)) rfl fun a w s=>sq s (sa (t rfl)) rfl fun a w s=>nl ?_))
   rcases bfc hm with ⟨hb0,hm⟩ | ⟨hb0,hm⟩
   ·obtain ⟨x4,hx4,hm⟩:=bs hm
    refine se (rg (sq s (mv (t rfl)) rfl fun a w s=>sq s (eq (t rfl) ci) rfl fun a w s=>sq s (mv (t rfl)) rfl fun a w s=>sg s rfl rfl (fun hb=>(mv (t rfl))) rfl fun a w s=>sg s rfl rfl (fun hb=>(eq (tg rfl hb) ci)) rfl fun a w s=>sq s (poP (t rfl) rfl) rfl fun a w s=>sq s (mv (t rfl)) rfl fun a w s=>gon s rfl rfl hb0 <| sq s (mvq (t rfl)) rfl fun a w s=>gon s rfl rfl hb0 <| sq s (mv (t rfl)) rfl fun a w s=>gon s rfl rfl hb0 <| sq s (bl79_0_1 ci (t rfl)) rfl fun a w s=>gon s rfl rfl hb0 <| cgy [1000] [1000] hM s (t rfl) rfl (oc (t rfl) on) (ihy _ _ _ hx4) (kc rfl kn) rfl (fun _=>rfl) rfl rfl rfl fun y5 a w s=>gon s rfl rfl hb0 <| sq s (nt (t rfl)) rfl fun a w s=>sq s (pk (t rfl) (t rfl) cb) rfl fun a w s=>nl ?_))
    refine cm s rfl hm (fun hb hm=>?_) (fun hb hm=>?_)
    ·obtain rfl:=si hm
     replace hm:=hko2
     dsimp only at hm
     obtain rfl:=si hm
     refine wpIn_ret ?_
     exact rz [1000] () hM hD s rfl rv0 (kc rfl kn) rfl
    ·refine wpIn_skip ?_
     refine rg (sq s (ad (t rfl) ci) rfl fun a w s=>sq s (mv (t rfl)) rfl fun a w s=>nl ?_)
     exact ⟨_,hm,s.pick [0,1,8,9,10,1000]⟩
   ·refine se (rg (sq s (mv (t rfl)) rfl fun a w s=>sq s (eq (t rfl) ci) rfl fun a w s=>sq s (mv (t rfl)) rfl fun a w s=>sg s rfl rfl (fun hb=>(mv (t rfl))) rfl fun a w s=>sg s rfl rfl (fun hb=>(eq (tg rfl hb) ci)) rfl fun a w s=>sq s (poP (t rfl) rfl) rfl fun a w s=>sq s (mv (t rfl)) rfl fun a w s=>goff s rfl rfl hb0 rfl fun a w s=>goff s rfl rfl hb0 rfl fun a w s=>goff s rfl rfl hb0 rfl fun a w s=>goff s rfl rfl hb0 rfl fun a w s=>goff s rfl rfl hb0 rfl fun a w s=>sq s (pkF (t rfl) hb0 cb) rfl fun a w s=>nl ?_))
    refine cm s rfl hm (fun hb hm=>?_) (fun hb hm=>?_)
    ·obtain rfl:=si hm
     replace hm:=hko2
     dsimp only at hm
     obtain rfl:=si hm
     refine wpIn_ret ?_
     exact rz [1000] () hM hD s rfl rv0 (kc rfl kn) rfl
    ·refine wpIn_skip ?_
     refine rg (sq s (ad (t rfl) ci) rfl fun a w s=>sq s (mv (t rfl)) rfl fun a w s=>nl ?_)
     exact ⟨_,hm,s.pick [0,1,8,9,10,1000]⟩
  ·refine wpIn_exit ?_
   exact ⟨_,(si hm).symm,s.pick [0,1,8,9,10,1000]⟩
 ·subst ho
  replace hm:=hko2
  dsimp only at hm
  refine se (rg (sq s (fa (f:=State.Timers) (t rfl)) rfl fun a w s=>sq s (ld (t rfl)) rfl fun a w s=>sq s (ln (t rfl)) rfl fun a w s=>sq s (mv ci) rfl fun a w s=>nl ?_))
  obtain ⟨o5,hoo5,hko5⟩:=bs hm
  refine lcI o5 (fun o5s a w=>St M w_0 47 [(0,Qv (yv n0)),(1,Pt (v0)),(8,Va ((v0).Ends)),(9,Va ((((v0).Ends).length:Int))),(10,Va (o2s.1)),(30,Va ((v0).Timers)),(31,Va ((((v0).Timers).length:Int))),(32,Va (o5s.1)),(1000,E (o5s.2))] a w) ?_ fun o5s a w ho s=>?_
  ·refine wpIn_block ?_
   refine loI (fun n z4=>m188_l2 gy v0 n z4) o5 (fun z4 a w=>St M w_0 47 [(0,Qv (yv n0)),(1,Pt (v0)),(8,Va ((v0).Ends)),(9,Va ((((v0).Ends).length:Int))),(10,Va (o2s.1)),(30,Va ((v0).Timers)),(31,Va ((((v0).Timers).length:Int))),(32,Va (z4.1)),(1000,E (z4.2))] a w) f ((0:Int),o2s.2) (s.pick [0,1,8,9,10,30,31,32,1000]) hoo5 (fun _=>rfl) fun n z4 a w hm s=>?_
   replace hm:m188_l2 gy v0 (n + 1) z4=some o5:=hm
   unfold m188_l2 at hm
   refine se (rg (sq s (lt (t rfl) (t rfl)) rfl fun a w s=>nl ?_))
   refine se ?_
   refine cm s rfl hm (fun hb hm=>?_) (fun hb hm=>?_)
   ·refine wpIn_skip ?_
    refine se ?_
    refine wpIn_block ?_
    obtain ⟨x6,hx6,hm⟩:=bs hm
    refine se (rg (sq s (mv (t rfl)) rfl fun a w s=>sq s (ix (t rfl) (t rfl) hx6) rfl fun a w s=>sq s (ld (t rfl)) rfl fun a w s=>sq s (sa (t rfl)) rfl fun a w s=>sq s (sa (t rfl)) rfl fun a w s=>nl ?_))
    rcases bfc hm with ⟨hb0,hm⟩ | ⟨hb0,hm⟩
    ·obtain ⟨x7,hx7,hm⟩:=bs hm
     refine se (rg (sq s (mv (t rfl)) rfl fun a w s=>sq s (eq (t rfl) ci) rfl fun a w s=>sq s (mv (t rfl)) rfl fun a w s=>gon s rfl rfl hb0 <| sq s (mvq (t rfl)) rfl fun a w s=>gon s rfl rfl hb0 <| sq s (mv (t rfl)) rfl fun a w s=>gon s rfl rfl hb0 <| sq s (bl79_0_1 ci (t rfl)) rfl fun a w s=>gon s rfl rfl hb0 <| cgy [1000] [1000] hM s (t rfl) rfl (oc (t rfl) on) (ihy _ _ _ hx7) (kc rfl kn) rfl (fun _=>rfl) rfl rfl rfl fun y8 a w s=>gon s rfl rfl hb0 <| sq s (nt (t rfl)) rfl fun a w s=>sq s (pk (t rfl) (t rfl) cb) rfl fun a w s=>nl ?_))
     refine cm s rfl hm (fun hb hm=>?_) (fun hb hm=>?_)
     ·obtain rfl:=si hm
      replace hm:=hko5
      dsimp only at hm
      obtain rfl:=si hm
      refine wpIn_ret ?_
      exact rz [1000] () hM hD s rfl rv0 (kc rfl kn) rfl
     ·refine wpIn_skip ?_
      refine rg (sq s (ad (t rfl) ci) rfl fun a w s=>sq s (mv (t rfl)) rfl fun a w s=>nl ?_)
      exact ⟨_,hm,s.pick [0,1,8,9,10,30,31,32,1000]⟩
    ·refine se (rg (sq s (mv (t rfl)) rfl fun a w s=>sq s (eq (t rfl) ci) rfl fun a w s=>sq s (mv (t rfl)) rfl fun a w s=>goff s rfl rfl hb0 rfl fun a w s=>goff s rfl rfl hb0 rfl fun a w s=>goff s rfl rfl hb0 rfl fun a w s=>goff s rfl rfl hb0 rfl fun a w s=>goff s rfl rfl hb0 rfl fun a w s=>sq s (pkF (t rfl) hb0 cb) rfl fun a w s=>nl ?_))
     refine cm s rfl hm (fun hb hm=>?_) (fun hb hm=>?_)
     ·obtain rfl:=si hm
      replace hm:=hko5
      dsimp only at hm
      obtain rfl:=si hm
      refine wpIn_ret ?_
      exact rz [1000] () hM hD s rfl rv0 (kc rfl kn) rfl
     ·refine wpIn_skip ?_
      refine rg (sq s (ad (t rfl) ci) rfl fun a w s=>sq s (mv (t rfl)) rfl fun a w s=>nl ?_)
      exact ⟨_,hm,s.pick [0,1,8,9,10,30,31,32,1000]⟩
   ·refine wpIn_exit ?_
    exact ⟨_,(si hm).symm,s.pick [0,1,8,9,10,30,31,32,1000]⟩
  ·subst ho
   replace hm:=hko5
   dsimp only at hm
   obtain rfl:=si hm
   exact rze [1000] () hM hD s rfl rv0 (kc rfl kn) rfl
def m187_r1 :Event→((List Event))×Nat→Option (Bool×(((List Event))×Nat)):=fun u5 z3=>match z3 with
 | (z3,0)=>(app z3 ([u5]:List Event)).bind fun x7=>some (true,(x7,0))
 | (_,_ + 1)=>none
def m187 (f:Nat) (v0:State):Option ((List Event)):=(m188 (m187_r1) f v0 (([]:List Event),0)).bind fun o9=>(bif o9.2 == 0 then some o9.1 else none)
set_option maxRecDepth 100000 in
theorem s187 (f:Nat) (n0:Value) (v0:State) (r:(List Event)) (hm:m187 f v0=some r):Cg Tryz.prog 187 [Qv (.slice none 0 0),Qv (fv 188 [] [n0])] [At n0 (Pt (v0))] (Rz (fun x:Value=>Qv x) (fun x=>[At n0 (Pt (v0)),Ow 79 x (r)])):=by
 unfold m187 at hm
 refine eng Tryz.func187 (by kernel_rfl) rfl Tryz.ntmps187 rfl rfl fun M w_0 a hM hD s=>?_
 refine se (rg (sqr 1001 s (bxr (t rfl) (ocr rfl)) rfl rfl fun b1 a w s=>sq s (saq cq) rfl fun a w s=>nl ?_))
 refine se ?_
 refine se (rg (sq s (mvq (t rfl)) rfl fun a w s=>nl ?_))
 refine wpIn_block ?_
 refine nilc (α:=Event) (k:=1001) (cs':=fun c2=>[c2]) 1002 79 s rfl (fun _=>rfl) rfl fun c2 s=>?_
 obtain ⟨o9,ho9,hko9⟩:=bs hm
 refine rfn (α:=Event) (X:=Value) (σ:=(List Event)) (pe:=fun x=>[Va x]) (gb:=(m187_r1)) (r:=o9) [(2,Qv (pb b1 0))] [] (fun z3 n4=>[Mr b1 [n4],Ow 79 n4 (z3)]) ([]:List Event) c2 1005 1003 1004 [1001,1002] hM s (t rfl) vn (va (k:=1000) rfl vn) (kc rfl (kc rfl kn)) rfl (fun _ _=>rfl) (fun _ _ h=>look_pick (l:=[2]) h) (zs1 zs0) rfl rfl rfl (fun E _ l ihy=>s188 E l (m187_r1) ihy f _ _ _ ho9) (fun l fn D tm htm u5 z3 r hm=>?_) (fun d10 a w n11 s=>?_)
 ·rcases z3 with ⟨z3,_ | j⟩
  ·unfold m187_r1 at hm
   dsimp only at hm
   refine Cy.mk (KL:=1003) (KT:=1004) [1001,1002] [7] z3 htm rfl rfl rfl rfl rfl rfl (fun _=>rfl) fun M w_0 a n4 TB hM hD hTB s=>?_
   refine rg (sqb 1006 s (al (z:=(⟨(0:Int),(0:Int),false⟩:Event))) rfl rfl fun b6 a w s=>sw (K:=1006) s (t rfl) rfl (t rfl) rfl fun w s=>nl ?_)
   refine bgn (K:=1003) s rfl rfl fun RB w hRB s=>?_
   refine wpIn_block ?_
   obtain ⟨x7,hx7,hm⟩:=bs hm
   refine rg (sq s (lrc (K:=1001) (List Event) (t rfl) rfl rfl rfl rfl) rfl fun a w s=>sq s (lm (K:=1006) (t rfl) rfl) rfl fun a w s=>sq s (bsv (o1 (t rfl) o0) rfl rfl (by kernel_rfl)) rfl fun a w s=>apd (α:=Event) (k:=1002) s (t rfl) rfl (t rfl) hx7 rfl rfl fun c8 a w s=>srq (K:=1001) (cs':=[c8]) s (t rfl) rfl (t rfl) (by kernel_rfl) (oco (k:=1002) rfl) rfl rfl fun w s=>nl ?_)
   obtain rfl:=si hm
   exact rde (KL:=1003) (KT:=1004) [1001,1002] none 0 true x7 c8 hM s rfl rfl hRB hTB (kc rfl (kc rfl kn)) rfl rfl rfl rfl
  ·unfold m187_r1 at hm
   cases hm
 ·replace hm:=hko9
  rcases bfc hm with ⟨hj,hm⟩ | ⟨hj,hm⟩
  ·refine af0 hj ?_
   refine se (rg (sq s (lrc (K:=1001) (List Event) (t rfl) rfl rfl rfl rfl) rfl fun a w s=>sq s (saq (t rfl)) rfl fun a w s=>nl ?_))
   obtain rfl:=si hm
   refine wpIn_ret ?_
   refine lvm (KD:=1005) s rfl rfl rfl fun a w ha s=>?_
   rw [← ha]
   exact rz [1000,1002] n11 hM hD s rfl (rv1 (rt rfl)) (kc rfl (kc rfl kn)) rfl
  ·cases hm
def m111 (f:Nat) (v0:State):Option ((List Event)):=(m187 f v0).bind fun x1=>some x1
set_option maxRecDepth 100000 in
theorem s111 (f:Nat) (n0:Value) (v0:State) (r:(List Event)) (hm:m111 f v0=some r):Cg Tryz.prog 111 [Qv (fv 188 [] [n0])] [At n0 (Pt (v0))] (Rz (fun x:Value=>Qv x) (fun x=>[At n0 (Pt (v0)),Ow 79 x (r)])):=by
 unfold m111 at hm
 refine eng Tryz.func111 (by kernel_rfl) rfl Tryz.ntmps111 rfl rfl fun M w_0 a hM hD s=>?_
 refine se (rg (sq s (saq cq) rfl fun a w s=>nl ?_))
 obtain ⟨x1,hx1,hm⟩:=bs hm
 refine se (rg (sq s (mvq (t rfl)) rfl fun a w s=>cgv [1000] [1000,1001] hM s qf rfl (oc cq (oc (t rfl) on)) vn vn (s187 f n0 _ _ hx1) (kc rfl kn) rfl (fun _=>rfl) rfl rfl rfl fun y2 a w s=>sq s (saq (t rfl)) rfl fun a w s=>nl ?_))
 obtain rfl:=si hm
 refine wpIn_ret ?_
 exact rz [1000,1001] y2 hM hD s rfl (rv1 (rt rfl)) (kc rfl (kc rfl kn)) rfl
def m45 (f:Nat) (v0:Control) (v1:State):Option (Int×(List Event)):=(m110 f v0 v1).bind fun x1=>(bif (x1 != (0:Int)) then some (x1,([]:List Event)) else (m112 f v1).bind fun x3=>(m111 f x3).bind fun x5=>some ((0:Int),x5))
set_option maxRecDepth 100000 in
theorem s45 (f:Nat) (v0:Control) (v1:State) (r:Int×(List Event)) (hm:m45 f v0 v1=some r):Sp Tryz.prog 45 [Va (v0),Va (v1)] (Rz (fun x:Value=>T2 (Qv x) (Va (r.1))) (fun x=>[Ow 79 x (r.2)])):=by
 unfold m45 at hm
 refine ens Tryz.func45 (by kernel_rfl) rfl Tryz.ntmps45 rfl rfl fun M w_0 a hM hD s=>?_
 refine se (rg (sq s (bx (t rfl)) rfl fun a w s=>sq s (bx (t rfl)) rfl fun a w s=>sq s (saq cq) rfl fun a w s=>sq s (sa ci) rfl fun a w s=>nl ?_))
 refine se ?_
 obtain ⟨x1,hx1,hm⟩:=bs hm
 refine se (rg (sq s (ld (t rfl)) rfl fun a w s=>sq s (ld (t rfl)) rfl fun a w s=>sq s (cc rfl (oc (t rfl) (oc (t rfl) on)) (s110 f _ _ _ hx1)) rfl fun a w s=>sq s (sa (t rfl)) rfl fun a w s=>nl ?_))
 refine se (rg (sq s (mv (t rfl)) rfl fun a w s=>sq s (ne (t rfl) ci) rfl fun a w s=>nl ?_))
 refine cm s rfl hm (fun hb hm=>?_) (fun hb hm=>?_)
 ·refine se (rg (sq s (mv (t rfl)) rfl fun a w s=>sq s (saq cq) rfl fun a w s=>sq s (sa (t rfl)) rfl fun a w s=>nl ?_))
  obtain rfl:=si hm
  refine nilt (α:=Event) (d:=4) 1000 79 s rfl rfl fun c2 s=>?_
  refine wpIn_ret ?_
  exact rz [1000] c2 hM hD s rfl (rv2 (rt rfl) (rt rfl)) (kc rfl kn) rfl
 ·refine wpIn_skip ?_
  obtain ⟨x3,hx3,hm⟩:=bs hm
  obtain ⟨x5,hx5,hm⟩:=bs hm
  refine se (rg (sq s (ld (t rfl)) rfl fun a w s=>sqz [1001] hM s (cc rfl (oc (t rfl) on) (s112 f _ _ hx3)) (fun _=>rfl) rfl rfl fun y4 a w s=>cgv [1001] [1001,1002] hM s qf rfl (oc (t rfl) on) vn vn (s111 f y4 _ _ hx5) (kc rfl kn) rfl (fun _=>rfl) rfl rfl rfl fun y6 a w s=>sq s (saq (t rfl)) rfl fun a w s=>sq s (sa ci) rfl fun a w s=>nl ?_))
  obtain rfl:=si hm
  refine wpIn_ret ?_
  exact rz [1002] y6 hM hD s rfl (rv2 (rt rfl) (rt rfl)) (kc rfl kn) rfl
def m137 (f:Nat) (v0:List Int) (v1:List Int):Option ((List Int)):=(m205 f ([v0,v1]:List (List Int))).bind fun x1=>(m206 f x1).bind fun x3=>(m207 f x3).bind fun x5=>some x5
set_option maxRecDepth 100000 in
theorem s137 (f:Nat) (v0:List Int) (v1:List Int) (r:(List Int)) (hm:m137 f v0 v1=some r):Sp Tryz.prog 137 [Va (v0),Va (v1)] (Rz (fun x:Value=>Qv x) (fun x=>[Ow 3 x (r)])):=by
 unfold m137 at hm
 refine ens Tryz.func137 (by kernel_rfl) rfl Tryz.ntmps137 rfl rfl fun M w_0 a hM hD s=>?_
 refine se (rg (sq s (saq cq) rfl fun a w s=>nl ?_))
 obtain ⟨x1,hx1,hm⟩:=bs hm
 refine se (rg (sq s (mv (t rfl)) rfl fun a w s=>sq s (mv (t rfl)) rfl fun a w s=>sq s (bsv (o1 (t rfl) (o1 (t rfl) o0)) rfl rfl (by kernel_rfl)) rfl fun a w s=>sqz [1000] hM s (cc rfl (oc (t rfl) on) (s205 f _ _ hx1)) (fun _=>rfl) rfl rfl fun y2 a w s=>sq s (saq (t rfl)) rfl fun a w s=>nl ?_))
 obtain ⟨x3,hx3,hm⟩:=bs hm
 refine se (rg (sq s (mvq (t rfl)) rfl fun a w s=>cgv [1000] [1000] hM s qf rfl (oc (t rfl) on) vn vn (s206 f y2 _ _ hx3) (kc rfl kn) rfl (fun _=>rfl) rfl rfl rfl fun y4 a w s=>nl ?_))
 obtain ⟨x5,hx5,hm⟩:=bs hm
 refine se (rg (sq s (mvq (t rfl)) rfl fun a w s=>cgv [1000] [1000] hM s qf rfl (oc (t rfl) on) vn vn (s207 f y2 _ _ hx5) (kc rfl kn) rfl (fun _=>rfl) rfl rfl rfl fun y6 a w s=>sq s (saq (t rfl)) rfl fun a w s=>nl ?_))
 obtain rfl:=si hm
 refine wpIn_ret ?_
 exact rz [1000] y6 hM hD s rfl (rv1 (rt rfl)) (kc rfl kn) rfl
def m134_l1 (f:Nat) (v0:Control):Nat→(Int×State×(List Int))→Option (Lo (Int×State×(List Int)) (State×Int×(List Int)))
 | 0,_=>none
 | n+1,z5=>(bif (decide (z5.1 < (65:Int))) then (m204 f v0 z5.2.1).bind fun x8=>(bif (x8.2.1 != (0:Int)) then some (.ret ((⟨([]:List Int),([]:List Bool),([]:List Bool),([]:List Bool),([]:List Int)⟩:State),x8.2.1,([]:List Int))) else (m137 f z5.2.2 x8.2.2).bind fun x12=>(m120 f x8.1 z5.2.1).bind fun x14=>(bif x14 then some (.ret (x8.1,(0:Int),x12)) else m134_l1 f v0 n ((wr (z5.1 + (1:Int))),x8.1,x12))) else some (.brk (z5.1,z5.2.1,z5.2.2)))
def m134 (f:Nat) (v0:Control) (v1:State):Option (State×Int×(List Int)):=(m203 f v0 v1).bind fun x3=>(bif (x3 != (0:Int)) then some ((⟨([]:List Int),([]:List Bool),([]:List Bool),([]:List Bool),([]:List Int)⟩:State),x3,([]:List Int)) else ((m134_l1 f v0 f ((0:Int),v1,([]:List Int))).bind fun o6=>match o6 with | .brk o6s=>some ((⟨([]:List Int),([]:List Bool),([]:List Bool),([]:List Bool),([]:List Int)⟩:State),(21:Int),([]:List Int)) | .ret r=>some r))
set_option maxRecDepth 100000 in
set_option maxHeartbeats 2000000 in
theorem s134 (f:Nat) (v0:Control) (v1:State) (r:State×Int×(List Int)) (hm:m134 f v0 v1=some r):Sp Tryz.prog 134 [Va (v0),Va (v1)] (Rz (fun x:Value=>T3 (Va (r.1)) (Qv x) (Va (r.2.1))) (fun x=>[Ow 3 x (r.2.2)])):=by
 unfold m134 at hm
 refine ens Tryz.func134 (by kernel_rfl) rfl Tryz.ntmps134 rfl rfl fun M w_0 a hM hD s=>?_
 refine se (rg (sq s (bx (t rfl)) rfl fun a w s=>sqb 1000 s (bxm (t rfl)) rfl rfl fun b1 a w s=>sqr 1001 s (alr (cs:=[(.slice none 0 0),(.slice none 0 0),(.slice none 0 0),(.slice none 0 0),(.slice none 0 0)]) (z:=.agg #[(.slice none 0 0),(.slice none 0 0),(.slice none 0 0),(.slice none 0 0),(.slice none 0 0)]) (by kernel_rfl) rfl rfl) rfl rfl fun b2 a w s=>sq s (saq cq) rfl fun a w s=>sq s (sa ci) rfl fun a w s=>nl ?_))
 refine se ?_
 obtain ⟨x3,hx3,hm⟩:=bs hm
 refine se (rg (sq s (ld (t rfl)) rfl fun a w s=>sq s (lm (K:=1000) (t rfl) rfl) rfl fun a w s=>sq s (cc rfl (oc (t rfl) (oc (t rfl) on)) (s203 f _ _ _ hx3)) rfl fun a w s=>sq s (sa (t rfl)) rfl fun a w s=>nl ?_))
 refine se (rg (sq s (mv (t rfl)) rfl fun a w s=>sq s (ne (t rfl) ci) rfl fun a w s=>nl ?_))
 refine cm s rfl hm (fun hb hm=>?_) (fun hb hm=>?_)
 ·refine se (rg (sq s (bla (L:=[(0,1),(1,1),(2,1),(3,1),(4,1)]) (z:=[(.slice none 0 0),(.slice none 0 0),(.slice none 0 0),(.slice none 0 0),(.slice none 0 0)]) (res:=[(.slice none 0 0),(.slice none 0 0),(.slice none 0 0),(.slice none 0 0),(.slice none 0 0)]) rfl (by kernel_rfl) (by kernel_rfl) pdn rfl rfl) rfl fun a w s=>sq s (mv (t rfl)) rfl fun a w s=>sra (K:=1001) (m:=[(.slice none 0 0),(.slice none 0 0),(.slice none 0 0),(.slice none 0 0),(.slice none 0 0)]) (cs':=[(.slice none 0 0),(.slice none 0 0),(.slice none 0 0),(.slice none 0 0),(.slice none 0 0)]) s (t rfl) rfl (t rfl) (by kernel_rfl) rfl rfl rfl fun w s=>sq s (saq cq) rfl fun a w s=>sq s (sa (t rfl)) rfl fun a w s=>nl ?_))
  obtain rfl:=si hm
  refine shut (k:=1001) (x:=(⟨([]:List Int),([]:List Bool),([]:List Bool),([]:List Bool),([]:List Int)⟩:State)) s rfl (rpS30 (l:=([(.slice none 0 0)],[(.slice none 0 0)],[(.slice none 0 0)],[(.slice none 0 0)],[(.slice none 0 0)])) (rpn (α:=Int)) (rpn (α:=Bool)) (rpn (α:=Bool)) (rpn (α:=Bool)) (rpn (α:=Int))) fun s=>?_
  refine nilt (α:=Int) (d:=5) 1002 3 s rfl rfl fun c4 s=>?_
  refine wpIn_ret ?_
  exact rz [1002] c4 hM hD s rfl (rv3 (rc (K:=1001) rfl rfl) (rt rfl) (rt rfl)) (kc rfl kn) rfl
 ·refine wpIn_skip ?_
  refine se (rg (sq s (saq cq) rfl fun a w s=>nl ?_))
  refine se ?_
  refine se (rg (sq s (mv ci) rfl fun a w s=>nl ?_))
  refine nilt (α:=Int) (d:=8) 1003 3 s rfl rfl fun c7 s=>?_
  obtain ⟨o6,hoo6,hko6⟩:=bs hm
  refine lcI o6 (fun o6s a w=>∃ (o6sc0:Value),St M w_0 43 [(0,Va (v0)),(1,Va (v1)),(2,Pt (v0)),(3,Qv (pb b1 0)),(4,Qv (pb b2 0)),(5,Qv (.slice none 0 0)),(6,Va ((0:Int))),(7,Va (x3)),(8,Qv o6sc0),(19,Va (o6s.1)),(1000,Mg b1 (o6s.2.1)),(1001,Mr b2 [(.slice none 0 0),(.slice none 0 0),(.slice none 0 0),(.slice none 0 0),(.slice none 0 0)]),(1003,Ow 3 o6sc0 (o6s.2.2))] a w) ?_ fun o6s a w ho s=>?_
  ·refine wpIn_block ?_
   refine loI (fun n z5=>m134_l1 f v0 n z5) o6 (fun z5 a w=>∃ (z5c0:Value),St M w_0 43 [(0,Va (v0)),(1,Va (v1)),(2,Pt (v0)),(3,Qv (pb b1 0)),(4,Qv (pb b2 0)),(5,Qv (.slice none 0 0)),(6,Va ((0:Int))),(7,Va (x3)),(8,Qv z5c0),(19,Va (z5.1)),(1000,Mg b1 (z5.2.1)),(1001,Mr b2 [(.slice none 0 0),(.slice none 0 0),(.slice none 0 0),(.slice none 0 0),(.slice none 0 0)]),(1003,Ow 3 z5c0 (z5.2.2))] a w) f ((0:Int),v1,([]:List Int)) ⟨c7,s.pick [0,1,2,3,4,5,6,7,8,19,1000,1001,1003]⟩ hoo6 (fun _=>rfl) fun n z5 a w hm s=>?_
   obtain ⟨z5c0,s⟩:=s
   replace hm:m134_l1 f v0 (n + 1) z5=some o6:=hm
   unfold m134_l1 at hm
   refine se (rg (sq s (lt (t rfl) ci) rfl fun a w s=>nl ?_))
   refine se ?_
   refine cm s rfl hm (fun hb hm=>?_) (fun hb hm=>?_)
   ·refine wpIn_skip ?_
    refine se ?_
    refine wpIn_block ?_
    obtain ⟨x8,hx8,hm⟩:=bs hm
    refine se (rg (sq s (ld (t rfl)) rfl fun a w s=>sq s (lm (K:=1000) (t rfl) rfl) rfl fun a w s=>sqz [1004] hM s (cc rfl (oc (t rfl) (oc (t rfl) on)) (s204 f _ _ _ hx8)) (fun _=>rfl) rfl rfl fun y9 a w s=>sq s (mve (t rfl)) rfl fun a w s=>sq s (Pn.x30 (t rfl)) rfl fun a w s=>sq s (Pn.x31 (t rfl)) rfl fun a w s=>sq s (Pn.x32 (t rfl)) rfl fun a w s=>sqr 1005 s (alr (cs:=[(.slice none 0 0),(.slice none 0 0),(.slice none 0 0),(.slice none 0 0),(.slice none 0 0)]) (z:=.agg #[(.slice none 0 0),(.slice none 0 0),(.slice none 0 0),(.slice none 0 0),(.slice none 0 0)]) (by kernel_rfl) rfl rfl) rfl rfl fun b10 a w s=>swd (K:=1005) s (t rfl) rfl (t rfl) rfl fun w s=>sq s (saq (t rfl)) rfl fun a w s=>sq s (sa (t rfl)) rfl fun a w s=>nl ?_))
    refine se ?_
    refine se (rg (sq s (mv (t rfl)) rfl fun a w s=>sq s (ne (t rfl) ci) rfl fun a w s=>nl ?_))
    refine cm s rfl hm (fun hb hm=>?_) (fun hb hm=>?_)
    ·refine se (rg (sq s (bla (L:=[(0,1),(1,1),(2,1),(3,1),(4,1)]) (z:=[(.slice none 0 0),(.slice none 0 0),(.slice none 0 0),(.slice none 0 0),(.slice none 0 0)]) (res:=[(.slice none 0 0),(.slice none 0 0),(.slice none 0 0),(.slice none 0 0),(.slice none 0 0)]) rfl (by kernel_rfl) (by kernel_rfl) pdn rfl rfl) rfl fun a w s=>sq s (mv (t rfl)) rfl fun a w s=>sra (K:=1001) (m:=[(.slice none 0 0),(.slice none 0 0),(.slice none 0 0),(.slice none 0 0),(.slice none 0 0)]) (cs':=[(.slice none 0 0),(.slice none 0 0),(.slice none 0 0),(.slice none 0 0),(.slice none 0 0)]) s (t rfl) rfl (t rfl) (by kernel_rfl) rfl rfl rfl fun w s=>sq s (saq cq) rfl fun a w s=>sq s (sa (t rfl)) rfl fun a w s=>nl ?_))
     obtain rfl:=si hm
     replace hm:=hko6
     dsimp only at hm
     obtain rfl:=si hm
     refine shut (k:=1001) (x:=(⟨([]:List Int),([]:List Bool),([]:List Bool),([]:List Bool),([]:List Int)⟩:State)) s rfl (rpS30 (l:=([(.slice none 0 0)],[(.slice none 0 0)],[(.slice none 0 0)],[(.slice none 0 0)],[(.slice none 0 0)])) (rpn (α:=Int)) (rpn (α:=Bool)) (rpn (α:=Bool)) (rpn (α:=Bool)) (rpn (α:=Int))) fun s=>?_
     refine nilt (α:=Int) (d:=5) 1006 3 s rfl rfl fun c11 s=>?_
     refine wpIn_ret ?_
     exact rz [1006] c11 hM hD s rfl (rv3 (rc (K:=1001) rfl rfl) (rt rfl) (rt rfl)) (kc rfl kn) rfl
    ·refine wpIn_skip ?_
     obtain ⟨x12,hx12,hm⟩:=bs hm
     refine se (rg (sq s (mvq (t rfl)) rfl fun a w s=>sq s (mvq (t rfl)) rfl fun a w s=>sqz [1007] hM s (tfg (k:=1004) (flz (fun _=>flq) (fun _=>(flc flo fln))) rfl (tfg (k:=1003) (flz (fun _=>flq) (fun _=>(flc flo fln))) rfl (cc rfl (oc (ta (k:=1003) (t rfl) rfl) (oc (ta (k:=1004) (t rfl) rfl) on)) (s137 f _ _ _ hx12)))) (fun _=>rfl) rfl rfl fun y13 a w s=>sq s (saq (t rfl)) rfl fun a w s=>nl ?_))
     refine se ?_
     obtain ⟨x14,hx14,hm⟩:=bs hm
     refine se (rg (sq s (lm (K:=1005) (t rfl) rfl) rfl fun a w s=>sq s (lm (K:=1000) (t rfl) rfl) rfl fun a w s=>sq s (cc rfl (oc (t rfl) (oc (t rfl) on)) (s120 f _ _ _ hx14)) rfl fun a w s=>nl ?_))
     refine cm s rfl hm (fun hb hm=>?_) (fun hb hm=>?_)
     ·refine se (rg (sq s (lm (K:=1005) (t rfl) rfl) rfl fun a w s=>sq s (mvq (t rfl)) rfl fun a w s=>swd (K:=1001) s (t rfl) rfl (t rfl) rfl fun w s=>sq s (saq (t rfl)) rfl fun a w s=>sq s (sa ci) rfl fun a w s=>nl ?_))
      obtain rfl:=si hm
      replace hm:=hko6
      dsimp only at hm
      obtain rfl:=si hm
      refine wpIn_ret ?_
      exact rz [1007] y13 hM hD s rfl (rv3 (rc (K:=1001) rfl rfl) (rt rfl) (rt rfl)) (kc rfl kn) rfl
     ·refine wpIn_skip ?_
      refine rg (sq s (lm (K:=1005) (t rfl) rfl) rfl fun a w s=>sw (K:=1000) s (t rfl) rfl (t rfl) rfl fun w s=>nl ?_)
      refine rg (sq s (ad (t rfl) ci) rfl fun a w s=>sq s (mv (t rfl)) rfl fun a w s=>nl ?_)
      exact ⟨_,hm,⟨y13,s.rekey (l:=[(0,0),(1,1),(2,2),(3,3),(4,4),(5,5),(6,6),(7,7),(8,8),(19,19),(1000,1000),(1001,1001),(1007,1003)]) (.same rfl (.same rfl (.same rfl (.same rfl (.same rfl (.same rfl (.same rfl (.same rfl (.same rfl (.same rfl (.same rfl (.same rfl (.key (t:=1007) (u:=1003) rfl .nil))))))))))))) rfl rfl⟩⟩
   ·refine wpIn_exit ?_
    exact ⟨_,(si hm).symm,⟨z5c0,s.pick [0,1,2,3,4,5,6,7,8,19,1000,1001,1003]⟩⟩
  ·obtain ⟨o6sc0,s⟩:=s
   subst ho
   replace hm:=hko6
   dsimp only at hm
   refine se (rg (sq s (bla (L:=[(0,1),(1,1),(2,1),(3,1),(4,1)]) (z:=[(.slice none 0 0),(.slice none 0 0),(.slice none 0 0),(.slice none 0 0),(.slice none 0 0)]) (res:=[(.slice none 0 0),(.slice none 0 0),(.slice none 0 0),(.slice none 0 0),(.slice none 0 0)]) rfl (by kernel_rfl) (by kernel_rfl) pdn rfl rfl) rfl fun a w s=>sra (K:=1001) (m:=[(.slice none 0 0),(.slice none 0 0),(.slice none 0 0),(.slice none 0 0),(.slice none 0 0)]) (cs':=[(.slice none 0 0),(.slice none 0 0),(.slice none 0 0),(.slice none 0 0),(.slice none 0 0)]) s (t rfl) rfl (t rfl) (by kernel_rfl) rfl rfl rfl fun w s=>sq s (saq cq) rfl fun a w s=>sq s (sa ci) rfl fun a w s=>nl ?_))
   obtain rfl:=si hm
   refine shut (k:=1001) (x:=(⟨([]:List Int),([]:List Bool),([]:List Bool),([]:List Bool),([]:List Int)⟩:State)) s rfl (rpS30 (l:=([(.slice none 0 0)],[(.slice none 0 0)],[(.slice none 0 0)],[(.slice none 0 0)],[(.slice none 0 0)])) (rpn (α:=Int)) (rpn (α:=Bool)) (rpn (α:=Bool)) (rpn (α:=Bool)) (rpn (α:=Int))) fun s=>?_
   refine nilt (α:=Int) (d:=5) 1008 3 s rfl rfl fun c15 s=>?_
   refine wpIn_ret ?_
   exact rz [1008] c15 hM hD s rfl (rv3 (rc (K:=1001) rfl rfl) (rt rfl) (rt rfl)) (kc rfl kn) rfl
def m189 (f:Nat) (v0:Event) (v1:List Int) (v2:List Bool) (v3:List Bool) (v4:List Bool) (v5:List Int):Option (Bool×(List Int)×(List Bool)×(List Bool)×(List Bool)×(List Int)):=(bif ((decide ((v0).Index < (0:Int))) || (decide ((v0).Index≥(v1.length:Int)))) then some (false,v1,v2,v3,v4,v5) else (idx v1 ((v0).Index)).bind fun x1=>(bif (x1 == (1:Int)) then some (true,(v1.set ((v0).Index).toNat (2:Int)),v2,v3,v4,v5) else (bif (x1 == (3:Int)) then some (true,(v1.set ((v0).Index).toNat (0:Int)),v2,v3,v4,v5) else some (false,v1,v2,v3,v4,v5))))
set_option maxRecDepth 100000 in
theorem s189 (f:Nat) (n0:Nat) (n1:Value) (n2:Value) (n3:Value) (n4:Value) (n5:Value) (v0:Event) (v1:List Int) (v2:List Bool) (v3:List Bool) (v4:List Bool) (v5:List Int) (r:Bool×(List Int)×(List Bool)×(List Bool)×(List Bool)×(List Int)) (hm:m189 f v0 v1 v2 v3 v4 v5=some r):Cg Tryz.prog 189 [Qv (pb n0 0),Va (v0)] [Mr n0 [n1,n2,n3,n4,n5],Ow 3 n1 (v1),Ow 4 n2 (v2),Ow 4 n3 (v3),Ow 4 n4 (v4),Ow 3 n5 (v5)] (Rz (fun x:Unit=>Va (r.1)) (fun x=>[Mr n0 [n1,n2,n3,n4,n5],Ow 3 n1 (r.2.1),Ow 4 n2 (r.2.2.1),Ow 4 n3 (r.2.2.2.1),Ow 4 n4 (r.2.2.2.2.1),Ow 3 n5 (r.2.2.2.2.2)])):=by
 unfold m189 at hm
 refine eng Tryz.func189 (by kernel_rfl) rfl Tryz.ntmps189 rfl rfl fun M w_0 a hM hD s=>?_
 refine se (rg (sq s (bx (t rfl)) rfl fun a w s=>sq s (sa cb) rfl fun a w s=>nl ?_))
 refine se ?_
 refine se (flow s (m:=14) (.cons (.cong (.cong (.cong (.cong (.cong (.cong (.cong (.cong (.cong (.cons (.cons (.cons (.cons .nil rfl (fa (f:=Event.Index) (t rfl))) rfl (ld (t rfl))) rfl (lt (t rfl) ci)) rfl (mv (t rfl))) rfl rfl rfl (fun hb=>(fa (f:=Event.Index) (t rfl)))) rfl rfl rfl (fun hb=>(ld (tg rfl hb)))) rfl rfl rfl (fun hb=>(mvq (t rfl)))) rfl rfl rfl (fun hb=>(nkq (tg rfl hb)))) rfl rfl rfl (fun hb=>(fm_ (off:=0) (m:=4) (q:=0) (tg rfl hb) (by kernel_rfl) rfl))) rfl rfl rfl (fun hb=>(fm_ (off:=0) (m:=0) (q:=0) (tg rfl hb) (by kernel_rfl) rfl))) rfl rfl rfl (fun hb=>(lrc (K:=1000) (List Int) (tg rfl hb) rfl rfl rfl rfl))) rfl rfl rfl (fun hb=>(lnq (α:=Int) (k:=1001) (tg rfl hb) rfl))) rfl rfl rfl (fun hb=>(ge (tg rfl hb) (tg rfl hb)))) rfl (poP (t rfl) rfl)) (by kernel_rfl) rfl rfl fun a w s=>nl ?_)
 refine cm s rfl hm (fun hb hm=>?_) (fun hb hm=>?_)
 ·refine se (rg (sq s (sa cb) rfl fun a w s=>nl ?_))
  obtain rfl:=si hm
  refine wpIn_ret ?_
  exact rz [1000,1001,1002,1003,1004,1005] () hM hD s rfl (rv1 (rt rfl)) (kc rfl (kc rfl (kc rfl (kc rfl (kc rfl (kc rfl kn)))))) rfl
 ·refine wpIn_skip ?_
  refine se ?_
  obtain ⟨x1,hx1,hm⟩:=bs hm
  refine se (flow s (m:=8) (.cons (.cons (.cons (.cons (.cons (.cons (.cons (.cons .nil rfl (mvq (t rfl))) rfl (nkq (t rfl))) rfl (fm_ (off:=0) (m:=4) (q:=0) (t rfl) (by kernel_rfl) rfl)) rfl (fm_ (off:=0) (m:=0) (q:=0) (t rfl) (by kernel_rfl) rfl)) rfl (lrc (K:=1000) (List Int) (t rfl) rfl rfl rfl rfl)) rfl (fa (f:=Event.Index) (t rfl))) rfl (ld (t rfl))) rfl (ixq (α:=Int) (k:=1001) (t rfl) rfl (t rfl) hx1)) (by kernel_rfl) rfl rfl fun a w s=>sq s (sae (t rfl)) rfl fun a w s=>nl ?_)
  refine se (rg (sq s (mve (t rfl)) rfl fun a w s=>sq s (nke (t rfl)) rfl fun a w s=>sq s (lq (k:=1001) (t rfl) rfl (idxg hx1)) rfl fun a w s=>nl ?_))
  refine wpIn_block ?_
  refine se (rg (sq s (eq (t rfl) ci) rfl fun a w s=>sq s (sa (t rfl)) rfl fun a w s=>nl ?_))
  refine cm s rfl hm (fun hb hm=>?_) (fun hb hm=>?_)
  ·refine rg (sq s (mve (t rfl)) rfl fun a w s=>sq s (nke (t rfl)) rfl fun a w s=>stq (k:=1001) s (t rfl) rfl (idxg hx1) ci fun w s=>nl ?_)
   refine se (rg (sq s (sa cb) rfl fun a w s=>nl ?_))
   obtain rfl:=si hm
   refine wpIn_ret ?_
   exact rz [1000,1001,1002,1003,1004,1005] () hM hD s rfl (rv1 (rt rfl)) (kc rfl (kc rfl (kc rfl (kc rfl (kc rfl (kc rfl kn)))))) rfl
  ·refine se (rg (sq s (eq (t rfl) ci) rfl fun a w s=>sq s (sa (t rfl)) rfl fun a w s=>nl ?_))
   refine cm s rfl hm (fun hb hm=>?_) (fun hb hm=>?_)
   ·refine rg (sq s (mve (t rfl)) rfl fun a w s=>sq s (nke (t rfl)) rfl fun a w s=>stq (k:=1001) s (t rfl) rfl (idxg hx1) ci fun w s=>nl ?_)
    refine se (rg (sq s (sa cb) rfl fun a w s=>nl ?_))
    obtain rfl:=si hm
    refine wpIn_ret ?_
    exact rz [1000,1001,1002,1003,1004,1005] () hM hD s rfl (rv1 (rt rfl)) (kc rfl (kc rfl (kc rfl (kc rfl (kc rfl (kc rfl kn)))))) rfl
   ·refine se (rg (sq s (sa cb) rfl fun a w s=>nl ?_))
    obtain rfl:=si hm
    refine wpIn_ret ?_
    exact rz [1000,1001,1002,1003,1004,1005] () hM hD s rfl (rv1 (rt rfl)) (kc rfl (kc rfl (kc rfl (kc rfl (kc rfl (kc rfl kn)))))) rfl
def m190 (f:Nat) (v0:Event) (v1:List Int) (v2:List Bool) (v3:List Bool) (v4:List Bool) (v5:List Int):Option (Bool×(List Int)×(List Bool)×(List Bool)×(List Bool)×(List Int)):=(bif ((decide ((v0).Index < (0:Int))) || (decide ((v0).Index≥(v5.length:Int)))) then some true else (idx v5 ((v0).Index)).bind fun x1=>some (x1 != (1:Int))).bind fun r2=>(bif r2 then some (false,v1,v2,v3,v4,v5) else (idx v5 ((v0).Index)).bind fun x3=>(idx v4 ((v0).Index)).bind fun x4=>some (true,v1,v2,v3,(v4.set ((v0).Index).toNat true),(v5.set ((v0).Index).toNat (2:Int))))
set_option maxRecDepth 100000 in
theorem s190 (f:Nat) (n0:Nat) (n1:Value) (n2:Value) (n3:Value) (n4:Value) (n5:Value) (v0:Event) (v1:List Int) (v2:List Bool) (v3:List Bool) (v4:List Bool) (v5:List Int) (r:Bool×(List Int)×(List Bool)×(List Bool)×(List Bool)×(List Int)) (hm:m190 f v0 v1 v2 v3 v4 v5=some r):Cg Tryz.prog 190 [Qv (pb n0 0),Va (v0)] [Mr n0 [n1,n2,n3,n4,n5],Ow 3 n1 (v1),Ow 4 n2 (v2),Ow 4 n3 (v3),Ow 4 n4 (v4),Ow 3 n5 (v5)] (Rz (fun x:Unit=>Va (r.1)) (fun x=>[Mr n0 [n1,n2,n3,n4,n5],Ow 3 n1 (r.2.1),Ow 4 n2 (r.2.2.1),Ow 4 n3 (r.2.2.2.1),Ow 4 n4 (r.2.2.2.2.1),Ow 3 n5 (r.2.2.2.2.2)])):=by
 unfold m190 at hm
 refine eng Tryz.func190 (by kernel_rfl) rfl Tryz.ntmps190 rfl rfl fun M w_0 a hM hD s=>?_
 refine se (rg (sq s (bx (t rfl)) rfl fun a w s=>sq s (sa cb) rfl fun a w s=>nl ?_))
 refine se ?_
 obtain ⟨r2,hr2,hm⟩:=bs hm
 have gr2:=gF hr2
 have er2:=gT hr2
 obtain ⟨x1,hx1,gr2⟩:=gx gr2
 refine se (flow s (m:=26) (.cons (.cong (.cong (.cong (.cong (.cong (.cong (.cong (.cong (.cong (.cong (.cons (.cons (.cong (.cong (.cong (.cong (.cong (.cong (.cong (.cong (.cong (.cons (.cons (.cons (.cons .nil rfl (fa (f:=Event.Index) (t rfl))) rfl (ld (t rfl))) rfl (lt (t rfl) ci)) rfl (mv (t rfl))) rfl rfl rfl (fun hb=>(fa (f:=Event.Index) (t rfl)))) rfl rfl rfl (fun hb=>(ld (tg rfl hb)))) rfl rfl rfl (fun hb=>(mvq (t rfl)))) rfl rfl rfl (fun hb=>(nkq (tg rfl hb)))) rfl rfl rfl (fun hb=>(fm_ (off:=0) (m:=4) (q:=0) (tg rfl hb) (by kernel_rfl) rfl))) rfl rfl rfl (fun hb=>(fm_ (off:=4) (m:=0) (q:=4) (tg rfl hb) (by kernel_rfl) rfl))) rfl rfl rfl (fun hb=>(lrc (K:=1000) (List Int) (tg rfl hb) rfl rfl rfl rfl))) rfl rfl rfl (fun hb=>(lnq (α:=Int) (k:=1005) (tg rfl hb) rfl))) rfl rfl rfl (fun hb=>(ge (tg rfl hb) (tg rfl hb)))) rfl (poP (t rfl) rfl)) rfl (mv (t rfl))) rfl rfl rfl (fun hb=>(mvq (t rfl)))) rfl rfl rfl (fun hb=>(nkq (tg rfl hb)))) rfl rfl rfl (fun hb=>(fm_ (off:=0) (m:=4) (q:=0) (tg rfl hb) (by kernel_rfl) rfl))) rfl rfl rfl (fun hb=>(fm_ (off:=4) (m:=0) (q:=4) (tg rfl hb) (by kernel_rfl) rfl))) rfl rfl rfl (fun hb=>(lrc (K:=1000) (List Int) (tg rfl hb) rfl rfl rfl rfl))) rfl rfl rfl (fun hb=>(fa (f:=Event.Index) (t rfl)))) rfl rfl rfl (fun hb=>(ld (tg rfl hb)))) rfl rfl rfl (fun hb=>(ixq (α:=Int) (k:=1005) (tg rfl hb) rfl (tg rfl hb) (hx1 hb)))) rfl rfl rfl (fun hb=>(lq (k:=1005) (tg rfl hb) rfl (idxg (hx1 hb))))) rfl rfl rfl (fun hb=>(ne (tg rfl hb) ci))) rfl (po (t rfl) rfl (fun h=>si (gr2 h)) (fun h=>(si (er2 h)).symm))) (by kernel_rfl) rfl rfl fun a w s=>nl ?_)
 refine cm s rfl hm (fun hb hm=>?_) (fun hb hm=>?_)
 ·refine se (rg (sq s (sa cb) rfl fun a w s=>nl ?_))
  obtain rfl:=si hm
  refine wpIn_ret ?_
  exact rz [1000,1001,1002,1003,1004,1005] () hM hD s rfl (rv1 (rt rfl)) (kc rfl (kc rfl (kc rfl (kc rfl (kc rfl (kc rfl kn)))))) rfl
 ·refine wpIn_skip ?_
  obtain ⟨x3,hx3,hm⟩:=bs hm
  obtain ⟨x4,hx4,hm⟩:=bs hm
  refine se (flow2 [(3,Pt (v0))] [0,1,2,3,4,5,6,7,8,9,10,11,14] [31,32,33,34,35,36,37,38,39,40,41,42,45] [] [43] [44,43] [(15,[]),(16,[44,43]),(17,[])] s (.skip (.skip (.skip (.cons (.late (.late (.cons (.cons (.cons (.cons (.cons (.cons (.cons (.cons (.cons (.cons (.cons (.cons .nil rfl rfl (mvq (t rfl))) rfl rfl (nkq (t rfl))) rfl rfl (fm_ (off:=0) (m:=4) (q:=0) (t rfl) (by kernel_rfl) rfl)) rfl rfl (fm_ (off:=4) (m:=0) (q:=4) (t rfl) (by kernel_rfl) rfl)) rfl rfl (lrc (K:=1000) (List Int) (t rfl) rfl rfl rfl rfl)) rfl rfl (fa (f:=Event.Index) (t rfl))) rfl rfl (ld (t rfl))) rfl rfl (mvq (t rfl))) rfl rfl (nkq (t rfl))) rfl rfl (fm_ (off:=0) (m:=4) (q:=0) (t rfl) (by kernel_rfl) rfl)) rfl rfl (fm_ (off:=3) (m:=0) (q:=3) (t rfl) (by kernel_rfl) rfl)) rfl rfl (lrc (K:=1000) (List Bool) (t rfl) rfl rfl rfl rfl)) rfl rfl (fa (f:=Event.Index) (t rfl))) rfl rfl (ld (t rfl))) rfl rfl (ixq (α:=Int) (k:=1005) (t rfl) rfl (t rfl) hx3)) rfl) rfl) rfl) (by kernel_rfl) (by kernel_rfl) rfl rfl (sb1 rfl sb0) rfl (by decide) rfl rfl ?_)
  refine ⟨⟨fun _=>rfl,rfl,.inr ⟨(sb1 rfl sb0),sb0,(sn2 rfl sn0)⟩⟩,by kernel_rfl,_,rfl,fun Ψ a w s=>stq (k:=1005) s (t rfl) rfl (idxg hx3) ci fun w s=>nl ?_⟩
  refine nxt Ψ s ?_
  refine ⟨⟨fun _=>rfl,rfl,.inr ⟨(sb1 rfl sb0),sb0,(sn2 rfl sn0)⟩⟩,by kernel_rfl,_,rfl,fun Ψ a w s=>sq s (ixq (α:=Bool) (k:=1004) (t rfl) rfl (t rfl) hx4) rfl fun a w s=>nl ?_⟩
  refine nxt Ψ s ?_
  refine ⟨⟨fun _=>rfl,rfl,.inl rfl⟩,by kernel_rfl,_,rfl,fun Ψ a w s=>stq (k:=1004) s (t rfl) rfl (idxg hx4) cb fun w s=>nl ?_⟩
  refine nxt Ψ s ?_
  refine ⟨⟨fun _=>rfl,rfl,.inl rfl⟩,fun a w s=>?_⟩
  replace s:St M w_0 47 [(0,Qv (pb n0 0)),(1,Va (v0)),(3,Pt (v0)),(4,Va (false)),(1000,Mr n0 [n1,n2,n3,n4,n5]),(1001,Ow 3 n1 (v1)),(1002,Ow 4 n2 (v2)),(1003,Ow 4 n3 (v3)),(1004,Ow 4 n4 ((v4.set ((v0).Index).toNat true))),(1005,Ow 3 n5 ((v5.set ((v0).Index).toNat (2:Int))))] a w:=s.pick [0,1,3,4,1000,1001,1002,1003,1004,1005]
  refine se (rg (sq s (sa cb) rfl fun a w s=>nl ?_))
  obtain rfl:=si hm
  refine wpIn_ret ?_
  exact rz [1000,1001,1002,1003,1004,1005] () hM hD s rfl (rv1 (rt rfl)) (kc rfl (kc rfl (kc rfl (kc rfl (kc rfl (kc rfl kn)))))) rfl
def m191 (f:Nat) (v0:Event) (v1:List Int) (v2:List Bool) (v3:List Bool) (v4:List Bool) (v5:List Int):Option (Bool×(List Int)×(List Bool)×(List Bool)×(List Bool)×(List Int)):=(bif ((decide ((v0).Index < (0:Int))) || (decide ((v0).Index≥(v3.length:Int)))) then some true else (idx v3 ((v0).Index)).bind fun x1=>some (x1 == (v0).Value)).bind fun r2=>(bif r2 then some (false,v1,v2,v3,v4,v5) else (idx v3 ((v0).Index)).bind fun x3=>some (true,v1,v2,(v3.set ((v0).Index).toNat ((v0).Value)),v4,v5))
set_option maxRecDepth 100000 in
theorem s191 (f:Nat) (n0:Nat) (n1:Value) (n2:Value) (n3:Value) (n4:Value) (n5:Value) (v0:Event) (v1:List Int) (v2:List Bool) (v3:List Bool) (v4:List Bool) (v5:List Int) (r:Bool×(List Int)×(List Bool)×(List Bool)×(List Bool)×(List Int)) (hm:m191 f v0 v1 v2 v3 v4 v5=some r):Cg Tryz.prog 191 [Qv (pb n0 0),Va (v0)] [Mr n0 [n1,n2,n3,n4,n5],Ow 3 n1 (v1),Ow 4 n2 (v2),Ow 4 n3 (v3),Ow 4 n4 (v4),Ow 3 n5 (v5)] (Rz (fun x:Unit=>Va (r.1)) (fun x=>[Mr n0 [n1,n2,n3,n4,n5],Ow 3 n1 (r.2.1),Ow 4 n2 (r.2.2.1),Ow 4 n3 (r.2.2.2.1),Ow 4 n4 (r.2.2.2.2.1),Ow 3 n5 (r.2.2.2.2.2)])):=by
 unfold m191 at hm
 refine eng Tryz.func191 (by kernel_rfl) rfl Tryz.ntmps191 rfl rfl fun M w_0 a hM hD s=>?_
 refine se (rg (sq s (bx (t rfl)) rfl fun a w s=>sq s (sa cb) rfl fun a w s=>nl ?_))
 refine se ?_
 obtain ⟨r2,hr2,hm⟩:=bs hm
 have gr2:=gF hr2
 have er2:=gT hr2
 obtain ⟨x1,hx1,gr2⟩:=gx gr2
 refine se (flow s (m:=28) (.cons (.cong (.cong (.cong (.cong (.cong (.cong (.cong (.cong (.cong (.cong (.cong (.cong (.cons (.cons (.cong (.cong (.cong (.cong (.cong (.cong (.cong (.cong (.cong (.cons (.cons (.cons (.cons .nil rfl (fa (f:=Event.Index) (t rfl))) rfl (ld (t rfl))) rfl (lt (t rfl) ci)) rfl (mv (t rfl))) rfl rfl rfl (fun hb=>(fa (f:=Event.Index) (t rfl)))) rfl rfl rfl (fun hb=>(ld (tg rfl hb)))) rfl rfl rfl (fun hb=>(mvq (t rfl)))) rfl rfl rfl (fun hb=>(nkq (tg rfl hb)))) rfl rfl rfl (fun hb=>(fm_ (off:=0) (m:=4) (q:=0) (tg rfl hb) (by kernel_rfl) rfl))) rfl rfl rfl (fun hb=>(fm_ (off:=2) (m:=0) (q:=2) (tg rfl hb) (by kernel_rfl) rfl))) rfl rfl rfl (fun hb=>(lrc (K:=1000) (List Bool) (tg rfl hb) rfl rfl rfl rfl))) rfl rfl rfl (fun hb=>(lnq (α:=Bool) (k:=1003) (tg rfl hb) rfl))) rfl rfl rfl (fun hb=>(ge (tg rfl hb) (tg rfl hb)))) rfl (poP (t rfl) rfl)) rfl (mv (t rfl))) rfl rfl rfl (fun hb=>(mvq (t rfl)))) rfl rfl rfl (fun hb=>(nkq (tg rfl hb)))) rfl rfl rfl (fun hb=>(fm_ (off:=0) (m:=4) (q:=0) (tg rfl hb) (by kernel_rfl) rfl))) rfl rfl rfl (fun hb=>(fm_ (off:=2) (m:=0) (q:=2) (tg rfl hb) (by kernel_rfl) rfl))) rfl rfl rfl (fun hb=>(lrc (K:=1000) (List Bool) (tg rfl hb) rfl rfl rfl rfl))) rfl rfl rfl (fun hb=>(fa (f:=Event.Index) (t rfl)))) rfl rfl rfl (fun hb=>(ld (tg rfl hb)))) rfl rfl rfl (fun hb=>(ixq (α:=Bool) (k:=1003) (tg rfl hb) rfl (tg rfl hb) (hx1 hb)))) rfl rfl rfl (fun hb=>(lq (k:=1003) (tg rfl hb) rfl (idxg (hx1 hb))))) rfl rfl rfl (fun hb=>(fa (f:=Event.Value) (t rfl)))) rfl rfl rfl (fun hb=>(ld (tg rfl hb)))) rfl rfl rfl (fun hb=>(beq (tg rfl hb) (tg rfl hb) Tryz.underlying4))) rfl (po (t rfl) rfl (fun h=>si (gr2 h)) (fun h=>(si (er2 h)).symm))) (by kernel_rfl) rfl rfl fun a w s=>nl ?_)
 refine cm s rfl hm (fun hb hm=>?_) (fun hb hm=>?_)
 ·refine se (rg (sq s (sa cb) rfl fun a w s=>nl ?_))
  obtain rfl:=si hm
  refine wpIn_ret ?_
  exact rz [1000,1001,1002,1003,1004,1005] () hM hD s rfl (rv1 (rt rfl)) (kc rfl (kc rfl (kc rfl (kc rfl (kc rfl (kc rfl kn)))))) rfl
 ·refine wpIn_skip ?_
  obtain ⟨x3,hx3,hm⟩:=bs hm
  refine se (flow s (m:=10) (.cons (.cons (.cons (.cons (.cons (.cons (.cons (.cons (.cons (.cons .nil rfl (mvq (t rfl))) rfl (nkq (t rfl))) rfl (fm_ (off:=0) (m:=4) (q:=0) (t rfl) (by kernel_rfl) rfl)) rfl (fm_ (off:=2) (m:=0) (q:=2) (t rfl) (by kernel_rfl) rfl)) rfl (lrc (K:=1000) (List Bool) (t rfl) rfl rfl rfl rfl)) rfl (fa (f:=Event.Index) (t rfl))) rfl (ld (t rfl))) rfl (fa (f:=Event.Value) (t rfl))) rfl (ld (t rfl))) rfl (ixq (α:=Bool) (k:=1003) (t rfl) rfl (t rfl) hx3)) (by kernel_rfl) rfl rfl fun a w s=>stq (k:=1003) s (t rfl) rfl (idxg hx3) (t rfl) fun w s=>nl ?_)
  refine se (rg (sq s (sa cb) rfl fun a w s=>nl ?_))
  obtain rfl:=si hm
  refine wpIn_ret ?_
  exact rz [1000,1001,1002,1003,1004,1005] () hM hD s rfl (rv1 (rt rfl)) (kc rfl (kc rfl (kc rfl (kc rfl (kc rfl (kc rfl kn)))))) rfl
def m134_1_l1 (f:Nat) (v0:Control):Nat→(Int×State×(List Int))→Option (Lo (Int×State×(List Int)) (State×(List Int)×Int))
 | 0,_=>none
 | n+1,z4=>(bif (decide (z4.1 < (65:Int))) then (m204 f v0 z4.2.1).bind fun x7=>(bif (x7.2.1 != (0:Int)) then some (.ret ((⟨([]:List Int),([]:List Bool),([]:List Bool),([]:List Bool),([]:List Int)⟩:State),([]:List Int),x7.2.1)) else (m137 f z4.2.2 x7.2.2).bind fun x10=>(m120 f x7.1 z4.2.1).bind fun x12=>(bif x12 then some (.ret (x7.1,x10,(0:Int))) else m134_1_l1 f v0 n ((wr (z4.1 + (1:Int))),x7.1,x10))) else some (.brk (z4.1,z4.2.1,z4.2.2)))
def m134_1 (f:Nat) (v0:Control) (v1:State):Option (State×(List Int)×Int):=(m203 f v0 v1).bind fun x3=>(bif (x3 != (0:Int)) then some ((⟨([]:List Int),([]:List Bool),([]:List Bool),([]:List Bool),([]:List Int)⟩:State),([]:List Int),x3) else ((m134_1_l1 f v0 f ((0:Int),v1,([]:List Int))).bind fun o5=>match o5 with | .brk o5s=>some ((⟨([]:List Int),([]:List Bool),([]:List Bool),([]:List Bool),([]:List Int)⟩:State),([]:List Int),(21:Int)) | .ret r=>some r))
end Go.Pn

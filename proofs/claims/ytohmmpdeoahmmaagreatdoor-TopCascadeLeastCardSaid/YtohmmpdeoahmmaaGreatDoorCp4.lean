import Derived.Test.YtohmmpdeoahmmaaGreatDoorCp3
set_option synthInstance.checkSynthOrder false
set_option synthInstance.maxSize 10000
set_option synthInstance.maxHeartbeats 400000
set_option maxRecDepth 100000
set_option maxHeartbeats 4000000
set_option linter.unusedVariables false
set_option linter.unusedSimpArgs false
set_option linter.defProp false
namespace Go.Pn
open Go Go.RowKit Go.Proofs Go.Proofs.Tryz
theorem s179 (f:Nat) (v0:Aa) (v1:Ad) (r:Ad×Int×(List Int)) (hm:m179 f v0 v1=some r):Sp Tryz.prog 179 [Va v0,Va v1] (Rz (λx:Value=>T3 (Va r.1) (Qv x) (Va r.2.1)) (λx=>[Ow 3 x r.2.2])):=by
 unfold m179 at hm;refine ens func179 kr_ I ntmps179 I I λM W a hM hD s=>?_;refine se (rg (ru 2 s λa w s=>aR 1000 s λb1 a w s=>ru 2 s λa w s=>nl ?_));obtain ⟨x2,hx2,hm⟩:=bk hm;refine se (rg (ru 2 s λa w s=>sqz [1001] hM s (cc I (oc (t I) (oc (t I) on)) (s245 f _ _ _ hx2.e)) (λ_=>I) I I λy3 a w s=>ru 4 s λa w s=>aR 1002 s λb4 a w s=>sW s I λw s=>ru 2 s λa w s=>nl ?_));refine se (R 2 s λa w s=>?_);refine cmf s hm (λhb hm=>?_) λhb hm=>?_
 ·refine se (rg (sq s (bla (L:=[(0,1),(1,1),(2,1),(3,1),(4,1)]) (z:=[nz,nz,nz,nz,nz]) (res:=[nz,nz,nz,nz,nz]) I kr_ kr_ pdn I I) I λa w s=>ru 1 s λa w s=>sra (K:=1000) (m:=[nz,nz,nz,nz,nz]) (cs':=[nz,nz,nz,nz,nz]) s (t I) I (t I) kr_ I I I λw s=>ru 2 s λa w s=>nl ?_));obtain rfl:=si hm;refine Km (k:=1000) (x:=(⟨([]:List Int),([]:List Bool),([]:List Bool),([]:List Bool),([]:List Int)⟩:Ad)) s I (Bs (l:=([nz],[nz],[nz],[nz],[nz])) (rpn (α:=Int)) (rpn (α:=Bool)) (rpn (α:=Bool)) (rpn (α:=Bool)) (rpn (α:=Int))) λs=>?_;refine Gc (α:=Int) (d:=5) 1003 3 s I I λc5 s=>?_;refine wpIn_ret ?_;exact rz [1003] c5 hM hD s I (rv3 (rc (K:=1000) I I) (rt I) (rt I)) (kc I kn) I
 ·obtain ⟨x6,hx6,hm⟩:=bk hm;refine se (rg (ru 1 s λa w s=>sqz [1004,1005,1006,1007,1008] hM s (cc I (oc (t I) on) (s183 f _ _ hx6.e)) (λ_=>I) I I λy7 a w s=>aR 1009 s λb8 a w s=>sra (K:=1009) (m:=[y7.1,y7.2.1,y7.2.2.1,y7.2.2.2.1,y7.2.2.2.2]) (cs':=[y7.1,y7.2.1,y7.2.2.1,y7.2.2.2.1,y7.2.2.2.2]) s (t I) I (t I) kr_ I I I λw s=>nl ?_));refine R 12 s λa w s=>?_;refine se (R 3 s λa w s=>?_);refine lA1 hm [0,1,2,3,4,5,6,7,9,10,11,42,1000,1002,1009,1006,1007,1008] s (λz9 z9c0=>[(8,Qv z9c0),(43,Va z9.1),(1001,Ow 3 z9c0 z9.2.1),(1004,Ow 3 y7.1 z9.2.2.1),(1005,Ow 4 y7.2.1 z9.2.2.2)]) ⟨y3,s.fi⟩ (λ_=>I) (λo10s hko10 n z9 a w hm s=>?_) λo10s hm a w s=>?_
  ·obtain ⟨z9c0,s⟩:=s;unfold Mc at hm;refine R 1 s λa w s=>?_;refine se (cmt s hm (λhb hm=>?_) λhb hm=>?_)
   ·refine se (wpIn_block ?_);refine R 2 s λa w s=>?_;obtain ⟨x11,hx11,hm⟩:=bk hm;obtain ⟨x12,hx12,hm⟩:=bk hm;obtain ⟨x13,hx13,hm⟩:=bk hm;obtain ⟨x14,hx14,hm⟩:=bk hm;refine se (fW 16 s kr_ I I λa w s=>ru 2 s λa w s=>nl ?_);refine se (wpIn_block ?_);refine R 5 s λa w s=>?_;obtain ⟨z15,hz15,hkz15⟩:=bs hm;refine cP1 [0,1,2,3,4,5,6,7,9,10,11,12,13,14,42,43,1000,1002,1009,1004,1006,1007,1008] s (λz15c0=>[(8,Qv z15c0),(1001,Ow 3 z15c0 z15.1),(1005,Ow 4 y7.2.1 z15.2)]) ?_ λa w s=>?_
    ·refine cm s I hz15 (λhb hm=>?_) (λhb hm=>?_)
     ·obtain ⟨x16,hx16,hm⟩:=bk hm;refine rg (ru 5 s λa w s=>apd (α:=Int) (k:=1001) s (t I) I (t I) hx16.e I I λc17 a w s=>ru 1 s λa w s=>nl ?_);obtain rfl:=si hm;exact ⟨c17,s.fi⟩
     ·refine R 5 s λa w s=>?_;obtain ⟨z18,hz18,hkz18⟩:=bs hm;refine cP [0,1,2,3,4,5,6,7,8,9,10,11,12,13,14,42,43,1000,1002,1001,1009,1004,1006,1007,1008] s [(1005,Ow 4 y7.2.1 z18)] ?_ λa w s=>?_
      ·refine cm s I hz18 (λhb hm=>?_) (λhb hm=>?_)
       ·obtain ⟨x19,hx19,hm⟩:=bk hm;refine rg (ru 5 s λa w s=>stq (k:=1005) s (t I) I (Dz hx19.e) (t I) λw s=>nl ?_);obtain rfl:=si hm;exact s.fi
       ·refine wpIn_skip ?_;obtain rfl:=si hm;exact s.fi
      ·replace hm:=hkz18;obtain rfl:=si hm;exact ⟨z9c0,s.fi⟩
    ·obtain ⟨z15c0,s⟩:=s;replace hm:=hkz15;obtain ⟨x20,hx20,hm⟩:=bk hm;refine se (rg (ru 5 s λa w s=>sq s (bly (e:=3) (len:=2) (z:=[(.int .i64 0),(.int .i64 0)]) (cs:=[(.int .i64 0),(.int .i64 (3:Int))]) I (cd1 (iq ci) (ocr I) (cd1 (iq ci) (ocr I) cd0)) kr_ kr_ kr_ I) I λa w s=>aR 1011 s λb21 a w s=>ru 1 s λa w s=>sra (K:=1011) (m:=[(.int .i64 0),(.int .i64 (3:Int))]) (cs':=[(.int .i64 0),(.int .i64 (3:Int))]) s (t I) I (t I) kr_ I I I λw s=>nl ?_));refine se ?_;obtain ⟨x22,hx22,hm⟩:=bk hm;refine R 5 s λa w s=>?_;obtain ⟨z23,hz23,hkz23⟩:=bs hm;refine cP [0,1,2,3,4,5,6,7,8,9,10,11,12,13,14,15,16,42,43,1000,1002,1001,1009,1004,1005,1006,1007,1008] s [(1011,Mr b21 [(.int .i64 z23.1),(.int .i64 z23.2)])] ?_ λa w s=>?_
     ·refine cm s I hz23 (λhb hm=>?_) (λhb hm=>?_)
      ·refine rg (sq s (bly (e:=3) (len:=2) (z:=[(.int .i64 0),(.int .i64 0)]) (cs:=[(.int .i64 (2:Int)),(.int .i64 (1:Int))]) I (cd1 (iq ci) (ocr I) (cd1 (iq ci) (ocr I) cd0)) kr_ kr_ kr_ I) I λa w s=>sra (K:=1011) (m:=[(.int .i64 (2:Int)),(.int .i64 (1:Int))]) (cs':=[(.int .i64 (2:Int)),(.int .i64 (1:Int))]) s (t I) I (t I) kr_ I I I λw s=>nl ?_);obtain rfl:=si hm;exact s.fi
      ·refine wpIn_skip ?_;obtain rfl:=si hm;exact s.fi
     ·replace hm:=hkz23;refine se (rg (ru 1 s λa w s=>sq s (iax (e:=3) (len:=2) (j:=0) (t I) ci kr_ kr_ kr_) I λa w s=>ru 1 s λa w s=>sq s (ne (t I) (qi (t I))) I λa w s=>ru 2 s λa w s=>sg s I I (λhb=>(iax (e:=3) (len:=2) (j:=1) (t I) ci kr_ kr_ kr_)) I λa w s=>ru 1 s λa w s=>sg s I I (λhb=>(ne (tg I hb) (qi (tg I hb)))) I λa w s=>ru 1 s λa w s=>nl ?_));obtain ⟨z24,hz24,hkz24⟩:=bs hm;refine cP [0,1,2,3,4,5,6,7,8,9,10,11,12,13,14,15,16,42,43,1000,1002,1001,1009,1005,1006,1007,1008,1011] s [(1004,Ow 3 y7.1 z24)] ?_ λa w s=>?_
      ·refine cm s I hz24 (λhb hm=>?_) (λhb hm=>?_)
       ·obtain ⟨x25,hx25,hm⟩:=bk hm;refine rg (ru 3 s λa w s=>sq s (iax (e:=3) (len:=2) (j:=1) (t I) ci kr_ kr_ kr_) I λa w s=>ru 2 s λa w s=>stq (k:=1004) s (t I) I (Dz hx25.e) (qi (t I)) λw s=>nl ?_);obtain rfl:=si hm;exact s.fi
       ·refine wpIn_skip ?_;obtain rfl:=si hm;exact s.fi
      ·replace hm:=hkz24;refine R0 2 s λa w s=>?_;exact ⟨_,hm,⟨z15c0,s.fi⟩⟩
   ·refine wpIn_exit ?_;obtain rfl:=si hm;exact ⟨z9c0,s.fi⟩
  ·obtain ⟨o10sc0,s⟩:=s;refine se (rg (sq s (lra (K:=1009) (ds:=[y7.1,y7.2.1,y7.2.2.1,y7.2.2.2.1,y7.2.2.2.2]) Ad (t I) I I I I) I λa w s=>ru 1 s λa w s=>sra (K:=1000) (m:=[y7.1,y7.2.1,y7.2.2.1,y7.2.2.2.1,y7.2.2.2.2]) (cs':=[y7.1,y7.2.1,y7.2.2.1,y7.2.2.2.1,y7.2.2.2.2]) s (t I) I (t I) kr_ I I I λw s=>ru 2 s λa w s=>nl ?_));obtain rfl:=si hm;refine fzk (α:=Int) (k:=1004) hM s I λs=>?_;refine fzk (α:=Bool) (k:=1005) hM s I λs=>?_;refine fzk (α:=Bool) (k:=1006) hM s I λs=>?_;refine fzk (α:=Bool) (k:=1007) hM s I λs=>?_;refine fzk (α:=Int) (k:=1008) hM s I λs=>?_;refine Km (k:=1000) (x:=(⟨o10s.2.2.1,o10s.2.2.2,x6.2.2.1,x6.2.2.2.1,x6.2.2.2.2⟩:Ad)) s I (Bs (l:=([y7.1],[y7.2.1],[y7.2.2.1],[y7.2.2.2.1],[y7.2.2.2.2])) (rpz (k:=1004) I) (rpz (k:=1005) I) (rpz (k:=1006) I) (rpz (k:=1007) I) (rpz (k:=1008) I)) λs=>?_;refine wpIn_ret ?_;exact rz [1001] o10sc0 hM hD s I (rv3 (rc (K:=1000) I I) (rt I) (rt I)) (kc I kn) I
def m180 (f:Nat) (v0:List Int) (v1:List Int):Option ((List Int)):=(m190 f ([v0,v1]:List (List Int))).bind λx1=>(m148 f x1).bind λx3=>(m74 f x3).bind λx5=>some x5
theorem s180 (f:Nat) (v0:List Int) (v1:List Int) (r:(List Int)) (hm:m180 f v0 v1=some r):Sp Tryz.prog 180 [Va v0,Va v1] (Rz (λx:Value=>Qv x) (λx=>[Ow 3 x r])):=by
 unfold m180 at hm;refine ens func180 kr_ I ntmps180 I I λM W a hM hD s=>?_;refine R 1 s λa w s=>?_;obtain ⟨x1,hx1,hm⟩:=bk hm;refine se (rg (ru 3 s λa w s=>sqz [1000] hM s (cc I (oc (t I) on) (s190 f _ _ hx1.e)) (λ_=>I) I I λy2 a w s=>ru 1 s λa w s=>nl ?_));obtain ⟨x3,hx3,hm⟩:=bk hm;refine se (rg (ru 1 s λa w s=>cgv [1000] [1000] hM s qf I (oc (t I) on) vn vn (s148 f y2 _ _ hx3.e) (kc I kn) I (λ_=>I) I I I λy4 a w s=>nl ?_));obtain ⟨x5,hx5,hm⟩:=bk hm;refine se (rg (ru 1 s λa w s=>cgv [1000] [1000] hM s qf I (oc (t I) on) vn vn (s74 f y2 _ _ hx5.e) (kc I kn) I (λ_=>I) I I I λy6 a w s=>ru 1 s λa w s=>nl ?_));obtain rfl:=si hm;refine wpIn_ret ?_;exact rz [1000] y6 hM hD s I (rv1 (rt I)) (kc I kn) I
def Hs (f:Nat) (v0:Aa):Nat->(Int×Ad×(List Int))->Option (Lo (Int×Ad×(List Int)) (Ad×Int×(List Int)))
 | 0,_=>none
 | n+1,z5=>(bif (decide (z5.1 < 65)) then (m179 f v0 z5.2.1).bind λx8=>(bif (x8.2.1 != 0) then some (.ret ((⟨([]:List Int),([]:List Bool),([]:List Bool),([]:List Bool),([]:List Int)⟩:Ad),x8.2.1,([]:List Int))) else (m180 f z5.2.2 x8.2.2).bind λx12=>(m181 f x8.1 z5.2.1).bind λx14=>(bif x14 then some (.ret (x8.1,(0:Int),x12)) else Hs f v0 n ((wr (z5.1 + 1)),x8.1,x12))) else some (.brk (z5.1,z5.2.1,z5.2.2)))
def m106 (f:Nat) (v0:Aa) (v1:Ad):Option (Ad×Int×(List Int)):=(m96 f v0 v1).bind λx3=>(bif (x3 != 0) then some ((⟨([]:List Int),([]:List Bool),([]:List Bool),([]:List Bool),([]:List Int)⟩:Ad),x3,([]:List Int)) else ((Hs f v0 f ((0:Int),v1,([]:List Int))).bind λo6=>match o6 with | .brk o6s=>some ((⟨([]:List Int),([]:List Bool),([]:List Bool),([]:List Bool),([]:List Int)⟩:Ad),(21:Int),([]:List Int)) | .ret r=>some r))
theorem s106 (f:Nat) (v0:Aa) (v1:Ad) (r:Ad×Int×(List Int)) (hm:m106 f v0 v1=some r):Sp Tryz.prog 106 [Va v0,Va v1] (Rz (λx:Value=>T3 (Va r.1) (Qv x) (Va r.2.1)) (λx=>[Ow 3 x r.2.2])):=by
 unfold m106 at hm;refine ens func106 kr_ I ntmps106 I I λM W a hM hD s=>?_;refine se (rg (sq s (bx (t I)) I λa w s=>sqb 1000 s (bxm (t I)) I I λb1 a w s=>sqr 1001 s (alr (cs:=[nz,nz,nz,nz,nz]) (z:=.agg #[nz,nz,nz,nz,nz]) kr_ I I) I I λb2 a w s=>sq s (saq cq) I λa w s=>sq s (sa ci) I λa w s=>nl ?_));refine se ?_;obtain ⟨x3,hx3,hm⟩:=bs hm;refine se (rg (sq s (ld (t I)) I λa w s=>sq s (lm (K:=1000) (t I) I) I λa w s=>sq s (cc I (oc (t I) (oc (t I) on)) (s96 f _ _ _ hx3)) I λa w s=>sq s (sa (t I)) I λa w s=>nl ?_));refine se (rg (sq s (mv (t I)) I λa w s=>sq s (ne (t I) ci) I λa w s=>nl ?_));refine cm s I hm (λhb hm=>?_) (λhb hm=>?_)
 ·refine se (rg (sq s (bla (L:=[(0,1),(1,1),(2,1),(3,1),(4,1)]) (z:=[nz,nz,nz,nz,nz]) (res:=[nz,nz,nz,nz,nz]) I kr_ kr_ pdn I I) I λa w s=>sq s (mv (t I)) I λa w s=>sra (K:=1001) (m:=[nz,nz,nz,nz,nz]) (cs':=[nz,nz,nz,nz,nz]) s (t I) I (t I) kr_ I I I λw s=>sq s (saq cq) I λa w s=>sq s (sa (t I)) I λa w s=>nl ?_));obtain rfl:=si hm;refine Km (k:=1001) (x:=(⟨([]:List Int),([]:List Bool),([]:List Bool),([]:List Bool),([]:List Int)⟩:Ad)) s I (Bs (l:=([nz],[nz],[nz],[nz],[nz])) (rpn (α:=Int)) (rpn (α:=Bool)) (rpn (α:=Bool)) (rpn (α:=Bool)) (rpn (α:=Int))) λs=>?_;refine Gc (α:=Int) (d:=5) 1002 3 s I I λc4 s=>?_;refine wpIn_ret ?_;exact rz [1002] c4 hM hD s I (rv3 (rc (K:=1001) I I) (rt I) (rt I)) (kc I kn) I
 ·refine wpIn_skip (se (rg (sq s (saq cq) I λa w s=>nl ?_)));refine se (se (rg (sq s (mv ci) I λa w s=>nl ?_)));refine Gc (α:=Int) (d:=8) 1003 3 s I I λc7 s=>?_;obtain ⟨o6,hoo6,hko6⟩:=bs hm;refine lcI o6 (λo6s a w=>∃ (o6sc0:Value),St M W 43 [(0,Va v0),(1,Va v1),(2,Pt v0),(3,Qv (pb b1 0)),(4,Qv (pb b2 0)),(5,Qv nz),(6,Va ((0:Int))),(7,Va x3),(8,Qv o6sc0),(19,Va o6s.1),(1000,Mg b1 o6s.2.1),(1001,Mr b2 [nz,nz,nz,nz,nz]),(1003,Ow 3 o6sc0 o6s.2.2)] a w) ?_ λo6s a w ho s=>?_
  ·refine wpIn_block (loI (λn z5=>Hs f v0 n z5) o6 (λz5 a w=>∃ (z5c0:Value),St M W 43 [(0,Va v0),(1,Va v1),(2,Pt v0),(3,Qv (pb b1 0)),(4,Qv (pb b2 0)),(5,Qv nz),(6,Va ((0:Int))),(7,Va x3),(8,Qv z5c0),(19,Va z5.1),(1000,Mg b1 z5.2.1),(1001,Mr b2 [nz,nz,nz,nz,nz]),(1003,Ow 3 z5c0 z5.2.2)] a w) f ((0:Int),v1,([]:List Int)) ⟨c7,s.pick [0,1,2,3,4,5,6,7,8,19,1000,1001,1003]⟩ hoo6 (λ_=>I) λn z5 a w hm s=>?_);obtain ⟨z5c0,s⟩:=s;replace hm:Hs f v0 (n + 1) z5=some o6:=hm;unfold Hs at hm;refine se (rg (sq s (lt (t I) ci) I λa w s=>nl ?_));refine se (cm s I hm (λhb hm=>?_) (λhb hm=>?_))
   ·refine wpIn_skip (se ?_);refine wpIn_block ?_;obtain ⟨x8,hx8,hm⟩:=bs hm;refine se (rg (sq s (ld (t I)) I λa w s=>sq s (lm (K:=1000) (t I) I) I λa w s=>sqz [1004] hM s (cc I (oc (t I) (oc (t I) on)) (s179 f _ _ _ hx8)) (λ_=>I) I I λy9 a w s=>sq s (mve (t I)) I λa w s=>sq s (Pn.x30 (t I)) I λa w s=>sq s (Pn.x31 (t I)) I λa w s=>sq s (Pn.x32 (t I)) I λa w s=>sqr 1005 s (alr (cs:=[nz,nz,nz,nz,nz]) (z:=.agg #[nz,nz,nz,nz,nz]) kr_ I I) I I λb10 a w s=>swd (K:=1005) s (t I) I (t I) I λw s=>sq s (saq (t I)) I λa w s=>sq s (sa (t I)) I λa w s=>nl ?_));refine se (se (rg (sq s (mv (t I)) I λa w s=>sq s (ne (t I) ci) I λa w s=>nl ?_)));refine cm s I hm (λhb hm=>?_) (λhb hm=>?_)
    ·refine se (rg (sq s (bla (L:=[(0,1),(1,1),(2,1),(3,1),(4,1)]) (z:=[nz,nz,nz,nz,nz]) (res:=[nz,nz,nz,nz,nz]) I kr_ kr_ pdn I I) I λa w s=>sq s (mv (t I)) I λa w s=>sra (K:=1001) (m:=[nz,nz,nz,nz,nz]) (cs':=[nz,nz,nz,nz,nz]) s (t I) I (t I) kr_ I I I λw s=>sq s (saq cq) I λa w s=>sq s (sa (t I)) I λa w s=>nl ?_));obtain rfl:=si hm;replace hm:=hko6;dsimp only at hm;obtain rfl:=si hm;refine Km (k:=1001) (x:=(⟨([]:List Int),([]:List Bool),([]:List Bool),([]:List Bool),([]:List Int)⟩:Ad)) s I (Bs (l:=([nz],[nz],[nz],[nz],[nz])) (rpn (α:=Int)) (rpn (α:=Bool)) (rpn (α:=Bool)) (rpn (α:=Bool)) (rpn (α:=Int))) λs=>?_;refine Gc (α:=Int) (d:=5) 1006 3 s I I λc11 s=>?_;refine wpIn_ret ?_;exact rz [1006] c11 hM hD s I (rv3 (rc (K:=1001) I I) (rt I) (rt I)) (kc I kn) I
    ·refine wpIn_skip ?_;obtain ⟨x12,hx12,hm⟩:=bs hm;refine se (rg (sq s (mvq (t I)) I λa w s=>sq s (mvq (t I)) I λa w s=>sqz [1007] hM s (tfg (k:=1004) (flz (λ_=>flq) (λ_=>(flc flo fln))) I (tfg (k:=1003) (flz (λ_=>flq) (λ_=>(flc flo fln))) I (cc I (oc (ta (k:=1003) (t I) I) (oc (ta (k:=1004) (t I) I) on)) (s180 f _ _ _ hx12)))) (λ_=>I) I I λy13 a w s=>sq s (saq (t I)) I λa w s=>nl ?_));refine se ?_;obtain ⟨x14,hx14,hm⟩:=bs hm;refine se (rg (sq s (lm (K:=1005) (t I) I) I λa w s=>sq s (lm (K:=1000) (t I) I) I λa w s=>sq s (cc I (oc (t I) (oc (t I) on)) (s181 f _ _ _ hx14)) I λa w s=>nl ?_));refine cm s I hm (λhb hm=>?_) (λhb hm=>?_)
     ·refine se (rg (sq s (lm (K:=1005) (t I) I) I λa w s=>sq s (mvq (t I)) I λa w s=>swd (K:=1001) s (t I) I (t I) I λw s=>sq s (saq (t I)) I λa w s=>sq s (sa ci) I λa w s=>nl ?_));obtain rfl:=si hm;replace hm:=hko6;dsimp only at hm;obtain rfl:=si hm;refine wpIn_ret ?_;exact rz [1007] y13 hM hD s I (rv3 (rc (K:=1001) I I) (rt I) (rt I)) (kc I kn) I
     ·refine wpIn_skip (rg (sq s (lm (K:=1005) (t I) I) I λa w s=>sw (K:=1000) s (t I) I (t I) I λw s=>nl ?_));refine rg (sq s (ad (t I) ci) I λa w s=>sq s (mv (t I)) I λa w s=>nl ?_);exact ⟨_,hm,⟨y13,s.rekey (l:=[(0,0),(1,1),(2,2),(3,3),(4,4),(5,5),(6,6),(7,7),(8,8),(19,19),(1000,1000),(1001,1001),(1007,1003)]) (.same I (.same I (.same I (.same I (.same I (.same I (.same I (.same I (.same I (.same I (.same I (.same I (.key (t:=1007) (u:=1003) I .nil))))))))))))) I I⟩⟩
   ·refine wpIn_exit ?_;exact ⟨_,(si hm).symm,⟨z5c0,s.pick [0,1,2,3,4,5,6,7,8,19,1000,1001,1003]⟩⟩
  ·obtain ⟨o6sc0,s⟩:=s;subst ho;replace hm:=hko6;dsimp only at hm;refine se (rg (sq s (bla (L:=[(0,1),(1,1),(2,1),(3,1),(4,1)]) (z:=[nz,nz,nz,nz,nz]) (res:=[nz,nz,nz,nz,nz]) I kr_ kr_ pdn I I) I λa w s=>sra (K:=1001) (m:=[nz,nz,nz,nz,nz]) (cs':=[nz,nz,nz,nz,nz]) s (t I) I (t I) kr_ I I I λw s=>sq s (saq cq) I λa w s=>sq s (sa ci) I λa w s=>nl ?_));obtain rfl:=si hm;refine Km (k:=1001) (x:=(⟨([]:List Int),([]:List Bool),([]:List Bool),([]:List Bool),([]:List Int)⟩:Ad)) s I (Bs (l:=([nz],[nz],[nz],[nz],[nz])) (rpn (α:=Int)) (rpn (α:=Bool)) (rpn (α:=Bool)) (rpn (α:=Bool)) (rpn (α:=Int))) λs=>?_;refine Gc (α:=Int) (d:=5) 1008 3 s I I λc15 s=>?_;refine wpIn_ret ?_;exact rz [1008] c15 hM hD s I (rv3 (rc (K:=1001) I I) (rt I) (rt I)) (kc I kn) I
def m40 (f:Nat) (v0:Aa):Option (Ad×Int×(List Int)):=(m105 f v0).bind λx2=>(bif (x2.2 != 0) then some ((⟨([]:List Int),([]:List Bool),([]:List Bool),([]:List Bool),([]:List Int)⟩:Ad),x2.2,([]:List Int)) else (m106 f v0 x2.1).bind λx5=>some (x5.1,x5.2.1,x5.2.2))
theorem s40 (f:Nat) (v0:Aa) (r:Ad×Int×(List Int)) (hm:m40 f v0=some r):Sp Tryz.prog 40 [Va v0] (Rz (λx:Value=>T3 (Va r.1) (Qv x) (Va r.2.1)) (λx=>[Ow 3 x r.2.2])):=by
 unfold m40 at hm;refine ens func40 kr_ I ntmps40 I I λM W a hM hD s=>?_;refine se (rg (ru 1 s λa w s=>aR 1000 s λb1 a w s=>ru 2 s λa w s=>nl ?_));refine se (rg (ru 1 s λa w s=>cB s hm (s105 f _) λx2 hm a w s=>ru 3 s λa w s=>aR 1001 s λb3 a w s=>sW s I λw s=>ru 1 s λa w s=>nl ?_));refine se (R 2 s λa w s=>?_);refine cmf s hm (λhb hm=>?_) λhb hm=>?_
 ·refine se (rg (sq s (bla (L:=[(0,1),(1,1),(2,1),(3,1),(4,1)]) (z:=[nz,nz,nz,nz,nz]) (res:=[nz,nz,nz,nz,nz]) I kr_ kr_ pdn I I) I λa w s=>ru 1 s λa w s=>sra (K:=1000) (m:=[nz,nz,nz,nz,nz]) (cs':=[nz,nz,nz,nz,nz]) s (t I) I (t I) kr_ I I I λw s=>ru 2 s λa w s=>nl ?_));obtain rfl:=si hm;refine Km (k:=1000) (x:=(⟨([]:List Int),([]:List Bool),([]:List Bool),([]:List Bool),([]:List Int)⟩:Ad)) s I (Bs (l:=([nz],[nz],[nz],[nz],[nz])) (rpn (α:=Int)) (rpn (α:=Bool)) (rpn (α:=Bool)) (rpn (α:=Bool)) (rpn (α:=Int))) λs=>?_;refine Gc (α:=Int) (d:=3) 1002 3 s I I λc4 s=>?_;refine wpIn_ret ?_;exact rz [1002] c4 hM hD s I (rv3 (rc (K:=1000) I I) (rt I) (rt I)) (kc I kn) I
 ·obtain ⟨x5,hx5,hm⟩:=bk hm;refine se (rg (ru 2 s λa w s=>sqz [1003] hM s (cc I (oc (t I) (oc (t I) on)) (s106 f _ _ _ hx5.e)) (λ_=>I) I I λy6 a w s=>ru 3 s λa w s=>sW s I λw s=>ru 2 s λa w s=>nl ?_));obtain rfl:=si hm;refine wpIn_ret ?_;exact rz [1003] y6 hM hD s I (rv3 (rc (K:=1000) I I) (rt I) (rt I)) (kc I kn) I
def m182 (f:Nat) (v0:Aa) (v1:Ad):Option (Bool×Int):=(m96 f v0 v1).bind λx1=>(bif (x1 != 0) then some (false,x1) else (m179 f v0 v1).bind λx2=>(bif (x2.2.1 == 0) then (m181 f x2.1 v1).bind λx5=>some x5 else some false).bind λr6=>some (r6,(0:Int)))
theorem s182 (f:Nat) (v0:Aa) (v1:Ad) (r:Bool×Int) (hm:m182 f v0 v1=some r):Sp Tryz.prog 182 [Va v0,Va v1] (T2 (Va r.1) (Va r.2)):=by
 unfold m182 at hm;refine ens func182 kr_ I ntmps182 I I λM W a hM hD s=>?_;refine R 4 s λa w s=>?_;refine se (se (rg (ru 2 s λa w s=>cB s hm (s96 f _ _) λx1 hm a w s=>ru 1 s λa w s=>nl ?_)));refine R 2 s λa w s=>?_;refine cmf s hm (λhb hm=>?_) λhb hm=>?_
 ·refine R 3 s λa w s=>?_;cases hm;exact rU hD s I I
 ·obtain ⟨x2,hx2,hm⟩:=bk hm;refine se (rg (ru 2 s λa w s=>sqz [1000] hM s (cc I (oc (t I) (oc (t I) on)) (s179 f _ _ _ hx2.e)) (λ_=>I) I I λy3 a w s=>ru 4 s λa w s=>aR 1001 s λb4 a w s=>sW s I λw s=>ru 2 s λa w s=>nl ?_));obtain ⟨r6,hr6,hm⟩:=bs hm;have gr6:=gT hr6;have er6:=gF hr6;obtain ⟨x5,hx5,gr6⟩:=gk gr6;have:=pka gr6 er6;refine R 9 s λa w s=>?_;cases hm;exact rU hD s I I
def m107 (f:Nat) (v0:Aa) (v1:Ad):Option (Int):=(m182 f v0 v1).bind λx1=>(bif (x1.2 != 0) then some x1.2 else (bif (!x1.1) then some (14:Int) else some (0:Int)))
theorem s107 (f:Nat) (v0:Aa) (v1:Ad) (r:Int) (hm:m107 f v0 v1=some r):Sp Tryz.prog 107 [Va v0,Va v1] (Va r):=by
 unfold m107 at hm;refine ens func107 kr_ I ntmps107 I I λM W a hM hD s=>?_;refine R 3 s λa w s=>?_;refine se (rg (ru 2 s λa w s=>cB s hm (s182 f _ _) λx1 hm a w s=>ru 5 s λa w s=>nl ?_));refine se (wpIn_block ?_);refine R 3 s λa w s=>?_;refine cM s hm (λhb hm=>?_) λhb hm=>?_
 ·refine R 2 s λa w s=>?_;cases hm;exact rT hD s I I
 ·refine R 3 s λa w s=>?_;refine cmf s hm (λhb hm=>?_) λhb hm=>?_
  ·refine R 1 s λa w s=>?_;cases hm;exact rT hD s I I
  ·refine R 1 s λa w s=>?_;cases hm;exact rT hD s I I
def m184 (f:Nat) (v0:Af) (v1:List Int) (v2:List Bool) (v3:List Bool) (v4:List Bool) (v5:List Int):Option (Bool×(List Int)×(List Bool)×(List Bool)×(List Bool)×(List Int)):=(bif ((decide (v0.Index < 0)) || (decide (v0.Index>=(v1.length:Int)))) then some (false,v1,v2,v3,v4,v5) else (idx v1 v0.Index).bind λx1=>(bif (x1 == 1) then some (true,(v1.set v0.Index.toNat (2:Int)),v2,v3,v4,v5) else (bif (x1 == 3) then some (true,(v1.set v0.Index.toNat (0:Int)),v2,v3,v4,v5) else some (false,v1,v2,v3,v4,v5))))
theorem s184 (f:Nat) (n0:Nat) (n1:Value) (n2:Value) (n3:Value) (n4:Value) (n5:Value) (v0:Af) (v1:List Int) (v2:List Bool) (v3:List Bool) (v4:List Bool) (v5:List Int) (r:Bool×(List Int)×(List Bool)×(List Bool)×(List Bool)×(List Int)) (hm:m184 f v0 v1 v2 v3 v4 v5=some r):Cg Tryz.prog 184 [Qv (pb n0 0),Va v0] [Mr n0 [n1,n2,n3,n4,n5],Ow 3 n1 v1,Ow 4 n2 v2,Ow 4 n3 v3,Ow 4 n4 v4,Ow 3 n5 v5] (Rz (λx:Unit=>Va r.1) (λx=>[Mr n0 [n1,n2,n3,n4,n5],Ow 3 n1 r.2.1,Ow 4 n2 r.2.2.1,Ow 4 n3 r.2.2.2.1,Ow 4 n4 r.2.2.2.2.1,Ow 3 n5 r.2.2.2.2.2])):=by
 unfold m184 at hm;refine eng func184 kr_ I ntmps184 I I λM W a hM hD s=>?_;refine R 2 s λa w s=>?_;refine se (se (fW 14 s kr_ I I λa w s=>nl ?_));refine cmf s hm (λhb hm=>?_) λhb hm=>?_
 ·refine R 1 s λa w s=>?_;obtain rfl:=si hm;refine wpIn_ret ?_;exact rz [1000,1001,1002,1003,1004,1005] () hM hD s I (rv1 (rt I)) (k4 I I I I (k2 I I kn)) I
 ·refine se ?_;obtain ⟨x1,hx1,hm⟩:=bk hm;refine se (fW 8 s kr_ I I λa w s=>sq s (sae (t I)) I λa w s=>nl ?_);refine se (rg (ru 1 s λa w s=>sq s (nke (t I)) I λa w s=>ru 1 s λa w s=>nl ?_));refine wpIn_block (R 2 s λa w s=>?_);refine cM s hm (λhb hm=>?_) λhb hm=>?_
  ·refine rg (ru 1 s λa w s=>sq s (nke (t I)) I λa w s=>stq (k:=1001) s (t I) I (Dz hx1.e) ci λw s=>nl ?_);refine R 1 s λa w s=>?_;obtain rfl:=si hm;refine wpIn_ret ?_;exact rz [1000,1001,1002,1003,1004,1005] () hM hD s I (rv1 (rt I)) (k4 I I I I (k2 I I kn)) I
  ·refine R 2 s λa w s=>?_;refine cM s hm (λhb hm=>?_) λhb hm=>?_
   ·refine rg (ru 1 s λa w s=>sq s (nke (t I)) I λa w s=>stq (k:=1001) s (t I) I (Dz hx1.e) ci λw s=>nl ?_);refine R 1 s λa w s=>?_;obtain rfl:=si hm;refine wpIn_ret ?_;exact rz [1000,1001,1002,1003,1004,1005] () hM hD s I (rv1 (rt I)) (k4 I I I I (k2 I I kn)) I
   ·refine R 1 s λa w s=>?_;obtain rfl:=si hm;refine wpIn_ret ?_;exact rz [1000,1001,1002,1003,1004,1005] () hM hD s I (rv1 (rt I)) (k4 I I I I (k2 I I kn)) I
def m185 (f:Nat) (v0:Af) (v1:List Int) (v2:List Bool) (v3:List Bool) (v4:List Bool) (v5:List Int):Option (Bool×(List Int)×(List Bool)×(List Bool)×(List Bool)×(List Int)):=(bif ((decide (v0.Index < 0)) || (decide (v0.Index>=(v5.length:Int)))) then some true else (idx v5 v0.Index).bind λx1=>some (x1 != 1)).bind λr2=>(bif r2 then some (false,v1,v2,v3,v4,v5) else (idx v5 v0.Index).bind λx3=>(idx v4 v0.Index).bind λx4=>some (true,v1,v2,v3,(v4.set v0.Index.toNat true),(v5.set v0.Index.toNat (2:Int))))
theorem s185 (f:Nat) (n0:Nat) (n1:Value) (n2:Value) (n3:Value) (n4:Value) (n5:Value) (v0:Af) (v1:List Int) (v2:List Bool) (v3:List Bool) (v4:List Bool) (v5:List Int) (r:Bool×(List Int)×(List Bool)×(List Bool)×(List Bool)×(List Int)) (hm:m185 f v0 v1 v2 v3 v4 v5=some r):Cg Tryz.prog 185 [Qv (pb n0 0),Va v0] [Mr n0 [n1,n2,n3,n4,n5],Ow 3 n1 v1,Ow 4 n2 v2,Ow 4 n3 v3,Ow 4 n4 v4,Ow 3 n5 v5] (Rz (λx:Unit=>Va r.1) (λx=>[Mr n0 [n1,n2,n3,n4,n5],Ow 3 n1 r.2.1,Ow 4 n2 r.2.2.1,Ow 4 n3 r.2.2.2.1,Ow 4 n4 r.2.2.2.2.1,Ow 3 n5 r.2.2.2.2.2])):=by
 unfold m185 at hm;refine eng func185 kr_ I ntmps185 I I λM W a hM hD s=>?_;refine R 2 s λa w s=>?_;refine se ?_;obtain ⟨r2,hr2,hm⟩:=bs hm;have gr2:=gF hr2;have er2:=gT hr2;obtain ⟨x1,hx1,gr2⟩:=gk gr2;have:=pko gr2 er2;refine se (fW 26 s kr_ I I λa w s=>nl ?_);refine cmf s hm (λhb hm=>?_) λhb hm=>?_
 ·refine R 1 s λa w s=>?_;obtain rfl:=si hm;refine wpIn_ret ?_;exact rz [1000,1001,1002,1003,1004,1005] () hM hD s I (rv1 (rt I)) (k4 I I I I (k2 I I kn)) I
 ·obtain ⟨x3,hx3,hm⟩:=bk hm;obtain ⟨x4,hx4,hm⟩:=bk hm;refine se (Bn [(3,Pt v0)] [0,1,2,3,4,5,6,7,8,9,10,11,14] [31,32,33,34,35,36,37,38,39,40,41,42,45] [] [43] [44,43] [(15,[]),(16,[44,43]),(17,[])] s (.skip (.skip (.skip (.cons (.late (.late (.cons (.cons (.cons (.cons (.cons (.cons (.cons (.cons (.cons (.cons (.cons (.cons .nil I I (mvq (t I))) I I (nkq (t I))) I I (fm_ (off:=0) (m:=4) (q:=0) (t I) kr_ I)) I I (fm_ (off:=4) (m:=0) (q:=4) (t I) kr_ I)) I I (lrc (K:=1000) (List Int) (t I) I I I I)) I I (fa (f:=Af.Index) (t I))) I I (ld (t I))) I I (mvq (t I))) I I (nkq (t I))) I I (fm_ (off:=0) (m:=4) (q:=0) (t I) kr_ I)) I I (fm_ (off:=3) (m:=0) (q:=3) (t I) kr_ I)) I I (lrc (K:=1000) (List Bool) (t I) I I I I)) I I (fa (f:=Af.Index) (t I))) I I (ld (t I))) I I (ixq (α:=Int) (k:=1005) (t I) I (t I) hx3.e)) I) I) I) kr_ kr_ I I (sw1 I sw0) I (by decide) I I ?_);refine ⟨⟨λ_=>I,I,.inr ⟨(sw1 I sw0),sb0,(sn2 I sn0)⟩⟩,by kernel_rfl,_,I,λΨ a w s=>stq (k:=1005) s (t I) I (Dz hx3.e) ci λw s=>nl ?_⟩;refine nxt Ψ s ?_;refine ⟨⟨λ_=>I,I,.inr ⟨(sw1 I sw0),sb0,(sn2 I sn0)⟩⟩,by kernel_rfl,_,I,λΨ a w s=>sq s (ixq (α:=Bool) (k:=1004) (t I) I (t I) hx4.e) I λa w s=>nl ?_⟩;refine nxt Ψ s ?_;refine ⟨⟨λ_=>I,I,.inl I⟩,by kernel_rfl,_,I,λΨ a w s=>stq (k:=1004) s (t I) I (Dz hx4.e) cb λw s=>nl ?_⟩;refine nxt Ψ s ?_;refine ⟨⟨λ_=>I,I,.inl I⟩,λa w s=>?_⟩;replace s:St M W 47 [(0,Qv (pb n0 0)),(1,Va v0),(3,Pt v0),(4,Va false),(1000,Mr n0 [n1,n2,n3,n4,n5]),(1001,Ow 3 n1 v1),(1002,Ow 4 n2 v2),(1003,Ow 4 n3 v3),(1004,Ow 4 n4 ((v4.set v0.Index.toNat true))),(1005,Ow 3 n5 ((v5.set v0.Index.toNat (2:Int))))] a w:=s.pick [0,1,3,4,1000,1001,1002,1003,1004,1005];refine R 1 s λa w s=>?_;obtain rfl:=si hm;refine wpIn_ret ?_;exact rz [1000,1001,1002,1003,1004,1005] () hM hD s I (rv1 (rt I)) (k4 I I I I (k2 I I kn)) I
def m186 (f:Nat) (v0:Af) (v1:List Int) (v2:List Bool) (v3:List Bool) (v4:List Bool) (v5:List Int):Option (Bool×(List Int)×(List Bool)×(List Bool)×(List Bool)×(List Int)):=(bif ((decide (v0.Index < 0)) || (decide (v0.Index>=(v3.length:Int)))) then some true else (idx v3 v0.Index).bind λx1=>some (x1 == v0.Value)).bind λr2=>(bif r2 then some (false,v1,v2,v3,v4,v5) else (idx v3 v0.Index).bind λx3=>some (true,v1,v2,(v3.set v0.Index.toNat v0.Value),v4,v5))
theorem s186 (f:Nat) (n0:Nat) (n1:Value) (n2:Value) (n3:Value) (n4:Value) (n5:Value) (v0:Af) (v1:List Int) (v2:List Bool) (v3:List Bool) (v4:List Bool) (v5:List Int) (r:Bool×(List Int)×(List Bool)×(List Bool)×(List Bool)×(List Int)) (hm:m186 f v0 v1 v2 v3 v4 v5=some r):Cg Tryz.prog 186 [Qv (pb n0 0),Va v0] [Mr n0 [n1,n2,n3,n4,n5],Ow 3 n1 v1,Ow 4 n2 v2,Ow 4 n3 v3,Ow 4 n4 v4,Ow 3 n5 v5] (Rz (λx:Unit=>Va r.1) (λx=>[Mr n0 [n1,n2,n3,n4,n5],Ow 3 n1 r.2.1,Ow 4 n2 r.2.2.1,Ow 4 n3 r.2.2.2.1,Ow 4 n4 r.2.2.2.2.1,Ow 3 n5 r.2.2.2.2.2])):=by
 unfold m186 at hm;refine eng func186 kr_ I ntmps186 I I λM W a hM hD s=>?_;refine R 2 s λa w s=>?_;refine se ?_;obtain ⟨r2,hr2,hm⟩:=bs hm;have gr2:=gF hr2;have er2:=gT hr2;obtain ⟨x1,hx1,gr2⟩:=gk gr2;have:=pko gr2 er2;refine se (fW 28 s kr_ I I λa w s=>nl ?_);refine cmf s hm (λhb hm=>?_) λhb hm=>?_
 ·refine R 1 s λa w s=>?_;obtain rfl:=si hm;refine wpIn_ret ?_;exact rz [1000,1001,1002,1003,1004,1005] () hM hD s I (rv1 (rt I)) (k4 I I I I (k2 I I kn)) I
 ·obtain ⟨x3,hx3,hm⟩:=bk hm;refine se (fW 10 s kr_ I I λa w s=>stq (k:=1003) s (t I) I (Dz hx3.e) (t I) λw s=>nl ?_);refine R 1 s λa w s=>?_;obtain rfl:=si hm;refine wpIn_ret ?_;exact rz [1000,1001,1002,1003,1004,1005] () hM hD s I (rv1 (rt I)) (k4 I I I I (k2 I I kn)) I
def Cm (f:Nat) (v0:Aa):Nat->(Int×Ad×(List Int))->Option (Lo (Int×Ad×(List Int)) (Ad×(List Int)×Int))
 | 0,_=>none
 | n+1,z4=>(bif (decide (z4.1 < 65)) then (m179 f v0 z4.2.1).bind λx7=>(bif (x7.2.1 != 0) then some (.ret ((⟨([]:List Int),([]:List Bool),([]:List Bool),([]:List Bool),([]:List Int)⟩:Ad),([]:List Int),x7.2.1)) else (m180 f z4.2.2 x7.2.2).bind λx10=>(m181 f x7.1 z4.2.1).bind λx12=>(bif x12 then some (.ret (x7.1,x10,(0:Int))) else Cm f v0 n ((wr (z4.1 + 1)),x7.1,x10))) else some (.brk (z4.1,z4.2.1,z4.2.2)))
def Qf (f:Nat) (v0:Aa) (v1:Ad):Option (Ad×(List Int)×Int):=(m96 f v0 v1).bind λx3=>(bif (x3 != 0) then some ((⟨([]:List Int),([]:List Bool),([]:List Bool),([]:List Bool),([]:List Int)⟩:Ad),([]:List Int),x3) else ((Cm f v0 f ((0:Int),v1,([]:List Int))).bind λo5=>match o5 with | .brk o5s=>some ((⟨([]:List Int),([]:List Bool),([]:List Bool),([]:List Bool),([]:List Int)⟩:Ad),([]:List Int),(21:Int)) | .ret r=>some r))
theorem s106_1 (f:Nat) (v0:Aa) (v1:Ad) (r:Ad×(List Int)×Int) (hm:Qf f v0 v1=some r):Sp Tryz.prog 106 [Va v0,Va v1] (T3 (Va r.1) (Va r.2.1) (Va r.2.2)):=by
 unfold Qf at hm;refine ens func106 kr_ I ntmps106 I I λM W a hM hD s=>?_;refine se (rg (sq s (bx (t I)) I λa w s=>sqb 1000 s (bxm (t I)) I I λb1 a w s=>sqr 1001 s (alr (cs:=[nz,nz,nz,nz,nz]) (z:=.agg #[nz,nz,nz,nz,nz]) kr_ I I) I I λb2 a w s=>sq s (saq cq) I λa w s=>sq s (sa ci) I λa w s=>nl ?_));refine se ?_;obtain ⟨x3,hx3,hm⟩:=bs hm;refine se (rg (sq s (ld (t I)) I λa w s=>sq s (lm (K:=1000) (t I) I) I λa w s=>sq s (cc I (oc (t I) (oc (t I) on)) (s96 f _ _ _ hx3)) I λa w s=>sq s (sa (t I)) I λa w s=>nl ?_));refine se (rg (sq s (mv (t I)) I λa w s=>sq s (ne (t I) ci) I λa w s=>nl ?_));refine cm s I hm (λhb hm=>?_) (λhb hm=>?_)
 ·refine se (rg (sq s (bl58_ ) I λa w s=>sq s (mv (t I)) I λa w s=>swd (K:=1001) s (t I) I (t I) I λw s=>sq s (saq cq) I λa w s=>sq s (sa (t I)) I λa w s=>nl ?_));obtain rfl:=si hm;refine wpIn_ret ?_;exact rn hD s I (rv3 (rc (K:=1001) I I) (ro (qns (α:=Int) (t I))) (rt I))
 ·refine wpIn_skip (se (rg (sq s (saq cq) I λa w s=>nl ?_)));refine se (se (rg (sq s (mv ci) I λa w s=>nl ?_)));refine Gc (α:=Int) (d:=8) 1002 3 s I I λc6 s=>?_;obtain ⟨o5,hoo5,hko5⟩:=bs hm;refine lcI o5 (λo5s a w=>∃ (o5sc0:Value),St M W 43 [(0,Va v0),(1,Va v1),(2,Pt v0),(3,Qv (pb b1 0)),(4,Qv (pb b2 0)),(5,Qv nz),(6,Va ((0:Int))),(7,Va x3),(8,Qv o5sc0),(19,Va o5s.1),(1000,Mg b1 o5s.2.1),(1001,Mr b2 [nz,nz,nz,nz,nz]),(1002,Ow 3 o5sc0 o5s.2.2)] a w) ?_ λo5s a w ho s=>?_
  ·refine wpIn_block (loI (λn z4=>Cm f v0 n z4) o5 (λz4 a w=>∃ (z4c0:Value),St M W 43 [(0,Va v0),(1,Va v1),(2,Pt v0),(3,Qv (pb b1 0)),(4,Qv (pb b2 0)),(5,Qv nz),(6,Va ((0:Int))),(7,Va x3),(8,Qv z4c0),(19,Va z4.1),(1000,Mg b1 z4.2.1),(1001,Mr b2 [nz,nz,nz,nz,nz]),(1002,Ow 3 z4c0 z4.2.2)] a w) f ((0:Int),v1,([]:List Int)) ⟨c6,s.pick [0,1,2,3,4,5,6,7,8,19,1000,1001,1002]⟩ hoo5 (λ_=>I) λn z4 a w hm s=>?_);obtain ⟨z4c0,s⟩:=s;replace hm:Cm f v0 (n + 1) z4=some o5:=hm;unfold Cm at hm;refine se (rg (sq s (lt (t I) ci) I λa w s=>nl ?_));refine se (cm s I hm (λhb hm=>?_) (λhb hm=>?_))
   ·refine wpIn_skip (se ?_);refine wpIn_block ?_;obtain ⟨x7,hx7,hm⟩:=bs hm;refine se (rg (sq s (ld (t I)) I λa w s=>sq s (lm (K:=1000) (t I) I) I λa w s=>sqz [1003] hM s (cc I (oc (t I) (oc (t I) on)) (s179 f _ _ _ hx7)) (λ_=>I) I I λy8 a w s=>sq s (mve (t I)) I λa w s=>sq s (Pn.x30 (t I)) I λa w s=>sq s (Pn.x31 (t I)) I λa w s=>sq s (Pn.x32 (t I)) I λa w s=>sqr 1004 s (alr (cs:=[nz,nz,nz,nz,nz]) (z:=.agg #[nz,nz,nz,nz,nz]) kr_ I I) I I λb9 a w s=>swd (K:=1004) s (t I) I (t I) I λw s=>sq s (saq (t I)) I λa w s=>sq s (sa (t I)) I λa w s=>nl ?_));refine se (se (rg (sq s (mv (t I)) I λa w s=>sq s (ne (t I) ci) I λa w s=>nl ?_)));refine cm s I hm (λhb hm=>?_) (λhb hm=>?_)
    ·refine se (rg (sq s (bl58_ ) I λa w s=>sq s (mv (t I)) I λa w s=>swd (K:=1001) s (t I) I (t I) I λw s=>sq s (saq cq) I λa w s=>sq s (sa (t I)) I λa w s=>nl ?_));obtain rfl:=si hm;replace hm:=hko5;dsimp only at hm;obtain rfl:=si hm;refine wpIn_ret ?_;exact rn hD s I (rv3 (rc (K:=1001) I I) (ro (qns (α:=Int) (t I))) (rt I))
    ·refine wpIn_skip ?_;obtain ⟨x10,hx10,hm⟩:=bs hm;refine se (rg (sq s (mvq (t I)) I λa w s=>sq s (mvq (t I)) I λa w s=>sqz [1005] hM s (tfg (k:=1003) (flz (λ_=>flq) (λ_=>(flc flo fln))) I (tfg (k:=1002) (flz (λ_=>flq) (λ_=>(flc flo fln))) I (cc I (oc (ta (k:=1002) (t I) I) (oc (ta (k:=1003) (t I) I) on)) (s180 f _ _ _ hx10)))) (λ_=>I) I I λy11 a w s=>sq s (saq (t I)) I λa w s=>nl ?_));refine se ?_;obtain ⟨x12,hx12,hm⟩:=bs hm;refine se (rg (sq s (lm (K:=1004) (t I) I) I λa w s=>sq s (lm (K:=1000) (t I) I) I λa w s=>sq s (cc I (oc (t I) (oc (t I) on)) (s181 f _ _ _ hx12)) I λa w s=>nl ?_));refine cm s I hm (λhb hm=>?_) (λhb hm=>?_)
     ·refine se (rg (sq s (lm (K:=1004) (t I) I) I λa w s=>sq s (mvq (t I)) I λa w s=>swd (K:=1001) s (t I) I (t I) I λw s=>sq s (saq (t I)) I λa w s=>sq s (sa ci) I λa w s=>nl ?_));obtain rfl:=si hm;replace hm:=hko5;dsimp only at hm;obtain rfl:=si hm;refine fzk (α:=Int) (k:=1005) hM s I λs=>?_;refine wpIn_ret ?_;exact rn hD s I (rv3 (rc (K:=1001) I I) (ro (ta (k:=1005) (t I) I)) (rt I))
     ·refine wpIn_skip (rg (sq s (lm (K:=1004) (t I) I) I λa w s=>sw (K:=1000) s (t I) I (t I) I λw s=>nl ?_));refine rg (sq s (ad (t I) ci) I λa w s=>sq s (mv (t I)) I λa w s=>nl ?_);exact ⟨_,hm,⟨y11,s.rekey (l:=[(0,0),(1,1),(2,2),(3,3),(4,4),(5,5),(6,6),(7,7),(8,8),(19,19),(1000,1000),(1001,1001),(1005,1002)]) (.same I (.same I (.same I (.same I (.same I (.same I (.same I (.same I (.same I (.same I (.same I (.same I (.key (t:=1005) (u:=1002) I .nil))))))))))))) I I⟩⟩
   ·refine wpIn_exit ?_;exact ⟨_,(si hm).symm,⟨z4c0,s.pick [0,1,2,3,4,5,6,7,8,19,1000,1001,1002]⟩⟩
  ·obtain ⟨o5sc0,s⟩:=s;subst ho;replace hm:=hko5;dsimp only at hm;refine se (rg (sq s (bl58_ ) I λa w s=>swd (K:=1001) s (t I) I (t I) I λw s=>sq s (saq cq) I λa w s=>sq s (sa ci) I λa w s=>nl ?_));obtain rfl:=si hm;refine wpIn_ret ?_;exact rn hD s I (rv3 (rc (K:=1001) I I) (ro (qns (α:=Int) (t I))) (rt I))
def m108 (f:Nat) (v0:Aa) (v1:Ad) (v2:Af):Option (Ad×(List Int)×Int):=(m183 f v1).bind λx2=>(bif ((decide (v2.Kind < 0)) || (decide (v2.Kind>=(3:Int)))) then some ((⟨([]:List Int),([]:List Bool),([]:List Bool),([]:List Bool),([]:List Int)⟩:Ad),([]:List Int),(1:Int)) else (idx (List.range 3) v2.Kind).bind λx6=>((bif x6 == 0 then m184 f v2 x2.1 x2.2.1 x2.2.2.1 x2.2.2.2.1 x2.2.2.2.2 else bif x6 == 1 then m185 f v2 x2.1 x2.2.1 x2.2.2.1 x2.2.2.2.1 x2.2.2.2.2 else bif x6 == 2 then m186 f v2 x2.1 x2.2.1 x2.2.2.1 x2.2.2.2.1 x2.2.2.2.2 else none)).bind λx9=>(bif (!x9.1) then some ((⟨([]:List Int),([]:List Bool),([]:List Bool),([]:List Bool),([]:List Int)⟩:Ad),([]:List Int),(14:Int)) else (Qf f v0 (⟨x9.2.1,x9.2.2.1,x9.2.2.2.1,x9.2.2.2.2.1,x9.2.2.2.2.2⟩:Ad)).bind λx11=>some (x11.1,x11.2.1,x11.2.2)))
theorem s108 (f:Nat) (v0:Aa) (v1:Ad) (v2:Af) (r:Ad×(List Int)×Int) (hm:m108 f v0 v1 v2=some r):Sp Tryz.prog 108 [Va v0,Va v1,Va v2] (T3 (Va r.1) (Va r.2.1) (Va r.2.2)):=by
 unfold m108 at hm;refine ens func108 kr_ I ntmps108 I I λM W a hM hD s=>?_;refine se (rg (ru 3 s λa w s=>aR 1000 s λb1 a w s=>ru 2 s λa w s=>nl ?_));obtain ⟨x2,hx2,hm⟩:=bk hm;refine se (rg (ru 1 s λa w s=>sqz [1001,1002,1003,1004,1005] hM s (cc I (oc (t I) on) (s183 f _ _ hx2.e)) (λ_=>I) I I λy3 a w s=>sq s (bla (L:=[(0,5)]) (z:=[nz,nz,nz,nz,nz]) (res:=[y3.1,y3.2.1,y3.2.2.1,y3.2.2.2.1,y3.2.2.2.2]) I kr_ kr_ (pda (t I) pdn) I I) I λa w s=>sqr 1006 s (bxa (t I)) I I λb4 a w s=>ru 1 s λa w s=>nl ?_));refine se (rg (ru 1 s λa w s=>sq s (mkf I I (qc (t I) qn) qn) I λa w s=>ru 1 s λa w s=>sq s (mkf I I (qc (t I) qn) qn) I λa w s=>ru 1 s λa w s=>sq s (mkf I I (qc (t I) qn) qn) I λa w s=>sq s (bly (e:=264) (len:=3) (z:=[.nilFunc,.nilFunc,.nilFunc]) (cs:=[(fv 184 [(pb b4 0)] []),(fv 185 [(pb b4 0)] []),(fv 186 [(pb b4 0)] [])]) I (cd1 (t I) (ocr I) (cd1 (t I) (ocr I) (cd1 (t I) (ocr I) cd0))) kr_ kr_ kr_ I) I λa w s=>aR 1007 s λb5 a w s=>sra (K:=1007) (m:=[(fv 184 [(pb b4 0)] []),(fv 185 [(pb b4 0)] []),(fv 186 [(pb b4 0)] [])]) (cs':=[(fv 184 [(pb b4 0)] []),(fv 185 [(pb b4 0)] []),(fv 186 [(pb b4 0)] [])]) s (t I) I (t I) kr_ I I I λw s=>nl ?_));refine se (R 8 s λa w s=>?_);refine cmf s hm (λhb hm=>?_) λhb hm=>?_
 ·refine se (rg (sq s (bla (L:=[(0,1),(1,1),(2,1),(3,1),(4,1)]) (z:=[nz,nz,nz,nz,nz]) (res:=[nz,nz,nz,nz,nz]) I kr_ kr_ pdn I I) I λa w s=>sra (K:=1000) (m:=[nz,nz,nz,nz,nz]) (cs':=[nz,nz,nz,nz,nz]) s (t I) I (t I) kr_ I I I λw s=>ru 2 s λa w s=>nl ?_));obtain rfl:=si hm;refine Km (k:=1000) (x:=(⟨([]:List Int),([]:List Bool),([]:List Bool),([]:List Bool),([]:List Int)⟩:Ad)) s I (Bs (l:=([nz],[nz],[nz],[nz],[nz])) (rpn (α:=Int)) (rpn (α:=Bool)) (rpn (α:=Bool)) (rpn (α:=Bool)) (rpn (α:=Int))) λs=>?_;refine wpIn_ret ?_;exact rn hD s I (rv3 (rc (K:=1000) I I) (ro (qns (α:=Int) (t I))) (rt I))
 ·refine se ?_;obtain ⟨x6,hx6,hm⟩:=bk hm;obtain ⟨x9,hx9,hm⟩:=bk hm;refine se (Ef s (m:=5) (.cons (.cons (.cons (.cons (.cons .nil I (fa (f:=Af.Kind) (t I))) I (ld (t I))) I (iax (e:=264) (t I) (t I) kr_ kr_ hx6.e)) I (lsel (K:=1007) (ds:=[(fv 184 [(pb b4 0)] []),(fv 185 [(pb b4 0)] []),(fv 186 [(pb b4 0)] [])]) (t I) I I (Sf hx6.e).1 (Nat.le_of_ble_eq_true I) kr_)) I (ld (t I))) kr_ I I λa w s=>cgv [1006,1001,1002,1003,1004,1005] [1006,1001,1002,1003,1004,1005] hM s (qsel3 (selt hx9.e) (t I)) I (oc (t I) on) (vq vn) vn (Tg (Q:=λF=>Cg Tryz.prog F [Qv (pb b4 0),Va v2] [Mr b4 [y3.1,y3.2.1,y3.2.2.1,y3.2.2.2.1,y3.2.2.2.2],Ow 3 y3.1 x2.1,Ow 4 y3.2.1 x2.2.1,Ow 4 y3.2.2.1 x2.2.2.1,Ow 4 y3.2.2.2.1 x2.2.2.2.1,Ow 3 y3.2.2.2.2 x2.2.2.2.2] (Rz (λx:Unit=>Va x9.1) (λx=>[Mr b4 [y3.1,y3.2.1,y3.2.2.1,y3.2.2.2.1,y3.2.2.2.2],Ow 3 y3.1 x9.2.1,Ow 4 y3.2.1 x9.2.2.1,Ow 4 y3.2.2.1 x9.2.2.2.1,Ow 4 y3.2.2.2.1 x9.2.2.2.2.1,Ow 3 y3.2.2.2.2 x9.2.2.2.2.2]))) hx9.e (λh=>s184 f b4 y3.1 y3.2.1 y3.2.2.1 y3.2.2.2.1 y3.2.2.2.2 _ _ _ _ _ _ _ h) (λh=>s185 f b4 y3.1 y3.2.1 y3.2.2.1 y3.2.2.2.1 y3.2.2.2.2 _ _ _ _ _ _ _ h) (λh=>s186 f b4 y3.1 y3.2.1 y3.2.2.1 y3.2.2.2.1 y3.2.2.2.2 _ _ _ _ _ _ _ h)) (k4 I I I I (k2 I I kn)) I (λ_=>I) I I I λy10 a w s=>sq s (nt (t I)) I λa w s=>nl ?_);refine cmf s hm (λhb hm=>?_) λhb hm=>?_
  ·refine se (rg (sq s (bla (L:=[(0,1),(1,1),(2,1),(3,1),(4,1)]) (z:=[nz,nz,nz,nz,nz]) (res:=[nz,nz,nz,nz,nz]) I kr_ kr_ pdn I I) I λa w s=>sra (K:=1000) (m:=[nz,nz,nz,nz,nz]) (cs':=[nz,nz,nz,nz,nz]) s (t I) I (t I) kr_ I I I λw s=>ru 2 s λa w s=>nl ?_));obtain rfl:=si hm;refine Km (k:=1000) (x:=(⟨([]:List Int),([]:List Bool),([]:List Bool),([]:List Bool),([]:List Int)⟩:Ad)) s I (Bs (l:=([nz],[nz],[nz],[nz],[nz])) (rpn (α:=Int)) (rpn (α:=Bool)) (rpn (α:=Bool)) (rpn (α:=Bool)) (rpn (α:=Int))) λs=>?_;refine wpIn_ret ?_;exact rn hD s I (rv3 (rc (K:=1000) I I) (ro (qns (α:=Int) (t I))) (rt I))
  ·refine fzk (α:=Int) (k:=1001) hM s I λs=>?_;refine fzk (α:=Bool) (k:=1002) hM s I λs=>?_;refine fzk (α:=Bool) (k:=1003) hM s I λs=>?_;refine fzk (α:=Bool) (k:=1004) hM s I λs=>?_;refine fzk (α:=Int) (k:=1005) hM s I λs=>?_;obtain ⟨x11,hx11,hm⟩:=bk hm;refine se (Ef s (m:=9) (.cons (.cons (.cons (.cons (.cons (.cons (.cons (.cons (.cons .nil I (ld (t I))) I (mvq (t I))) I (nkq (t I))) I (fm_ (off:=0) (m:=4) (q:=0) (t I) kr_ I)) I (lra (K:=1006) (ds:=[y3.1,y3.2.1,y3.2.2.1,y3.2.2.2.1,y3.2.2.2.2]) Ad (t I) I I I I)) I (cc I (oc (t I) (oc (qad (y:=(⟨x9.2.1,x9.2.2.1,x9.2.2.2.1,x9.2.2.2.2.1,x9.2.2.2.2.2⟩:Ad)) (t I) (Bs (l:=([y3.1],[y3.2.1],[y3.2.2.1],[y3.2.2.2.1],[y3.2.2.2.2])) (rpz (k:=1001) I) (rpz (k:=1002) I) (rpz (k:=1003) I) (rpz (k:=1004) I) (rpz (k:=1005) I)) I) on)) (s106_1 f _ _ _ hx11.e))) I (Pn.x30 (t I))) I (Pn.x31 (t I))) I (Pn.x32 (t I))) kr_ I I λa w s=>sW s I λw s=>sq s (sa (t I)) I λa w s=>sq s (sa (t I)) I λa w s=>nl ?_);cases hm;exact rV hD s I I
def m41 (f:Nat) (v0:Aa) (v1:Ad) (v2:Af):Option (Ad×(List Int)×Int):=(m107 f v0 v1).bind λx2=>(bif (x2 != 0) then some ((⟨([]:List Int),([]:List Bool),([]:List Bool),([]:List Bool),([]:List Int)⟩:Ad),([]:List Int),x2) else (m108 f v0 v1 v2).bind λx3=>some (x3.1,x3.2.1,x3.2.2))
theorem s41 (f:Nat) (v0:Aa) (v1:Ad) (v2:Af) (r:Ad×(List Int)×Int) (hm:m41 f v0 v1 v2=some r):Sp Tryz.prog 41 [Va v0,Va v1,Va v2] (T3 (Va r.1) (Va r.2.1) (Va r.2.2)):=by
 unfold m41 at hm;refine ens func41 kr_ I ntmps41 I I λM W a hM hD s=>?_;refine se (rg (ru 3 s λa w s=>aR 1000 s λb1 a w s=>ru 2 s λa w s=>nl ?_));refine se (se (rg (ru 2 s λa w s=>cB s hm (s107 f _ _) λx2 hm a w s=>ru 1 s λa w s=>nl ?_)));refine R 2 s λa w s=>?_;refine cmf s hm (λhb hm=>?_) λhb hm=>?_
 ·refine se (rg (sq s (bla (L:=[(0,1),(1,1),(2,1),(3,1),(4,1)]) (z:=[nz,nz,nz,nz,nz]) (res:=[nz,nz,nz,nz,nz]) I kr_ kr_ pdn I I) I λa w s=>ru 1 s λa w s=>sra (K:=1000) (m:=[nz,nz,nz,nz,nz]) (cs':=[nz,nz,nz,nz,nz]) s (t I) I (t I) kr_ I I I λw s=>ru 2 s λa w s=>nl ?_));obtain rfl:=si hm;refine Km (k:=1000) (x:=(⟨([]:List Int),([]:List Bool),([]:List Bool),([]:List Bool),([]:List Int)⟩:Ad)) s I (Bs (l:=([nz],[nz],[nz],[nz],[nz])) (rpn (α:=Int)) (rpn (α:=Bool)) (rpn (α:=Bool)) (rpn (α:=Bool)) (rpn (α:=Int))) λs=>?_;refine wpIn_ret ?_;exact rn hD s I (rv3 (rc (K:=1000) I I) (ro (qns (α:=Int) (t I))) (rt I))
 ·refine se (rg (ru 3 s λa w s=>cB s hm (s108 f _ _ _) λx3 hm a w s=>ru 3 s λa w s=>sW s I λw s=>ru 2 s λa w s=>nl ?_));cases hm;exact rV hD s I I
def m110 (f:Nat) (v0:Ad):Option (Ad):=some v0
theorem s110 (f:Nat) (v0:Ad) (r:Ad) (hm:m110 f v0=some r):Sp Tryz.prog 110 [Va v0] (Rz (λx:Value=>Qv (fv 188 [] [x])) (λx=>[At x (Pt r)])):=by
 unfold m110 at hm;refine ens func110 kr_ I ntmps110 I I λM W a hM hD s=>?_;refine R 2 s λa w s=>?_;refine se (rg (nmk (d:=1) 1000 s I I λc1 s=>sq s (mkf I I qn (qc (t I) qn)) I λa w s=>ru 1 s λa w s=>nl ?_));obtain rfl:=si hm;refine wpIn_ret ?_;exact rz [1000] c1 hM hD s I (rv1 (rt I)) (kc I kn) I
def Jt {σ:Type} (gy:Af->σ->Option (Bool×σ)) (v0:Ad):Nat->(Int×σ)->Option (Lo (Int×σ) (σ))
 | 0,_=>none
 | n+1,z4=>(bif (decide (z4.1 < (v0.Timers.length:Int))) then (idx v0.Timers z4.1).bind λx6=>bif (x6 == 1) then ((gy (⟨(1:Int),z4.1,false⟩:Af) z4.2).bind λx7=>(bif (bif (x6 == 1) then (!x7.1) else false) then some (.ret x7.2) else Jt gy v0 n ((wr (z4.1 + 1)),x7.2))) else (bif false then some (.ret z4.2) else Jt gy v0 n ((wr (z4.1 + 1)),z4.2)) else some (.brk (z4.1,z4.2)))
def Ju {σ:Type} (gy:Af->σ->Option (Bool×σ)) (v0:Ad):Nat->(Int×σ)->Option (Lo (Int×σ) (σ))
 | 0,_=>none
 | n+1,z1=>(bif (decide (z1.1 < (v0.Ends.length:Int))) then (idx v0.Ends z1.1).bind λx3=>bif ((x3 == 1) || (x3 == 3)) then ((gy (⟨(0:Int),z1.1,false⟩:Af) z1.2).bind λx4=>(bif (bif ((x3 == 1) || (x3 == 3)) then (!x4.1) else false) then some (.ret x4.2) else Ju gy v0 n ((wr (z1.1 + 1)),x4.2))) else (bif false then some (.ret z1.2) else Ju gy v0 n ((wr (z1.1 + 1)),z1.2)) else some (.brk (z1.1,z1.2)))
def m188 {σ:Type} (gy:Af->σ->Option (Bool×σ)) (f:Nat) (v0:Ad) (v1:σ):Option (σ):=((Ju gy v0 f ((0:Int),v1)).bind λo2=>match o2 with | .brk o2s=>((Jt gy v0 f ((0:Int),o2s.2)).bind λo5=>match o5 with | .brk o5s=>some o5s.2 | .ret r=>some r) | .ret r=>some r)
theorem s188 {σ:Type} (E:σ->Ent) [hE:∀ s,Gh (E s)] (n0:Nat) (gy:Af->σ->Option (Bool×σ)) (ihy:∀ x s r,gy x s=some r->Cy Tryz.prog n0 [Va x] [E s] (Rz (λ_:Unit=>Va r.1) λ_=>[E r.2])) (f:Nat) (v0:Ad) (v1:σ) (r:σ) (hm:m188 gy f v0 v1=some r):Cg Tryz.prog 188 [Qv (yv n0),Pt v0] [E v1] (Rz (λx:Unit=>Dd) (λx=>[E r])):=by
 unfold m188 at hm;refine eng func188 kr_ I ntmps188 I I λM W a hM hD s=>?_;refine se (R 4 s λa w s=>?_);refine lB hm [0,1,8,9] s (λz1=>[(10,Va z1.1),(1000,E z1.2)]) s.fi (λ_=>I) (λo2 hko2 n z1 a w hm s=>?_) λo2s hm a w s=>?_
 ·unfold Ju at hm;refine R 1 s λa w s=>?_;refine se (cmt s hm (λhb hm=>?_) λhb hm=>?_)
  ·refine se (wpIn_block ?_);refine se (rg (ru 1 s λa w s=>iB s hm λx3 hm a w s=>ru 3 s λa w s=>nl ?_));rcases bfc hm with ⟨hb0,hm⟩ | ⟨hb0,hm⟩
   ·obtain ⟨x4,hx4,hm⟩:=bk hm;refine se (rg (ru 7 s λa w s=>gon s I I hb0 <| sq s (mvq (t I)) I λa w s=>gon s I I hb0 <| sq s (mv (t I)) I λa w s=>gon s I I hb0 <| sq s (Nn ci (t I)) I λa w s=>gon s I I hb0 <| cgy [1000] [1000] hM s (t I) I (oc (t I) on) (ihy _ _ _ hx4.e) (kc I kn) I (λ_=>I) I I I λy5 a w s=>gon s I I hb0 <| sq s (nt (t I)) I λa w s=>sq s (pk (t I) (t I) cb) I λa w s=>nl ?_));refine cmf s hm (λhb hm=>?_) λhb hm=>?_
    ·obtain rfl:=si hm;replace hm:=hko2;dsimp only at hm;obtain rfl:=si hm;refine wpIn_ret ?_;exact rz [1000] () hM hD s I rv0 (kc I kn) I
    ·refine R0 2 s λa w s=>?_;exact ⟨_,hm,s.fi⟩
   ·refine se (rg (ru 7 s λa w s=>Kj s I I hb0 I λa w s=>Kj s I I hb0 I λa w s=>Kj s I I hb0 I λa w s=>Kj s I I hb0 I λa w s=>Kj s I I hb0 I λa w s=>sq s (pkF (t I) hb0 cb) I λa w s=>nl ?_));refine cmf s hm (λhb hm=>?_) λhb hm=>?_
    ·obtain rfl:=si hm;replace hm:=hko2;dsimp only at hm;obtain rfl:=si hm;refine wpIn_ret ?_;exact rz [1000] () hM hD s I rv0 (kc I kn) I
    ·refine R0 2 s λa w s=>?_;exact ⟨_,hm,s.fi⟩
  ·refine wpIn_exit ?_;exact ⟨_,(si hm).symm,s.fi⟩
 ·dsimp only at hm;refine R 4 s λa w s=>?_;refine lB hm [0,1,8,9,10,30,31] s (λz4=>[(32,Va z4.1),(1000,E z4.2)]) s.fi (λ_=>I) (λo5 hko5 n z4 a w hm s=>?_) λo5s hm a w s=>?_
  ·unfold Jt at hm;refine R 1 s λa w s=>?_;refine se (cmt s hm (λhb hm=>?_) λhb hm=>?_)
   ·refine se (wpIn_block ?_);refine se (rg (ru 1 s λa w s=>iB s hm λx6 hm a w s=>ru 3 s λa w s=>nl ?_));rcases bfc hm with ⟨hb0,hm⟩ | ⟨hb0,hm⟩
    ·obtain ⟨x7,hx7,hm⟩:=bk hm;refine se (rg (ru 3 s λa w s=>gon s I I hb0 <| sq s (mvq (t I)) I λa w s=>gon s I I hb0 <| sq s (mv (t I)) I λa w s=>gon s I I hb0 <| sq s (Nn ci (t I)) I λa w s=>gon s I I hb0 <| cgy [1000] [1000] hM s (t I) I (oc (t I) on) (ihy _ _ _ hx7.e) (kc I kn) I (λ_=>I) I I I λy8 a w s=>gon s I I hb0 <| sq s (nt (t I)) I λa w s=>sq s (pk (t I) (t I) cb) I λa w s=>nl ?_));refine cmf s hm (λhb hm=>?_) λhb hm=>?_
     ·obtain rfl:=si hm;replace hm:=hko5;dsimp only at hm;obtain rfl:=si hm;refine wpIn_ret ?_;exact rz [1000] () hM hD s I rv0 (kc I kn) I
     ·refine R0 2 s λa w s=>?_;exact ⟨_,hm,s.fi⟩
    ·refine se (rg (ru 3 s λa w s=>Kj s I I hb0 I λa w s=>Kj s I I hb0 I λa w s=>Kj s I I hb0 I λa w s=>Kj s I I hb0 I λa w s=>Kj s I I hb0 I λa w s=>sq s (pkF (t I) hb0 cb) I λa w s=>nl ?_));refine cmf s hm (λhb hm=>?_) λhb hm=>?_
     ·obtain rfl:=si hm;replace hm:=hko5;dsimp only at hm;obtain rfl:=si hm;refine wpIn_ret ?_;exact rz [1000] () hM hD s I rv0 (kc I kn) I
     ·refine R0 2 s λa w s=>?_;exact ⟨_,hm,s.fi⟩
   ·refine wpIn_exit ?_;exact ⟨_,(si hm).symm,s.fi⟩
  ·dsimp only at hm;obtain rfl:=si hm;exact rze [1000] () hM hD s I rv0 (kc I kn) I
def Ho :Af->((List Af))×Nat->Option (Bool×(((List Af))×Nat)):=λu5 z3=>match z3 with
 | (z3,0)=>(app z3 ([u5]:List Af)).bind λx7=>some (true,(x7,0))
 | (_,_ + 1)=>none
def m187 (f:Nat) (v0:Ad):Option ((List Af)):=(m188 Ho f v0 (([]:List Af),0)).bind λo9=>(bif o9.2 == 0 then some o9.1 else none)
theorem s187 (f:Nat) (n0:Value) (v0:Ad) (r:(List Af)) (hm:m187 f v0=some r):Cg Tryz.prog 187 [Qv nz,Qv (fv 188 [] [n0])] [At n0 (Pt v0)] (Rz (λx:Value=>Qv x) (λx=>[At n0 (Pt v0),Ow 86 x r])):=by
 unfold m187 at hm;refine eng func187 kr_ I ntmps187 I I λM W a hM hD s=>?_;refine se (rg (sqr 1001 s (bxr (t I) (ocr I)) I I λb1 a w s=>ru 1 s λa w s=>nl ?_));refine se (R 1 s λa w s=>?_);refine wpIn_block (Tc (α:=Af) (k:=1001) (cs':=λc2=>[c2]) 1002 86 s I (λ_=>I) I λc2 s=>?_);obtain ⟨o9,ho9,hko9⟩:=bs hm;refine rfn (α:=Af) (X:=Value) (σ:=(List Af)) (pe:=λx=>[Va x]) (gb:=(Ho)) (r:=o9) [(2,Qv (pb b1 0))] [] (λz3 n4=>[Mr b1 [n4],Ow 86 n4 z3]) ([]:List Af) c2 1005 1003 1004 [1001,1002] hM s (t I) vn (va (k:=1000) I vn) (k2 I I kn) I (λ_ _=>I) (λ_ _ h=>Bm (l:=[2]) h) (zs1 zs0) I I I (λE _ l ihy=>s188 E l Ho ihy f _ _ _ ho9) (λl fn D tm htm u5 z3 r hm=>?_) (λd10 a w n11 s=>?_)
 ·rcases z3 with ⟨z3,_ | j⟩
  ·unfold Ho at hm;dsimp only at hm;refine Cy.mk (KL:=1003) (KT:=1004) [1001,1002] [7] z3 htm I I I I I I (λ_=>I) λM W a n4 TB hM hD hTB s=>?_;refine rg (sqb 1006 s (al (z:=(⟨(0:Int),(0:Int),false⟩:Af))) I I λb6 a w s=>sw (K:=1006) s (t I) I (t I) I λw s=>nl ?_);refine bgn (K:=1003) s I I λRB w hRB s=>?_;refine wpIn_block ?_;obtain ⟨x7,hx7,hm⟩:=bk hm;refine rg (ru 3 s λa w s=>apd (α:=Af) (k:=1002) s (t I) I (t I) hx7.e I I λc8 a w s=>srq (K:=1001) (cs':=[c8]) s (t I) I (t I) kr_ (oco (k:=1002) I) I I λw s=>nl ?_);obtain rfl:=si hm;exact rde (KL:=1003) (KT:=1004) [1001,1002] none 0 true x7 c8 hM s I I hRB hTB (k2 I I kn) I I I I
  ·unfold Ho at hm;cases hm
 ·replace hm:=hko9;rcases bfc hm with ⟨hj,hm⟩ | ⟨hj,hm⟩
  ·refine af0 hj ?_;refine R 2 s λa w s=>?_;obtain rfl:=si hm;refine wpIn_ret (lvm (KD:=1005) s I I I λa w ha s=>?_);rw [← ha];exact rz [1000,1002] n11 hM hD s I (rv1 (rt I)) (k2 I I kn) I
  ·cases hm
def m109 (f:Nat) (v0:Ad):Option ((List Af)):=(m187 f v0).bind λx1=>some x1
theorem s109 (f:Nat) (n0:Value) (v0:Ad) (r:(List Af)) (hm:m109 f v0=some r):Cg Tryz.prog 109 [Qv (fv 188 [] [n0])] [At n0 (Pt v0)] (Rz (λx:Value=>Qv x) (λx=>[At n0 (Pt v0),Ow 86 x r])):=by
 unfold m109 at hm;refine eng func109 kr_ I ntmps109 I I λM W a hM hD s=>?_;refine R 1 s λa w s=>?_;obtain ⟨x1,hx1,hm⟩:=bk hm;refine se (rg (ru 1 s λa w s=>cgv [1000] [1000,1001] hM s qf I (oc cq (oc (t I) on)) vn vn (s187 f n0 _ _ hx1.e) (kc I kn) I (λ_=>I) I I I λy2 a w s=>ru 1 s λa w s=>nl ?_));obtain rfl:=si hm;refine wpIn_ret ?_;exact rz [1000,1001] y2 hM hD s I (rv1 (rt I)) (k2 I I kn) I
def m42 (f:Nat) (v0:Aa) (v1:Ad):Option (Int×(List Af)):=(m107 f v0 v1).bind λx1=>(bif (x1 != 0) then some (x1,([]:List Af)) else (m110 f v1).bind λx3=>(m109 f x3).bind λx5=>some ((0:Int),x5))
theorem s42 (f:Nat) (v0:Aa) (v1:Ad) (r:Int×(List Af)) (hm:m42 f v0 v1=some r):Sp Tryz.prog 42 [Va v0,Va v1] (Rz (λx:Value=>T2 (Qv x) (Va r.1)) (λx=>[Ow 86 x r.2])):=by
 unfold m42 at hm;refine ens func42 kr_ I ntmps42 I I λM W a hM hD s=>?_;refine R 4 s λa w s=>?_;refine se (se (rg (ru 2 s λa w s=>cB s hm (s107 f _ _) λx1 hm a w s=>ru 1 s λa w s=>nl ?_)));refine R 2 s λa w s=>?_;refine cmf s hm (λhb hm=>?_) λhb hm=>?_
 ·refine R 3 s λa w s=>?_;obtain rfl:=si hm;refine Gc (α:=Af) (d:=4) 1000 86 s I I λc2 s=>?_;refine wpIn_ret ?_;exact rz [1000] c2 hM hD s I (rv2 (rt I) (rt I)) (kc I kn) I
 ·obtain ⟨x3,hx3,hm⟩:=bk hm;obtain ⟨x5,hx5,hm⟩:=bk hm;refine se (rg (ru 1 s λa w s=>sqz [1001] hM s (cc I (oc (t I) on) (s110 f _ _ hx3.e)) (λ_=>I) I I λy4 a w s=>cgv [1001] [1001,1002] hM s qf I (oc (t I) on) vn vn (s109 f y4 _ _ hx5.e) (kc I kn) I (λ_=>I) I I I λy6 a w s=>ru 2 s λa w s=>nl ?_));obtain rfl:=si hm;refine wpIn_ret ?_;exact rz [1002] y6 hM hD s I (rv2 (rt I) (rt I)) (kc I kn) I
def Mb (v0:Ad) (v1:Ad):Nat->(Int×(List Ab))->Option (Int×(List Ab))
 | 0,_=>none
 | n+1,z1=>(bif (decide (z1.1 < (v1.Ends.length:Int))) then (idx v1.Ends z1.1).bind λx4=>(idx v0.Ends z1.1).bind λx5=>(bif ((x4 != x5) && ((x4 == 1) || (x4 == 3))) then (app z1.2 ([(⟨z1.1,(x4 == 1)⟩:Ab)]:List Ab)).bind λx7=>some x7 else some z1.2).bind λz6=>Mb v0 v1 n ((wr (z1.1 + 1)),z6) else some (z1.1,z1.2))
def m189 (f:Nat) (v0:Ad) (v1:Ad):Option ((List Ab)):=(Mb v0 v1 f ((0:Int),([]:List Ab))).bind λo2s=>some o2s.2
theorem s189 (f:Nat) (v0:Ad) (v1:Ad) (r:(List Ab)) (hm:m189 f v0 v1=some r):Sp Tryz.prog 189 [Va v0,Va v1] (Va r):=by
 unfold m189 at hm;refine ens func189 kr_ I ntmps189 I I λM W a hM hD s=>?_;refine R 3 s λa w s=>?_;refine R 1 s λa w s=>?_;refine se (R 4 s λa w s=>?_);refine Gc (α:=Ab) (d:=5) 1000 69 s I I λc3 s=>?_;refine lA1 hm [0,1,2,3,4,9,10] s (λz1 z1c0=>[(5,Qv z1c0),(11,Va z1.1),(1000,Ow 69 z1c0 z1.2)]) ⟨c3,s.fi⟩ (λ_=>I) (λo2s hko2 n z1 a w hm s=>?_) λo2s hm a w s=>?_
 ·obtain ⟨z1c0,s⟩:=s;unfold Mb at hm;refine R 1 s λa w s=>?_;refine se (cmt s hm (λhb hm=>?_) λhb hm=>?_)
  ·refine se (wpIn_block ?_);refine se (rg (ru 1 s λa w s=>iB s hm λx4 hm a w s=>ru 3 s λa w s=>nl ?_));refine se (rg (ru 4 s λa w s=>iB s hm λx5 hm a w s=>ru 10 s λa w s=>nl ?_));obtain ⟨z6,hz6,hkz6⟩:=bs hm;refine cP1 [0,1,2,3,4,6,7,9,10,11] s (λz6c0=>[(5,Qv z6c0),(1000,Ow 69 z6c0 z6)]) ?_ λa w s=>?_
   ·refine cm s I hz6 (λhb hm=>?_) (λhb hm=>?_)
    ·obtain ⟨x7,hx7,hm⟩:=bk hm;refine rg (ru 4 s λa w s=>sq s (Kb (t I) (t I)) I λa w s=>ru 1 s λa w s=>apd (α:=Ab) (k:=1000) s (t I) I (t I) hx7.e I I λc8 a w s=>ru 1 s λa w s=>nl ?_);obtain rfl:=si hm;exact ⟨c8,s.fi⟩
    ·refine wpIn_skip ?_;obtain rfl:=si hm;exact ⟨z1c0,s.fi⟩
   ·obtain ⟨z6c0,s⟩:=s;replace hm:=hkz6;refine R0 2 s λa w s=>?_;exact ⟨_,hm,⟨z6c0,s.fi⟩⟩
  ·refine wpIn_exit ?_;obtain rfl:=si hm;exact ⟨z1c0,s.fi⟩
 ·obtain ⟨o2sc0,s⟩:=s;refine R 2 s λa w s=>?_;obtain rfl:=si hm;refine fzk (α:=Ab) (k:=1000) hM s I λs=>?_;refine wpIn_ret ?_;exact rn hD s I (rv1 (ro (ta (k:=1000) (t I) I)))
def Mi (x1:(List Int)):Nat->Int->Option (Lo (Int) ((List Ab)×Int))
 | 0,_=>none
 | n+1,z3=>(bif (decide (z3 < (x1.length:Int))) then (idx x1 z3).bind λx5=>(bif ((decide (x5 < 0)) || (decide (x5>=(4:Int)))) then some (.ret (([]:List Ab),(1:Int))) else Mi x1 n (wr (z3 + 1))) else some (.brk z3))
def m112 (f:Nat) (v0:Ad) (v1:Ad):Option ((List Ab)×Int):=(bif (((v0.Ends.length:Int) != (v1.Ends.length:Int)) || (decide ((v0.Ends.length:Int) > 6))) then some (([]:List Ab),(8:Int)) else (m190 f ([v0.Ends,v1.Ends]:List (List Int))).bind λx1=>((Mi x1 f (0:Int)).bind λo4=>match o4 with | .brk o4s=>(m189 f v0 v1).bind λx6=>some (x6,(0:Int)) | .ret r=>some r))
theorem s112 (f:Nat) (v0:Ad) (v1:Ad) (r:(List Ab)×Int) (hm:m112 f v0 v1=some r):Sp Tryz.prog 112 [Va v0,Va v1] (T2 (Va r.1) (Va r.2)):=by
 unfold m112 at hm;refine ens func112 kr_ I ntmps112 I I λM W a hM hD s=>?_;refine R 4 s λa w s=>?_;refine se (R 13 s λa w s=>?_);refine cmf s hm (λhb hm=>?_) λhb hm=>?_
 ·refine R 2 s λa w s=>?_;cases hm;exact rU hD s I I
 ·refine se ?_;obtain ⟨x1,hx1,hm⟩:=bk hm;refine se (rg (ru 5 s λa w s=>sqz [1000] hM s (cc I (oc (t I) on) (s190 f _ _ hx1.e)) (λ_=>I) I I λy2 a w s=>ru 2 s λa w s=>nl ?_));refine lB hm [0,1,2,3,4,5,26,27,1000] s (λz3=>[(28,Va z3)]) s.fi (λ_=>I) (λo4 hko4 n z3 a w hm s=>?_) λo4s hm a w s=>?_
  ·unfold Mi at hm;refine R 1 s λa w s=>?_;refine se (cmt s hm (λhb hm=>?_) λhb hm=>?_)
   ·refine se (wpIn_block ?_);obtain ⟨x5,hx5,hm⟩:=bk hm;refine R 3 s λa w s=>?_;refine R 6 s λa w s=>?_;refine cmf s hm (λhb hm=>?_) λhb hm=>?_
    ·refine R 2 s λa w s=>?_;obtain rfl:=si hm;replace hm:=hko4;dsimp only at hm;cases hm;exact rU hD s I I
    ·refine R0 2 s λa w s=>?_;exact ⟨_,hm,s.fi⟩
   ·refine wpIn_exit ?_;exact ⟨_,(si hm).symm,s.fi⟩
  ·dsimp only at hm;refine se (rg (ru 2 s λa w s=>cB s hm (s189 f _ _) λx6 hm a w s=>ru 2 s λa w s=>nl ?_));cases hm;exact rU hD s I I
def Pb (f:Nat) (v0:Aa) (v1:Int):Nat->(Int×Ad×(List Ab)×Af)->Option (Lo (Int×Ad×(List Ab)×Af) ((List Ab)×Int))
 | 0,_=>none
 | n+1,z8=>(bif ((decide (z8.1 < 4096)) && (decide ((z8.2.2.1.length:Int) < v1))) then (m41 f v0 z8.2.1 z8.2.2.2).bind λx11=>(bif (x11.2.2 != 0) then some (.ret (([]:List Ab),x11.2.2)) else (m112 f z8.2.1 x11.1).bind λx13=>(bif (x13.2 != 0) then some (.ret (([]:List Ab),x13.2)) else (app z8.2.2.1 x13.1).bind λx14=>(m42 f v0 x11.1).bind λx16=>(bif (x16.1 != 0) then some (.ret (([]:List Ab),x16.1)) else (bif ((x16.2.length:Int) == 0) then some (.brk (z8.1,z8.2.1,x14,z8.2.2.2)) else (idx x16.2 (0:Int)).bind λx18=>Pb f v0 v1 n ((wr (z8.1 + 1)),x11.1,x14,x18))))) else some (.brk (z8.1,z8.2.1,z8.2.2.1,z8.2.2.2)))
def m83 (f:Nat) (v0:Aa) (v1:Int):Option ((List Ab)×Int):=(m144 f v0).bind λx1=>(bif (x1 != 0) then some (([]:List Ab),x1) else (bif ((v0.Inputs.length:Int) == 0) then some true else (idx v0.Inputs (0:Int)).bind λx2=>some (!(x2.toList == (⟨#[115,116,97,114,116]⟩:ByteArray).toList))).bind λr3=>(bif r3 then some (([]:List Ab),(6:Int)) else (bif ((decide (v1 < 0)) || (decide (v1 > 256))) then some (([]:List Ab),(2:Int)) else (m40 f v0).bind λx4=>(bif (x4.2.1 != 0) then some (([]:List Ab),x4.2.1) else ((Pb f v0 v1 f ((0:Int),x4.1,([]:List Ab),(⟨(2:Int),(0:Int),true⟩:Af))).bind λo9=>match o9 with | .brk o9s=>(lsl o9s.2.2.1 0 (if v1 < (o9s.2.2.1.length:Int) then v1 else (o9s.2.2.1.length:Int))).bind λx19=>some (x19,(0:Int)) | .ret r=>some r)))))
theorem s83 (f:Nat) (v0:Aa) (v1:Int) (r:(List Ab)×Int) (hm:m83 f v0 v1=some r):Sp Tryz.prog 83 [Va v0,Va v1] (T2 (Va r.1) (Va r.2)):=by
 unfold m83 at hm;refine ens func83 kr_ I ntmps83 I I λM W a hM hD s=>?_;refine R 3 s λa w s=>?_;refine se (se (rg (ru 1 s λa w s=>cB s hm (s144 f _) λx1 hm a w s=>ru 1 s λa w s=>nl ?_)));refine R 2 s λa w s=>?_;refine cmf s hm (λhb hm=>?_) λhb hm=>?_
 ·refine R 3 s λa w s=>?_;cases hm;exact rU hD s I I
 ·refine se (wpIn_block ?_);obtain ⟨r3,hr3,hm⟩:=bs hm;have gr3:=gF hr3;have er3:=gT hr3;obtain ⟨x2,hx2,gr3⟩:=gk gr3;have:=pko gr3 er3;refine se (rg (ru 9 s λa w s=>sg s I I (λhb=>(sne (tg I hb) cs)) I λa w s=>ru 2 s λa w s=>nl ?_));refine cM s hm (λhb hm=>?_) λhb hm=>?_
  ·refine R 2 s λa w s=>?_;cases hm;exact rU hD s I I
  ·refine R 7 s λa w s=>?_;refine cmf s hm (λhb hm=>?_) λhb hm=>?_
   ·refine R 2 s λa w s=>?_;cases hm;exact rU hD s I I
   ·obtain ⟨x4,hx4,hm⟩:=bk hm;refine se (rg (ru 1 s λa w s=>sqz [1000] hM s (cc I (oc (t I) on) (s40 f _ _ hx4.e)) (λ_=>I) I I λy5 a w s=>ru 4 s λa w s=>aR 1001 s λb6 a w s=>sW s I λw s=>ru 2 s λa w s=>nl ?_));refine se (R 2 s λa w s=>?_);refine cmf s hm (λhb hm=>?_) λhb hm=>?_
    ·refine R 3 s λa w s=>?_;cases hm;exact rU hD s I I
    ·refine R 1 s λa w s=>?_;refine se (rg (sq s (Sr ci cb) I λa w s=>sqb 1002 s (al (z:=(⟨(0:Int),(0:Int),false⟩:Af))) I I λb7 a w s=>sw (K:=1002) s (t I) I (t I) I λw s=>nl ?_));refine se (R 1 s λa w s=>?_);refine Gc (α:=Ab) (d:=10) 1003 69 s I I λc10 s=>?_;refine lB1 hm [0,1,2,4,5,6,7,9,11] s (λz8 z8c0=>[(10,Qv z8c0),(12,Va z8.1),(1001,Mg b6 z8.2.1),(1003,Ow 69 z8c0 z8.2.2.1),(1002,Mg b7 z8.2.2.2)]) ⟨c10,s.fi⟩ (λ_=>I) (λo9 hko9 n z8 a w hm s=>?_) λo9s hm a w s=>?_
     ·obtain ⟨z8c0,s⟩:=s;unfold Pb at hm;refine se (R 8 s λa w s=>?_);refine cmt s hm (λhb hm=>?_) λhb hm=>?_
      ·refine se (wpIn_block ?_);refine se (rg (ru 3 s λa w s=>cB s hm (s41 f _ _ _) λx11 hm a w s=>ru 4 s λa w s=>aR 1004 s λb12 a w s=>sW s I λw s=>ru 2 s λa w s=>nl ?_));refine se (R 2 s λa w s=>?_);refine cmf s hm (λhb hm=>?_) λhb hm=>?_
       ·refine R 3 s λa w s=>?_;obtain rfl:=si hm;replace hm:=hko9;dsimp only at hm;cases hm;exact rU hD s I I
       ·refine se (rg (ru 2 s λa w s=>cB s hm (s112 f _ _) λx13 hm a w s=>ru 5 s λa w s=>nl ?_));refine se (R 2 s λa w s=>?_);refine cmf s hm (λhb hm=>?_) λhb hm=>?_
        ·refine R 3 s λa w s=>?_;obtain rfl:=si hm;replace hm:=hko9;dsimp only at hm;cases hm;exact rU hD s I I
        ·obtain ⟨x14,hx14,hm⟩:=bk hm;refine se (rg (ru 2 s λa w s=>apd (α:=Ab) (k:=1003) s (t I) I (t I) hx14.e I I λc15 a w s=>ru 1 s λa w s=>nl ?_));obtain ⟨x16,hx16,hm⟩:=bk hm;refine se (rg (ru 2 s λa w s=>sqz [1005] hM s (cc I (oc (t I) (oc (t I) on)) (s42 f _ _ _ hx16.e)) (λ_=>I) I I λy17 a w s=>ru 5 s λa w s=>nl ?_));refine se (R 2 s λa w s=>?_);refine cmf s hm (λhb hm=>?_) λhb hm=>?_
         ·refine R 3 s λa w s=>?_;obtain rfl:=si hm;replace hm:=hko9;dsimp only at hm;cases hm;exact rU hD s I I
         ·refine se (R 3 s λa w s=>?_);refine cmf s hm (λhb hm=>?_) λhb hm=>?_
          ·refine wpIn_exit ?_;exact ⟨_,(si hm).symm,⟨c15,s.fi⟩⟩
          ·obtain ⟨x18,hx18,hm⟩:=bk hm;refine Bn [(17,Qv y17),(1005,Ow 86 y17 x16.2)] [0] [97] [] [99,98] [100,99,98] [(4,[]),(5,[100,99,98])] s (.skip (.skip (.late (.late (.late (.cons .nil I I (lm (K:=1004) (t I) I)) I I (mvq (t I))) I I (ixq (α:=Af) (k:=1005) (t I) I ci hx18.e)) I I (lq (k:=1005) (t I) I (Dz hx18.e))) I) I) kr_ kr_ I I (sw1 I (sw1 I sw0)) I (by decide) I I ?_;refine ⟨⟨λ_=>I,I,.inr ⟨(sw1 I (sw1 I sw0)),sb0,(sn2 I (sn2 I sn0))⟩⟩,by kernel_rfl,_,I,λΨ a w s=>sw (K:=1001) s (t I) I (t I) I λw s=>nl ?_⟩;refine nxt Ψ s ?_;refine ⟨⟨λ_=>I,I,.inr ⟨(sw1 I (sw1 I sw0)),sb0,(sn2 I (sn2 I sn0))⟩⟩,by kernel_rfl,_,I,λΨ a w s=>sw (K:=1002) s (t I) I (t I) I λw s=>nl ?_⟩;refine nxt Ψ s ?_;refine ⟨⟨λ_=>I,I,.inl I⟩,λa w s=>?_⟩;replace s:St M W 107 [(0,Va v0),(1,Va v1),(2,Pt v0),(4,Qv nz),(5,Va ((0:Int))),(6,Va x1),(7,Qv (pb b6 0)),(9,Va x4.2.1),(10,Qv c15),(11,Qv (pb b7 0)),(12,Va z8.1),(13,Qv (pb b12 0)),(15,Va x16.1),(16,Va x13.1),(17,Qv y17),(1001,Mg b6 x11.1),(1003,Ow 69 c15 x14),(1002,Mg b7 x18),(1004,Mg b12 x11.1),(1005,Ow 86 y17 x16.2)] a w:=s.pick [0,1,2,4,5,6,7,9,10,11,12,13,15,16,17,1001,1003,1002,1004,1005];refine R0 3 s λa w s=>?_;exact ⟨_,hm,⟨c15,s.fi⟩⟩
      ·refine wpIn_exit ?_;exact ⟨_,(si hm).symm,⟨z8c0,s.fi⟩⟩
     ·obtain ⟨o9sc0,s⟩:=s;dsimp only at hm;obtain ⟨x19,hx19,hm⟩:=bk hm;refine se (rg (ru 4 s λa w s=>sq s (mn (t I) (t I)) I λa w s=>fzk (α:=Ab) (k:=1003) hM s I λs=>sq s (ll0 (ta (k:=1003) (t I) I) (t I) hx19.e) I λa w s=>ru 2 s λa w s=>nl ?_));cases hm;exact rU hD s I I
def m230 (f:Nat) (v0:Int):Option (Expr):=some (⟨(1:Int),v0,([]:List Expr)⟩:Expr)
theorem s230 (f:Nat) (v0:Int) (r:Expr) (hm:m230 f v0=some r):Sp Tryz.prog 230 [Va v0] (Va r):=by
 unfold m230 at hm;refine ens func230 kr_ I ntmps230 I I λM W a hM hD s=>?_;refine se (rg (sqr 1000 s (alr (cs:=[(.int .i64 0),(.int .i64 0),nz]) (z:=.agg #[(.int .i64 0),(.int .i64 0),nz]) kr_ I I) I I λb1 a w s=>nl ?_));refine se (rg (ru 1 s λa w s=>sq s (Re ci (t I)) I λa w s=>sW s I λw s=>nl ?_));cases hm;exact rT hD s I I
instance {f:Nat} {v0:Int}:Cn Tryz.prog 230 (m230 f v0) [Va v0] (λr:Expr=>(Va r)):=⟨s230 f v0⟩
def m342 (f:Nat) (v0:Int):Option (ByteArray):=(bif (decide (v0 < 10)) then (ssl (⟨#[48,49,50,51,52,53,54,55,56,57,97,98,99,100,101,102,103,104,105,106,107,108,109,110,111,112,113,114,115,116,117,118,119,120,121,122]⟩:ByteArray) v0 (wr (v0 + 1))).bind λx1=>some x1 else (ssl (⟨#[48,48,48,49,48,50,48,51,48,52,48,53,48,54,48,55,48,56,48,57,49,48,49,49,49,50,49,51,49,52,49,53,49,54,49,55,49,56,49,57,50,48,50,49,50,50,50,51,50,52,50,53,50,54,50,55,50,56,50,57,51,48,51,49,51,50,51,51,51,52,51,53,51,54,51,55,51,56,51,57,52,48,52,49,52,50,52,51,52,52,52,53,52,54,52,55,52,56,52,57,53,48,53,49,53,50,53,51,53,52,53,53,53,54,53,55,53,56,53,57,54,48,54,49,54,50,54,51,54,52,54,53,54,54,54,55,54,56,54,57,55,48,55,49,55,50,55,51,55,52,55,53,55,54,55,55,55,56,55,57,56,48,56,49,56,50,56,51,56,52,56,53,56,54,56,55,56,56,56,57,57,48,57,49,57,50,57,51,57,52,57,53,57,54,57,55,57,56,57,57]⟩:ByteArray) (wr (v0 * 2)) (wr ((wr (v0 * 2)) + 2))).bind λx2=>some x2)
theorem s342 (f:Nat) (v0:Int) (r:ByteArray) (hm:m342 f v0=some r):Sp Tryz.prog 342 [Va v0] (Va r):=by
 unfold m342 at hm;refine ens func342 kr_ I ntmps342 I I λM W a hM hD s=>?_;refine R 1 s λa w s=>?_;refine se (R 2 s λa w s=>?_);refine cmf s hm (λhb hm=>?_) λhb hm=>?_
 ·obtain ⟨x1,hx1,hm⟩:=bk hm;refine se (rg (ru 3 s λa w s=>sq s (sl2 cs (t I) (t I) Tryz.underlying9 hx1.e) I λa w s=>ru 1 s λa w s=>nl ?_));cases hm;exact rT hD s I I
 ·obtain ⟨x2,hx2,hm⟩:=bk hm;refine se (rg (ru 5 s λa w s=>sq s (sl2 cs (t I) (t I) Tryz.underlying9 hx2.e) I λa w s=>ru 1 s λa w s=>nl ?_));cases hm;exact rT hD s I I
def Pi (f:Nat) (v0:Int) (v1:Int):Option (ByteArray):=(bif (v1 == 10) then (bif ((decide ((0:Int)<=v0)) && (decide (v0 < 100))) then (m342 f v0).bind λx1=>some x1 else none) else none)
theorem s323_1 (f:Nat) (v0:Int) (v1:Int) (r:ByteArray) (hm:Pi f v0 v1=some r):Sp Tryz.prog 323 [Va v0,Va v1] (Va r):=by
 unfold Pi at hm;refine ens func323 kr_ I ntmps323 I I λM W a hM hD s=>?_;refine R 1 s λa w s=>?_;refine se (R 2 s λa w s=>?_);refine cmf s hm (λhb hm=>?_) λhb hm=>?_
 ·refine se (R 6 s λa w s=>?_);refine cmf s hm (λhb hm=>?_) λhb hm=>?_
  ·refine se (rg (ru 1 s λa w s=>cB s hm (s342 f _) λx1 hm a w s=>ru 1 s λa w s=>nl ?_));cases hm;exact rT hD s I I
  ·cases hm
 ·cases hm
def m289 (f:Nat) (v0:Int):Option (ByteArray):=(Pi f v0 (10:Int)).bind λx1=>some x1
theorem s289 (f:Nat) (v0:Int) (r:ByteArray) (hm:m289 f v0=some r):Sp Tryz.prog 289 [Va v0] (Va r):=by
 unfold m289 at hm;refine ens func289 kr_ I ntmps289 I I λM W a hM hD s=>?_;refine R 1 s λa w s=>?_;obtain ⟨x1,hx1,hm⟩:=bk hm;refine se (rg (ru 1 s λa w s=>sq s (cc I (oc (t I) (oc ci on)) (s323_1 f _ _ _ hx1.e)) I λa w s=>ru 1 s λa w s=>nl ?_));cases hm;exact rT hD s I I
def m231 (f:Nat) (v0:Int):Option (ByteArray):=(m289 f v0).bind λx1=>some x1
theorem s231 (f:Nat) (v0:Int) (r:ByteArray) (hm:m231 f v0=some r):Sp Tryz.prog 231 [Va v0] (Va r):=by
 unfold m231 at hm;refine ens func231 kr_ I ntmps231 I I λM W a hM hD s=>?_;refine R 1 s λa w s=>?_;refine se (rg (ru 1 s λa w s=>cB s hm (s289 f _) λx1 hm a w s=>ru 1 s λa w s=>nl ?_));cases hm;exact rT hD s I I
def m226 (f:Nat) (v0:Int) (v1:List Expr):Option (Expr):=(bif ((v1.length:Int) == 1) then (idx v1 (0:Int)).bind λx2=>some x2 else some (⟨v0,(0:Int),v1⟩:Expr))
theorem s226 (f:Nat) (v0:Int) (v1:List Expr) (r:Expr) (hm:m226 f v0 v1=some r):Sp Tryz.prog 226 [Va v0,Va v1] (Va r):=by
 unfold m226 at hm;refine ens func226 kr_ I ntmps226 I I λM W a hM hD s=>?_;refine se (rg (sqr 1000 s (alr (cs:=[(.int .i64 0),(.int .i64 0),nz]) (z:=.agg #[(.int .i64 0),(.int .i64 0),nz]) kr_ I I) I I λb1 a w s=>nl ?_));refine se (R 3 s λa w s=>?_);refine cmf s hm (λhb hm=>?_) λhb hm=>?_
 ·refine se (rg (ru 1 s λa w s=>iB s hm λx2 hm a w s=>ru 1 s λa w s=>sW s I λw s=>nl ?_));cases hm;exact rT hD s I I
 ·refine se (rg (ru 2 s λa w s=>sq s (Lg (t I) (t I)) I λa w s=>sW s I λw s=>nl ?_));cases hm;exact rT hD s I I
instance {f:Nat} {v0:Int} {v1:List Expr}:Cn Tryz.prog 226 (m226 f v0 v1) [Va v0,Va v1] (λr:Expr=>(Va r)):=⟨s226 f v0 v1⟩
def m232 (f:Nat) (v0:Int) (v1:List Expr):Option (Expr):=(m230 f v0).bind λx2=>(app ([x2]:List Expr) v1).bind λx4=>(m226 f (3:Int) x4).bind λx6=>some x6
theorem s232 (f:Nat) (v0:Int) (v1:List Expr) (r:Expr) (hm:m232 f v0 v1=some r):Sp Tryz.prog 232 [Va v0,Va v1] (Va r):=by
 unfold m232 at hm;refine ens func232 kr_ I ntmps232 I I λM W a hM hD s=>?_;refine se (rg (sqr 1000 s (alr (cs:=[(.int .i64 0),(.int .i64 0),nz]) (z:=.agg #[(.int .i64 0),(.int .i64 0),nz]) kr_ I I) I I λb1 a w s=>nl ?_));obtain ⟨x2,hx2,hm⟩:=bk hm;obtain ⟨x4,hx4,hm⟩:=bk hm;obtain ⟨x6,hx6,hm⟩:=bk hm;refine se (rg (ru 2 s λa w s=>sqo 1001 s (bso (o1 (t I) o0) I I kr_) I I λc3 a w s=>ru 1 s λa w s=>apd (α:=Expr) (k:=1001) s (t I) I (t I) hx4.e I I λc5 a w s=>fzk (α:=Expr) (k:=1001) hM s I λs=>ru 1 s λa w s=>sW s I λw s=>nl ?_));cases hm;exact rT hD s I I
def Ep (v0:List Ab) (v1:Ab):Nat->Int->Option (Lo (Int) (Int))
 | 0,_=>none
 | n+1,z1=>(bif (decide (z1 < (v0.length:Int))) then (idx v0 z1).bind λx3=>(bif (Oa v1 x3) then some (.ret z1) else Ep v0 v1 n (wr (z1 + 1))) else some (.brk z1))
def m194 (f:Nat) (v0:List Ab) (v1:Ab):Option (Int):=((Ep v0 v1 f (0:Int)).bind λo2=>match o2 with | .brk o2s=>some (-1:Int) | .ret r=>some r)
theorem s194 (f:Nat) (v0:List Ab) (v1:Ab) (r:Int) (hm:m194 f v0 v1=some r):Sp Tryz.prog 194 [Va v0,Va v1] (Va r):=by
 unfold m194 at hm;refine ens func194 kr_ I ntmps194 I I λM W a hM hD s=>?_;refine R 2 s λa w s=>?_;refine se (R 3 s λa w s=>?_);refine lB hm [0,1,3,4,7] s (λz1=>[(8,Va z1)]) s.fi (λ_=>I) (λo2 hko2 n z1 a w hm s=>?_) λo2s hm a w s=>?_
 ·unfold Ep at hm;refine R 1 s λa w s=>?_;refine se (cmt s hm (λhb hm=>?_) λhb hm=>?_)
  ·refine se (wpIn_block ?_);refine R 2 s λa w s=>?_;obtain ⟨x3,hx3,hm⟩:=bk hm;refine se (Ef s (m:=6) (.cons (.cons (.cons (.cons (.cons (.cons .nil I (ld (t I))) I (mv (t I))) I (mv (t I))) I (ix (t I) (t I) hx3.e)) I (ld (t I))) I (seql (t I) (t I))) kr_ I I λa w s=>nl ?_);refine cmf s hm (λhb hm=>?_) λhb hm=>?_
   ·refine R 2 s λa w s=>?_;obtain rfl:=si hm;replace hm:=hko2;dsimp only at hm;cases hm;exact rT hD s I I
   ·refine R0 2 s λa w s=>?_;exact ⟨_,hm,s.fi⟩
  ·refine wpIn_exit ?_;exact ⟨_,(si hm).symm,s.fi⟩
 ·dsimp only at hm;refine R 1 s λa w s=>?_;cases hm;exact rT hD s I I
def m235 (f:Nat) (v0:List Ab) (v1:Ab):Option (Bool):=(m194 f v0 v1).bind λx1=>some (decide (x1>=(0:Int)))
theorem s235 (f:Nat) (v0:List Ab) (v1:Ab) (r:Bool) (hm:m235 f v0 v1=some r):Sp Tryz.prog 235 [Va v0,Va v1] (Va r):=by
 unfold m235 at hm;refine ens func235 kr_ I ntmps235 I I λM W a hM hD s=>?_;refine R 2 s λa w s=>?_;refine se (rg (ru 2 s λa w s=>cB s hm (s194 f _ _) λx1 hm a w s=>ru 2 s λa w s=>nl ?_));cases hm;exact rT hD s I I
def m291 (f:Nat) (v0:Int):Option (Bool):=some ((decide (v0>=(0:Int))) && (decide (v0 < 6)))
theorem s291 (f:Nat) (v0:Int) (r:Bool) (hm:m291 f v0=some r):Sp Tryz.prog 291 [Va v0] (Va r):=by
 unfold m291 at hm;refine ens func291 kr_ I ntmps291 I I λM W a hM hD s=>?_;refine R 1 s λa w s=>?_;refine R 7 s λa w s=>?_;cases hm;exact rT hD s I I
def En (f:Nat) (v0:Step):Nat->(Int×Int)->Option (Lo (Int×Int) (Int))
 | 0,_=>none
 | n+1,z1=>(bif (decide (z1.2 < (v0.Strokes.length:Int))) then (idx v0.Strokes z1.2).bind λx3=>(m291 f x3.Actuator).bind λx5=>(bif (!x5) then some (.ret (2:Int)) else (bif (x3.Actuator == z1.1) then some (.ret (7:Int)) else (bif (decide (x3.Actuator < z1.1)) then some (.ret (9:Int)) else En f v0 n (x3.Actuator,(wr (z1.2 + 1)))))) else some (.brk (z1.1,z1.2)))
def m238 (f:Nat) (v0:Step):Option (Int):=(bif ((v0.Strokes.length:Int) == 0) then some (13:Int) else (bif (decide ((v0.Strokes.length:Int) > 6)) then some (5:Int) else ((En f v0 f ((-1:Int),(0:Int))).bind λo2=>match o2 with | .brk o2s=>(bif ((decide (v0.Wait < 0)) || (decide (v0.Wait > 1000000))) then some (2:Int) else some (0:Int)) | .ret r=>some r)))
theorem s238 (f:Nat) (v0:Step) (r:Int) (hm:m238 f v0=some r):Sp Tryz.prog 238 [Va v0] (Va r):=by
 unfold m238 at hm;refine ens func238 kr_ I ntmps238 I I λM W a hM hD s=>?_;refine R 2 s λa w s=>?_;refine se (R 4 s λa w s=>?_);refine wpIn_block (R 3 s λa w s=>?_);refine cM s hm (λhb hm=>?_) λhb hm=>?_
 ·refine R 1 s λa w s=>?_;cases hm;exact rT hD s I I
 ·refine R 3 s λa w s=>?_;refine cmf s hm (λhb hm=>?_) λhb hm=>?_
  ·refine R 1 s λa w s=>?_;cases hm;exact rT hD s I I
  ·refine R 1 s λa w s=>?_;refine se (R 4 s λa w s=>?_);refine lB hm [0,1,2,3,17,18] s (λz1=>[(4,Va z1.1),(19,Va z1.2)]) s.fi (λ_=>I) (λo2 hko2 n z1 a w hm s=>?_) λo2s hm a w s=>?_
   ·unfold En at hm;refine R 1 s λa w s=>?_;refine se (cmt s hm (λhb hm=>?_) λhb hm=>?_)
    ·refine se (wpIn_block ?_);refine se (rg (iB s hm λx3 hm a w s=>ru 1 s λa w s=>sqb 1000 s (al (z:=(⟨(0:Int),false⟩:Ab))) I I λb4 a w s=>sw (K:=1000) s (t I) I (t I) I λw s=>nl ?_));refine se (wpIn_block ?_);refine se (rg (ru 2 s λa w s=>cB s hm (s291 f _) λx5 hm a w s=>ru 2 s λa w s=>nl ?_));refine cM s hm (λhb hm=>?_) λhb hm=>?_
     ·refine R 1 s λa w s=>?_;obtain rfl:=si hm;replace hm:=hko2;dsimp only at hm;cases hm;exact rT hD s I I
     ·refine R 5 s λa w s=>?_;refine cM s hm (λhb hm=>?_) λhb hm=>?_
      ·refine R 1 s λa w s=>?_;obtain rfl:=si hm;replace hm:=hko2;dsimp only at hm;cases hm;exact rT hD s I I
      ·refine R 5 s λa w s=>?_;refine cmf s hm (λhb hm=>?_) λhb hm=>?_
       ·refine R 1 s λa w s=>?_;obtain rfl:=si hm;replace hm:=hko2;dsimp only at hm;cases hm;exact rT hD s I I
       ·refine R0 3 s λa w s=>?_;refine R0 2 s λa w s=>?_;exact ⟨_,hm,s.fi⟩
    ·refine wpIn_exit ?_;exact ⟨_,(si hm).symm,s.fi⟩
   ·dsimp only at hm;refine se (R 8 s λa w s=>?_);refine cmf s hm (λhb hm=>?_) λhb hm=>?_
    ·refine R 1 s λa w s=>?_;cases hm;exact rT hD s I I
    ·refine R 1 s λa w s=>?_;cases hm;exact rT hD s I I
def Et (v1:Step) (v2:Ar6):Nat->Int->Option (Lo (Int) (Int))
 | 0,_=>none
 | n+1,z6=>(bif (decide (z6 < (v1.Strokes.length:Int))) then (idx v1.Strokes z6).bind λx8=>(idx (List.range 6) x8.Actuator).bind λx10=>(bif ((v2.at_ x10) == x8.Out) then some (.ret (14:Int)) else Et v1 v2 n (wr (z6 + 1))) else some (.brk z6))
def Eu (v0:Ah) (v1:Step):Nat->Int->Option (Lo (Int) (Int))
 | 0,_=>none
 | n+1,z2=>(bif (decide (z2 < (v1.Strokes.length:Int))) then (idx v1.Strokes z2).bind λx4=>(bif (decide (x4.Actuator>=v0.Actuators)) then some (.ret (6:Int)) else Eu v0 v1 n (wr (z2 + 1))) else some (.brk z2))
def m169 (f:Nat) (v0:Ah) (v1:Step) (v2:Ar6):Option (Int):=(m238 f v1).bind λx1=>(bif (x1 != 0) then some x1 else ((Eu v0 v1 f (0:Int)).bind λo3=>match o3 with | .brk o3s=>((Et v1 v2 f (0:Int)).bind λo7=>match o7 with | .brk o7s=>some (0:Int) | .ret r=>some r) | .ret r=>some r))
theorem s169 (f:Nat) (v0:Ah) (v1:Step) (v2:Ar6) (r:Int) (hm:m169 f v0 v1 v2=some r):Sp Tryz.prog 169 [Va v0,Va v1,Va v2] (Va r):=by
 unfold m169 at hm;refine ens func169 kr_ I ntmps169 I I λM W a hM hD s=>?_;refine R 4 s λa w s=>?_;refine se (se (rg (ru 1 s λa w s=>cB s hm (s238 f _) λx1 hm a w s=>ru 1 s λa w s=>nl ?_)));refine R 2 s λa w s=>?_;refine cmf s hm (λhb hm=>?_) λhb hm=>?_
 ·refine R 2 s λa w s=>?_;cases hm;exact rT hD s I I
 ·refine se (R 4 s λa w s=>?_);refine lB hm [0,1,2,3,4,5,6,7,18,19] s (λz2=>[(20,Va z2)]) s.fi (λ_=>I) (λo3 hko3 n z2 a w hm s=>?_) λo3s hm a w s=>?_
  ·unfold Eu at hm;refine R 1 s λa w s=>?_;refine se (cmt s hm (λhb hm=>?_) λhb hm=>?_)
   ·refine se (wpIn_block ?_);refine se (rg (iB s hm λx4 hm a w s=>ru 1 s λa w s=>sqb 1000 s (al (z:=(⟨(0:Int),false⟩:Ab))) I I λb5 a w s=>sw (K:=1000) s (t I) I (t I) I λw s=>nl ?_));refine R 5 s λa w s=>?_;refine cmf s hm (λhb hm=>?_) λhb hm=>?_
    ·refine R 1 s λa w s=>?_;obtain rfl:=si hm;replace hm:=hko3;dsimp only at hm;cases hm;exact rT hD s I I
    ·refine R0 2 s λa w s=>?_;exact ⟨_,hm,s.fi⟩
   ·refine wpIn_exit ?_;exact ⟨_,(si hm).symm,s.fi⟩
  ·dsimp only at hm;refine se (R 4 s λa w s=>?_);refine lB hm [0,1,2,3,4,5,6,7,18,19,20,31,32] s (λz6=>[(33,Va z6)]) s.fi (λ_=>I) (λo7 hko7 n z6 a w hm s=>?_) λo7s hm a w s=>?_
   ·unfold Et at hm;refine R 1 s λa w s=>?_;refine se (cmt s hm (λhb hm=>?_) λhb hm=>?_)
    ·refine se (wpIn_block ?_);refine se (rg (iB s hm λx8 hm a w s=>ru 1 s λa w s=>sqb 1001 s (al (z:=(⟨(0:Int),false⟩:Ab))) I I λb9 a w s=>sw (K:=1001) s (t I) I (t I) I λw s=>nl ?_));obtain ⟨x10,hx10,hm⟩:=bk hm;refine se (Ef s (m:=7) (.cons (.cons (.cons (.cons (.cons (.cons (.cons .nil I (fm_ (off:=0) (m:=0) (q:=0) (t I) kr_ I)) I (lf (K:=1001) (f:=Ab.Actuator) (t I) I)) I (iap (e:=4) (t I) (t I) kr_ kr_ hx10.e)) I (ld (t I))) I (fm_ (off:=1) (m:=0) (q:=1) (t I) kr_ I)) I (lf (K:=1001) (f:=Ab.Out) (t I) I)) I (beq (t I) (t I) Tryz.underlying4)) kr_ I I λa w s=>nl ?_);refine cmf s hm (λhb hm=>?_) λhb hm=>?_
     ·refine R 1 s λa w s=>?_;obtain rfl:=si hm;replace hm:=hko7;dsimp only at hm;cases hm;exact rT hD s I I
     ·refine R0 2 s λa w s=>?_;exact ⟨_,hm,s.fi⟩
    ·refine wpIn_exit ?_;exact ⟨_,(si hm).symm,s.fi⟩
   ·dsimp only at hm;refine R 1 s λa w s=>?_;cases hm;exact rT hD s I I
def Er (v1:Step):Nat->(Int×Ar6)->Option (Int×Ar6)
 | 0,_=>none
 | n+1,z3=>(bif (decide (z3.1 < (v1.Strokes.length:Int))) then (idx v1.Strokes z3.1).bind λx5=>(idx (List.range 6) x5.Actuator).bind λx7=>Er v1 n ((wr (z3.1 + 1)),(z3.2.put x7 x5.Out)) else some (z3.1,z3.2))
def m170 (f:Nat) (v0:Ar6) (v1:Step):Option (Ar6):=(Er v1 f ((0:Int),v0)).bind λo4s=>some o4s.2
theorem s170 (f:Nat) (v0:Ar6) (v1:Step) (r:Ar6) (hm:m170 f v0 v1=some r):Sp Tryz.prog 170 [Va v0,Va v1] (Va r):=by
 unfold m170 at hm;refine ens func170 kr_ I ntmps170 I I λM W a hM hD s=>?_;refine se (rg (sqb 1000 s (bxm (t I)) I I λb1 a w s=>ru 1 s λa w s=>sqb 1001 s (al (z:=Ar6.z)) I I λb2 a w s=>nl ?_));refine se (R 4 s λa w s=>?_);refine lA hm [0,1,2,3,4,8,9,1001] s (λz3=>[(10,Va z3.1),(1000,Mg b1 z3.2)]) s.fi (λ_=>I) (λo4s hko4 n z3 a w hm s=>?_) λo4s hm a w s=>?_
 ·unfold Er at hm;refine R 1 s λa w s=>?_;refine se (cmt s hm (λhb hm=>?_) λhb hm=>?_)
  ·refine se (wpIn_block ?_);refine se (rg (iB s hm λx5 hm a w s=>ru 1 s λa w s=>sqb 1002 s (al (z:=(⟨(0:Int),false⟩:Ab))) I I λb6 a w s=>sw (K:=1002) s (t I) I (t I) I λw s=>nl ?_));obtain ⟨x7,hx7,hm⟩:=bk hm;refine rg (ru 4 s λa w s=>sq s (iab (e:=4) (t I) (t I) kr_ kr_ hx7.e) I λa w s=>stA (K:=1000) s (t I) I (t I) (Sf hx7.e).1 λw s=>nl ?_);refine R0 2 s λa w s=>?_;exact ⟨_,hm,s.fi⟩
  ·refine wpIn_exit ?_;obtain rfl:=si hm;exact s.fi
 ·refine se (rg (ru 1 s λa w s=>sw (K:=1001) s (t I) I (t I) I λw s=>nl ?_));cases hm;exact rT hD s I I
def Em (v0:List Bool) (v1:Bool):Nat->Int->Option (Lo (Int) (Int))
 | 0,_=>none
 | n+1,z1=>(bif (decide (z1 < (v0.length:Int))) then (idx v0 z1).bind λx3=>(bif (v1 == x3) then some (.ret z1) else Em v0 v1 n (wr (z1 + 1))) else some (.brk z1))
def m239 (f:Nat) (v0:List Bool) (v1:Bool):Option (Int):=((Em v0 v1 f (0:Int)).bind λo2=>match o2 with | .brk o2s=>some (-1:Int) | .ret r=>some r)
theorem s239 (f:Nat) (v0:List Bool) (v1:Bool) (r:Int) (hm:m239 f v0 v1=some r):Sp Tryz.prog 239 [Va v0,Va v1] (Va r):=by
 unfold m239 at hm;refine ens func239 kr_ I ntmps239 I I λM W a hM hD s=>?_;refine R 1 s λa w s=>?_;refine se (R 3 s λa w s=>?_);refine lB hm [0,1,4,7] s (λz1=>[(8,Va z1)]) s.fi (λ_=>I) (λo2 hko2 n z1 a w hm s=>?_) λo2s hm a w s=>?_
 ·unfold Em at hm;refine R 1 s λa w s=>?_;refine se (cmt s hm (λhb hm=>?_) λhb hm=>?_)
  ·refine se (wpIn_block ?_);refine R 2 s λa w s=>?_;refine se (rg (ru 3 s λa w s=>iB s hm λx3 hm a w s=>ru 2 s λa w s=>nl ?_));refine cmf s hm (λhb hm=>?_) λhb hm=>?_
   ·refine R 2 s λa w s=>?_;obtain rfl:=si hm;replace hm:=hko2;dsimp only at hm;cases hm;exact rT hD s I I
   ·refine R0 2 s λa w s=>?_;exact ⟨_,hm,s.fi⟩
  ·refine wpIn_exit ?_;exact ⟨_,(si hm).symm,s.fi⟩
 ·dsimp only at hm;refine R 1 s λa w s=>?_;cases hm;exact rT hD s I I
def m171 (f:Nat) (v0:List Bool) (v1:Bool):Option (Bool):=(m239 f v0 v1).bind λx1=>some (decide (x1>=(0:Int)))
theorem s171 (f:Nat) (v0:List Bool) (v1:Bool) (r:Bool) (hm:m171 f v0 v1=some r):Sp Tryz.prog 171 [Va v0,Va v1] (Va r):=by
 unfold m171 at hm;refine ens func171 kr_ I ntmps171 I I λM W a hM hD s=>?_;refine R 1 s λa w s=>?_;refine se (rg (ru 2 s λa w s=>cB s hm (s239 f _ _) λx1 hm a w s=>ru 2 s λa w s=>nl ?_));cases hm;exact rT hD s I I
def Gm (x5:Step):Nat->(Int×Ar6)->Option (Int×Ar6)
 | 0,_=>none
 | n+1,z9=>(bif (decide (z9.1 < (x5.Strokes.length:Int))) then (idx x5.Strokes z9.1).bind λx11=>(idx (List.range 6) x11.Actuator).bind λx13=>Gm x5 n ((wr (z9.1 + 1)),(z9.2.put x13 true)) else some (z9.1,z9.2))
def Jh (f:Nat) (v0:Ah):Nat->(Int×Ar6×Ar6)->Option (Lo (Int×Ar6×Ar6) (Int))
 | 0,_=>none
 | n+1,z3=>(bif (decide (z3.1 < (v0.Steps.length:Int))) then (idx v0.Steps z3.1).bind λx5=>(m169 f v0 x5 z3.2.1).bind λx7=>(bif (x7 != 0) then some (.ret x7) else (m170 f z3.2.1 x5).bind λx8=>(Gm x5 f ((0:Int),z3.2.2)).bind λo10s=>Jh f v0 n ((wr (z3.1 + 1)),x8,o10s.2)) else some (.brk (z3.1,z3.2.1,z3.2.2)))
def m90 (f:Nat) (v0:Ah):Option (Int):=(bif ((decide (v0.Actuators < 1)) || (decide (v0.Actuators > 6))) then some (2:Int) else (bif ((v0.Steps.length:Int) == 0) then some (13:Int) else (bif (decide ((v0.Steps.length:Int) > 64)) then some (5:Int) else ((Jh f v0 f ((0:Int),Ar6.z,Ar6.z)).bind λo4=>match o4 with | .brk o4s=>(bif (!eqqA o4s.2.1 Ar6.z) then some (9:Int) else (lsl o4s.2.2.l 0 v0.Actuators).bind λx14=>(m171 f x14 false).bind λx15=>(bif x15 then some (13:Int) else some (0:Int))) | .ret r=>some r))))
theorem s90 (f:Nat) (v0:Ah) (r:Int) (hm:m90 f v0=some r):Sp Tryz.prog 90 [Va v0] (Va r):=by
 unfold m90 at hm;refine ens func90 kr_ I ntmps90 I I λM W a hM hD s=>?_;refine R 2 s λa w s=>?_;refine se (wpIn_block ?_);refine R 9 s λa w s=>?_;refine cM s hm (λhb hm=>?_) λhb hm=>?_
 ·refine R 1 s λa w s=>?_;cases hm;exact rT hD s I I
 ·refine R 5 s λa w s=>?_;refine cM s hm (λhb hm=>?_) λhb hm=>?_
  ·refine R 1 s λa w s=>?_;cases hm;exact rT hD s I I
  ·refine R 5 s λa w s=>?_;refine cmf s hm (λhb hm=>?_) λhb hm=>?_
   ·refine R 1 s λa w s=>?_;cases hm;exact rT hD s I I
   ·refine se (rg (sqb 1000 s (al (z:=Ar6.z)) I I λb1 a w s=>sqb 1001 s (al (z:=Ar6.z)) I I λb2 a w s=>nl ?_));refine se (R 4 s λa w s=>?_);refine lB hm [0,1,2,3,4,30,31] s (λz3=>[(32,Va z3.1),(1000,Mg b1 z3.2.1),(1001,Mg b2 z3.2.2)]) s.fi (λ_=>I) (λo4 hko4 n z3 a w hm s=>?_) λo4s hm a w s=>?_
    ·unfold Jh at hm;refine R 1 s λa w s=>?_;refine se (cmt s hm (λhb hm=>?_) λhb hm=>?_)
     ·refine se (wpIn_block ?_);refine se (rg (iB s hm λx5 hm a w s=>ru 1 s λa w s=>aR 1002 s λb6 a w s=>sW s I λw s=>nl ?_));refine se (se (rg (ru 3 s λa w s=>cB s hm (s169 f _ _ _) λx7 hm a w s=>ru 1 s λa w s=>nl ?_)));refine R 2 s λa w s=>?_;refine cmf s hm (λhb hm=>?_) λhb hm=>?_
      ·refine R 2 s λa w s=>?_;obtain rfl:=si hm;replace hm:=hko4;dsimp only at hm;cases hm;exact rT hD s I I
      ·refine se (rg (ru 2 s λa w s=>cB s hm (s170 f _ _) λx8 hm a w s=>sw (K:=1000) s (t I) I (t I) I λw s=>nl ?_));refine R 4 s λa w s=>?_;refine lA hm [0,1,2,3,4,6,7,30,31,32,47,48,1000,1002] s (λz9=>[(49,Va z9.1),(1001,Mg b2 z9.2)]) s.fi (λ_=>I) (λo10s hko10 n z9 a w hm s=>?_) λo10s hm a w s=>?_
       ·unfold Gm at hm;refine R 1 s λa w s=>?_;refine se (cmt s hm (λhb hm=>?_) λhb hm=>?_)
        ·refine se (wpIn_block ?_);refine se (rg (iB s hm λx11 hm a w s=>ru 1 s λa w s=>sqb 1003 s (al (z:=(⟨(0:Int),false⟩:Ab))) I I λb12 a w s=>sw (K:=1003) s (t I) I (t I) I λw s=>nl ?_));obtain ⟨x13,hx13,hm⟩:=bk hm;refine rg (ru 2 s λa w s=>sq s (iab (e:=4) (t I) (t I) kr_ kr_ hx13.e) I λa w s=>stA (K:=1001) s (t I) I cb (Sf hx13.e).1 λw s=>nl ?_);refine R0 2 s λa w s=>?_;exact ⟨_,hm,s.fi⟩
        ·refine wpIn_exit ?_;obtain rfl:=si hm;exact s.fi
       ·refine R0 2 s λa w s=>?_;exact ⟨_,hm,s.fi⟩
     ·refine wpIn_exit ?_;exact ⟨_,(si hm).symm,s.fi⟩
    ·dsimp only at hm;refine se (se (rg (ru 1 s λa w s=>sq s (bl6 (e:=4) kr_ kr_ kr_) I λa w s=>sq s (sneq (t I) (t I)) I λa w s=>nl ?_)));refine cmf s hm (λhb hm=>?_) λhb hm=>?_
     ·refine R 1 s λa w s=>?_;cases hm;exact rT hD s I I
     ·refine se ?_;obtain ⟨x14,hx14,hm⟩:=bk hm;refine se (rg (ru 2 s λa w s=>fzb (k:=1001) hM s I λs=>sq s (sl6 (e:=4) (ta (k:=1001) (t I) I) (t I) kr_ kr_ hx14.e) I λa w s=>cB s hm (s171 f _ _) λx15 hm a w s=>nl ?_));refine cmf s hm (λhb hm=>?_) λhb hm=>?_
      ·refine R 1 s λa w s=>?_;cases hm;exact rT hD s I I
      ·refine R 1 s λa w s=>?_;cases hm;exact rT hD s I I
def Fe (v0:Step):Nat->((Kd .u64)×Int)->Option ((Kd .u64)×Int)
 | 0,_=>none
 | n+1,z1=>(bif (decide (z1.2 < (v0.Strokes.length:Int))) then (idx v0.Strokes z1.2).bind λx3=>(idx (List.range 6) x3.Actuator).bind λx5=>Fe v0 n ((bitO z1.1 (bitV x5)),(wr (z1.2 + 1))) else some (z1.1,z1.2))
def m102 (f:Nat) (v0:Step):Option ((Kd .u64)):=(Fe v0 f ((⟨0⟩:Kd .u64),(0:Int))).bind λo2s=>some o2s.1
theorem s102 (f:Nat) (v0:Step) (r:(Kd .u64)) (hm:m102 f v0=some r):Sp Tryz.prog 102 [TV (Va v0)] (Va r):=by
 unfold m102 at hm;refine ens func102 kr_ I ntmps102 I I λM W a hM hD s=>?_;refine ntb (d:=0) 1990 s I I λs=>?_;refine se (rg (ru 1 s λa w s=>sq s (sa ckd) I λa w s=>nl ?_));refine se (rg (sq s (sa ckd) I λa w s=>nl ?_));refine se (R 4 s λa w s=>?_);refine lA hm [0,1,2,7,8,1990] s (λz1=>[(3,Va z1.1),(9,Va z1.2)]) s.fi (λ_=>I) (λo2s hko2 n z1 a w hm s=>?_) λo2s hm a w s=>?_
 ·unfold Fe at hm;refine R 1 s λa w s=>?_;refine se (cmt s hm (λhb hm=>?_) λhb hm=>?_)
  ·refine se (wpIn_block ?_);refine se (rg (iB s hm λx3 hm a w s=>ru 1 s λa w s=>sqb 1000 s (al (z:=(⟨(0:Int),false⟩:Ab))) I I λb4 a w s=>sw (K:=1000) s (t I) I (t I) I λw s=>nl ?_));obtain ⟨x5,hx5,hm⟩:=bk hm;refine rg (ru 3 s λa w s=>sq s (itb (K:=1990) (e:=174) I (t I) kr_ kr_ hx5.e) I λa w s=>ru 1 s λa w s=>sq s (ork (t I) (t I)) I λa w s=>ru 1 s λa w s=>nl ?_);refine R0 2 s λa w s=>?_;exact ⟨_,hm,s.fi⟩
  ·refine wpIn_exit ?_;obtain rfl:=si hm;exact s.fi
 ·refine R 2 s λa w s=>?_;cases hm;exact rT hD s I I
def Eq (f:Nat) (v0:Ah) (v1:Int) (v2:Int):Nat->((Kd .u64)×Int)->Option (Lo ((Kd .u64)×Int) ((Kd .u64)×Bool))
 | 0,_=>none
 | n+1,z1=>(bif (decide (z1.2 < v2)) then (rem (wr (v1 + z1.2)) (v0.Steps.length:Int)).bind λx3=>(idx v0.Steps x3).bind λx4=>(m102 f x4).bind λx5=>(bif (Ik.toI (Rf z1.1 x5) != Ik.toI (⟨0⟩:Kd .u64)) then some (.ret (z1.1,false)) else Eq f v0 v1 v2 n ((bitO z1.1 x5),(wr (z1.2 + 1)))) else some (.brk (z1.1,z1.2)))
def m177 (f:Nat) (v0:Ah) (v1:Int) (v2:Int):Option ((Kd .u64)×Bool):=((Eq f v0 v1 v2 f ((⟨0⟩:Kd .u64),(0:Int))).bind λo2=>match o2 with | .brk o2s=>some (o2s.1,true) | .ret r=>some r)
theorem s177 (f:Nat) (v0:Ah) (v1:Int) (v2:Int) (r:(Kd .u64)×Bool) (hm:m177 f v0 v1 v2=some r):Sp Tryz.prog 177 [TV (Va v0),Va v1,Va v2] (T2 (Va r.1) (Va r.2)):=by
 unfold m177 at hm;refine ens func177 kr_ I ntmps177 I I λM W a hM hD s=>?_;refine ntb (d:=0) 1990 s I I λs=>?_;refine se (rg (ru 1 s λa w s=>sq s (sa ckd) I λa w s=>ru 1 s λa w s=>nl ?_));refine se (rg (sq s (sa ckd) I λa w s=>nl ?_));refine se (R 2 s λa w s=>?_);refine lB hm [0,1,2,3,6,7,11,1990] s (λz1=>[(8,Va z1.1),(12,Va z1.2)]) s.fi (λ_=>I) (λo2 hko2 n z1 a w hm s=>?_) λo2s hm a w s=>?_
 ·unfold Eq at hm;refine R 1 s λa w s=>?_;refine se (cmt s hm (λhb hm=>?_) λhb hm=>?_)
  ·refine se (wpIn_block ?_);refine R 2 s λa w s=>?_;obtain ⟨x3,hx3,hm⟩:=bk hm;obtain ⟨x4,hx4,hm⟩:=bk hm;obtain ⟨x5,hx5,hm⟩:=bk hm;refine se (Ef s (m:=12) (.cons (.cons (.cons (.cons (.cons (.cons (.cons (.cons (.cons (.cons (.cons (.cons .nil I (fa (f:=Ah.Steps) (t I))) I (ld (t I))) I (mv (t I))) I (mv (t I))) I (ad (t I) (t I))) I (fa (f:=Ah.Steps) (t I))) I (ld (t I))) I (ln (t I))) I (rmd (t I) (t I) hx3.e)) I (ix (t I) (t I) hx4.e)) I (ld (t I))) I (cc I (oc (otb (k:=1990) (t I) I) on) (s102 f _ _ hx5.e))) kr_ I I λa w s=>sq s (sa (t I)) I λa w s=>nl ?_);refine se (se (rg (ru 2 s λa w s=>sq s (ank (t I) (t I)) I λa w s=>sq s (nek (t I) ckd) I λa w s=>nl ?_)));refine cmf s hm (λhb hm=>?_) λhb hm=>?_
   ·refine R 3 s λa w s=>?_;obtain rfl:=si hm;replace hm:=hko2;dsimp only at hm;cases hm;exact rU hD s I I
   ·refine rg (ru 2 s λa w s=>sq s (ork (t I) (t I)) I λa w s=>ru 1 s λa w s=>nl ?_);refine R0 2 s λa w s=>?_;exact ⟨_,hm,s.fi⟩
  ·refine wpIn_exit ?_;exact ⟨_,(si hm).symm,s.fi⟩
 ·dsimp only at hm;refine R 3 s λa w s=>?_;cases hm;exact rU hD s I I
def Dp (f:Nat) (v0:Ah) (v1:Int):Nat->(Int×Int×(List Int))->Option (Int×Int×(List Int))
 | 0,_=>none
 | n+1,z2=>(bif (decide (z2.2.1 < (v0.Steps.length:Int))) then (idx z2.2.2 (wr ((z2.2.2.length:Int) - 1))).bind λx4=>(m177 f v0 x4 (wr (z2.1 + 1))).bind λx5=>(bif (!x5.2) then (app z2.2.2 ([(wr (v1 + z2.2.1))]:List Int)).bind λx7=>some ((0:Int),x7) else some (z2.1,z2.2.2)).bind λz6=>Dp f v0 v1 n ((wr (z6.1 + 1)),(wr (z2.2.1 + 1)),z6.2) else some (z2.1,z2.2.1,z2.2.2))
def m99 (f:Nat) (v0:Ah) (v1:Int):Option ((List Int)):=(Dp f v0 v1 f ((0:Int),(0:Int),([v1]:List Int))).bind λo3s=>some o3s.2.2
theorem s99 (f:Nat) (v0:Ah) (v1:Int) (r:(List Int)) (hm:m99 f v0 v1=some r):Sp Tryz.prog 99 [TV (Va v0),Va v1] (Va r):=by
 unfold m99 at hm;refine ens func99 kr_ I ntmps99 I I λM W a hM hD s=>?_;refine ntb (d:=0) 1990 s I I λs=>?_;refine R 2 s λa w s=>?_;refine se (rg (ru 1 s λa w s=>sqo 1000 s (bso (o1 (t I) o0) I I kr_) I I λc1 a w s=>ru 1 s λa w s=>nl ?_));refine se (R 2 s λa w s=>?_);refine lA1 hm [0,1,2,4,1990] s (λz2 z2c0=>[(5,Qv z2c0),(6,Va z2.1),(7,Va z2.2.1),(1000,Ow 3 z2c0 z2.2.2)]) ⟨c1,s.fi⟩ (λ_=>I) (λo3s hko3 n z2 a w hm s=>?_) λo3s hm a w s=>?_
 ·obtain ⟨z2c0,s⟩:=s;unfold Dp at hm;refine se (R 5 s λa w s=>?_);refine cmt s hm (λhb hm=>?_) λhb hm=>?_
  ·refine se (wpIn_block ?_);refine se ?_;obtain ⟨x4,hx4,hm⟩:=bk hm;obtain ⟨x5,hx5,hm⟩:=bk hm;refine se (Bn [] [0,1,2,3,4,5,6,7,8,9,10,11] [20,21,22,23,24,25,26,27,28,29,19,30] [19] [] [31] [(13,[]),(14,[31])] s (.skip (.skip (.late (.cons (.cons (.cons (.cons (.cons (.cons (.cons (.cons (.cons (.cons (.cons (.cons .nil I I (ld (t I))) I I (mvq (t I))) I I (mvq (t I))) I I (lnq (α:=Int) (k:=1000) (t I) I)) I I (sb (t I) ci)) I I (ixq (α:=Int) (k:=1000) (t I) I (t I) hx4.e)) I I (lq (k:=1000) (t I) I (Dz hx4.e))) I I (mv (t I))) I I (ad (t I) ci)) I I (cc I (oc (otb (k:=1990) (t I) I) (oc (t I) (oc (t I) on))) (s177 f _ _ _ _ hx5.e))) I I (mve (t I))) I I (Pn.x20 (t I))) I I (Pn.x21 (t I))) I) I) kr_ kr_ I I sw0 I (by decide) I I ?_);refine ⟨⟨λ_=>I,I,.inr ⟨sw0,(sb1 I sb0),sn0⟩⟩,by kernel_rfl,_,I,λΨ a w s=>sq s (sa (t I)) I λa w s=>nl ?_⟩;refine nxt Ψ s ?_;refine ⟨⟨λ_=>I,I,.inr ⟨sw0,(sb1 I sb0),sn0⟩⟩,by kernel_rfl,_,I,λΨ a w s=>sq s (sa (t I)) I λa w s=>nl ?_⟩;refine nxt Ψ s ?_;refine ⟨⟨λ_=>I,I,.inl I⟩,λa w s=>?_⟩;replace s:St M W 43 [(0,Va v0),(1,Va v1),(2,Pt v0),(4,Qv nz),(5,Qv z2c0),(6,Va z2.1),(7,Va z2.2.1),(9,Va x5.2),(1000,Ow 3 z2c0 z2.2.2),(1990,TbT)] a w:=s.pick [0,1,2,4,5,6,7,9,1000,1990];refine R 2 s λa w s=>?_;obtain ⟨z6,hz6,hkz6⟩:=bs hm;refine cP1 [0,1,2,4,7,9,1990] s (λz6c0=>[(5,Qv z6c0),(6,Va z6.1),(1000,Ow 3 z6c0 z6.2)]) ?_ λa w s=>?_
   ·refine cm s I hz6 (λhb hm=>?_) (λhb hm=>?_)
    ·obtain ⟨x7,hx7,hm⟩:=bk hm;refine se (rg (ru 5 s λa w s=>apd (α:=Int) (k:=1000) s (t I) I (t I) hx7.e I I λc8 a w s=>ru 1 s λa w s=>nl ?_));refine R0 1 s λa w s=>?_;obtain rfl:=si hm;exact ⟨c8,s.fi⟩
    ·refine wpIn_skip ?_;obtain rfl:=si hm;exact ⟨z2c0,s.fi⟩
   ·obtain ⟨z6c0,s⟩:=s;replace hm:=hkz6;refine R0 3 s λa w s=>?_;refine R0 3 s λa w s=>?_;exact ⟨_,hm,⟨z6c0,s.fi⟩⟩
  ·refine wpIn_exit ?_;obtain rfl:=si hm;exact ⟨z2c0,s.fi⟩
 ·obtain ⟨o3sc0,s⟩:=s;refine R 2 s λa w s=>?_;obtain rfl:=si hm;refine fzk (α:=Int) (k:=1000) hM s I λs=>?_;refine wpIn_ret ?_;exact rn hD s I (rv1 (ro (ta (k:=1000) (t I) I)))
def m34 (f:Nat) (v0:Ah):Option ((List Int)×Int):=(m90 f v0).bind λx1=>(bif (x1 != 0) then some (([]:List Int),x1) else (m99 f v0 (0:Int)).bind λx2=>some (x2,(0:Int)))
theorem s34 (f:Nat) (v0:Ah) (r:(List Int)×Int) (hm:m34 f v0=some r):Sp Tryz.prog 34 [TV (Va v0)] (T2 (Va r.1) (Va r.2)):=by
 unfold m34 at hm;refine ens func34 kr_ I ntmps34 I I λM W a hM hD s=>?_;refine ntb (d:=0) 1990 s I I λs=>?_;refine R 3 s λa w s=>?_;refine se (se (rg (ru 1 s λa w s=>cB s hm (s90 f _) λx1 hm a w s=>ru 1 s λa w s=>nl ?_)));refine R 2 s λa w s=>?_;refine cmf s hm (λhb hm=>?_) λhb hm=>?_
 ·refine R 3 s λa w s=>?_;cases hm;exact rU hD s I I
 ·obtain ⟨x2,hx2,hm⟩:=bk hm;refine se (rg (ru 1 s λa w s=>sq s (cc I (oc (otb (k:=1990) (t I) I) (oc ci on)) (s99 f _ _ _ hx2.e)) I λa w s=>ru 2 s λa w s=>nl ?_));cases hm;exact rU hD s I I
def Hf :Nat->(Int×Int×(List Int))->Option (Int×Int×(List Int))
 | 0,_=>none
 | n+1,z1=>(bif (decide (z1.1 < z1.2.1)) then (idx z1.2.2 z1.2.1).bind λx3=>(idx z1.2.2 z1.1).bind λx4=>(idx z1.2.2 z1.1).bind λx5=>(idx (z1.2.2.set z1.1.toNat x3) z1.2.1).bind λx6=>Hf n ((wr (z1.1 + 1)),(wr (z1.2.1 - 1)),((z1.2.2.set z1.1.toNat x3).set z1.2.1.toNat x4)) else some (z1.1,z1.2.1,z1.2.2))
def Mz (f:Nat) (v0:List Int):Option ((List Int)):=(Hf f ((0:Int),(wr ((v0.length:Int) - 1)),v0)).bind λo2s=>some o2s.2.2
theorem s224_1 (f:Nat) (n0:Value) (v0:List Int) (r:(List Int)) (hm:Mz f v0=some r):Cg Tryz.prog 224 [Qv n0] [Ow 3 n0 v0] (Rz (λx:Unit=>Dd) (λx=>[Ow 3 n0 r])):=by
 unfold Mz at hm;refine eng func224 kr_ I ntmps224 I I λM W a hM hD s=>?_;refine R 5 s λa w s=>?_;refine lA hm [0] s (λz1=>[(2,Va z1.1),(3,Va z1.2.1),(1000,Ow 3 n0 z1.2.2)]) s.fi (λ_=>I) (λo2s hko2 n z1 a w hm s=>?_) λo2s hm a w s=>?_
 ·unfold Hf at hm;refine se (R 3 s λa w s=>?_);refine cmt s hm (λhb hm=>?_) λhb hm=>?_
  ·refine se (wpIn_block ?_);obtain ⟨x3,hx3,hm⟩:=bk hm;obtain ⟨x4,hx4,hm⟩:=bk hm;obtain ⟨x5,hx5,hm⟩:=bk hm;obtain ⟨x6,hx6,hm⟩:=bk hm;refine Bn [(0,Qv n0),(3,Va z1.2.1)] [0,1,4,5,6,7,8,9,10,11,12] [14,15,18,19,20,21,22,23,24,25,26] [] [] [17,16] [(13,[]),(14,[17,16]),(15,[])] s (.skip (.skip (.skip (.cons (.cons (.cons (.cons (.cons (.cons (.cons (.cons (.cons (.late (.late (.cons (.cons .nil I I (mvq (t I))) I I (mv (t I))) I I (mvq (t I))) I I (mv (t I))) I I (mvq (t I))) I I (mv (t I))) I I (ixq (α:=Int) (k:=1000) (t I) I (t I) hx3.e)) I I (lq (k:=1000) (t I) I (Dz hx3.e))) I I (mvq (t I))) I I (mv (t I))) I I (ixq (α:=Int) (k:=1000) (t I) I (t I) hx4.e)) I I (lq (k:=1000) (t I) I (Dz hx4.e))) I I (ixq (α:=Int) (k:=1000) (t I) I (t I) hx5.e)) I) I) I) kr_ kr_ I I (sw1 I (sw1 I sw0)) I (by decide) I I ?_;refine ⟨⟨λ_=>I,I,.inr ⟨(sw1 I (sw1 I sw0)),sb0,sn0⟩⟩,by kernel_rfl,_,I,λΨ a w s=>stq (k:=1000) s (t I) I (Dz hx5.e) (t I) λw s=>nl ?_⟩;refine nxt Ψ s ?_;refine ⟨⟨λ_=>I,I,.inr ⟨(sw1 I (sw1 I sw0)),sb0,sn0⟩⟩,by kernel_rfl,_,I,λΨ a w s=>sq s (ixq (α:=Int) (k:=1000) (t I) I (t I) hx6.e) I λa w s=>nl ?_⟩;refine nxt Ψ s ?_;refine ⟨⟨λ_=>I,I,.inl I⟩,by kernel_rfl,_,I,λΨ a w s=>stq (k:=1000) s (t I) I (Dz hx6.e) (t I) λw s=>nl ?_⟩;refine nxt Ψ s ?_;refine ⟨⟨λ_=>I,I,.inl I⟩,λa w s=>?_⟩;replace s:St M W 28 [(0,Qv n0),(2,Va z1.1),(3,Va z1.2.1),(1000,Ow 3 n0 (((z1.2.2.set z1.1.toNat x3).set z1.2.1.toNat x4)))] a w:=s.pick [0,2,3,1000];refine R0 6 s λa w s=>?_;exact ⟨_,hm,s.fi⟩
  ·refine wpIn_exit ?_;obtain rfl:=si hm;exact s.fi
 ·obtain rfl:=si hm;exact rze [1000] () hM hD s I rv0 (kc I kn) I
def Df (v2:List Step):Nat->(Int×Int×(List Int))->Option (Int×Int×(List Int))
 | 0,_=>none
 | n+1,z8=>(bif (decide (z8.2.1 < (v2.length:Int))) then (idx v2 z8.2.1).bind λx10=>(bif (x10.Wait == 0) then (app z8.2.2 ([(-1:Int)]:List Int)).bind λx12=>Df v2 n (z8.1,(wr (z8.2.1 + 1)),x12) else (app z8.2.2 ([z8.1]:List Int)).bind λx14=>Df v2 n ((wr (z8.1 + 1)),(wr (z8.2.1 + 1)),x14)) else some (z8.1,z8.2.1,z8.2.2))
def Ez (v0:Int) (v3:List Int):Nat->(Int×(List Int))->Option (Int×(List Int))
 | 0,_=>none
 | n+1,z1=>(bif (decide (z1.1 < (v3.length:Int))) then (app z1.2 ([(wr ((wr ((wr ((2:Int) * v0)) + 1)) + z1.1))]:List Int)).bind λx3=>Ez v0 v3 n ((wr (z1.1 + 1)),x3) else some (z1.1,z1.2))
def m157 (f:Nat) (v0:Int) (v1:Int) (v2:List Step) (v3:List Int) (v4:List Int) (v5:List Int) (v6:List Int) (v7:List ByteArray) (v8:List Ae) (v9:List Int) (v10:List Int):Option ((List Int)×(List Int)):=(Ez v0 v3 f ((0:Int),v4)).bind λo2s=>(bif ((v3.length:Int) == 2) then (Mz f o2s.2).bind λx6=>some x6 else some o2s.2).bind λz5=>(Df v2 f ((wr ((wr ((wr ((2:Int) * v0)) + 1)) + (v3.length:Int))),(0:Int),v5)).bind λo9s=>some (z5,o9s.2.2)
theorem s157 (f:Nat) (n0:Nat) (n1:Value) (n2:Value) (n3:Value) (n4:Value) (n5:Value) (n6:Value) (n7:Value) (n8:Value) (n9:Value) (v0:Int) (v1:Int) (v2:List Step) (v3:List Int) (v4:List Int) (v5:List Int) (v6:List Int) (v7:List ByteArray) (v8:List Ae) (v9:List Int) (v10:List Int) (r:(List Int)×(List Int)) (hm:m157 f v0 v1 v2 v3 v4 v5 v6 v7 v8 v9 v10=some r):Cg Tryz.prog 157 [Qv (pb n0 0)] [Mr n0 [(.int .i64 v0),n1,n2,n3,n4,n5,(.int .i64 v1),n6,n7,n8,n9],At n1 (Va v2),At n2 (Va v3),Ow 3 n3 v4,Ow 3 n4 v5,Ow 3 n5 v6,Ow 9 n6 v7,Ow 113 n7 v8,Ow 3 n8 v9,Ow 3 n9 v10] (Rz (λx:Value×Value=>Dd) (λx=>[Mr n0 [(.int .i64 v0),n1,n2,x.1,x.2,n5,(.int .i64 v1),n6,n7,n8,n9],At n1 (Va v2),At n2 (Va v3),Ow 3 x.1 r.1,Ow 3 x.2 r.2,Ow 3 n5 v6,Ow 9 n6 v7,Ow 113 n7 v8,Ow 3 n8 v9,Ow 3 n9 v10])):=by
 unfold m157 at hm;refine eng func157 kr_ I ntmps157 I I λM W a hM hD s=>?_;refine se (rg (ru 5 s λa w s=>sq s (ml ci (qi (t I))) I λa w s=>ru 2 s λa w s=>nl ?_));refine se (se (rg (ru 4 s λa w s=>sq s (ln (ta (k:=1002) (t I) I)) I λa w s=>ru 1 s λa w s=>nl ?_)));refine lA1 hm [0,2,18,1001,1002,1004,1005,1006,1007,1008,1009] s (λz1 z1c0=>[(19,Va z1.1),(1000,Mr n0 [(.int .i64 v0),n1,n2,z1c0,n4,n5,(.int .i64 v1),n6,n7,n8,n9]),(1003,Ow 3 z1c0 z1.2)]) ⟨n3,s.fi⟩ (λ_=>I) (λo2s hko2 n z1 a w hm s=>?_) λo2s hm a w s=>?_
 ·obtain ⟨z1c0,s⟩:=s;unfold Ez at hm;refine R 1 s λa w s=>?_;refine se (cmt s hm (λhb hm=>?_) λhb hm=>?_)
  ·refine se (wpIn_block ?_);refine R 2 s λa w s=>?_;obtain ⟨x3,hx3,hm⟩:=bk hm;refine rg (ru 9 s λa w s=>apd (α:=Int) (k:=1003) s (t I) I (t I) hx3.e I I λc4 a w s=>ru 2 s λa w s=>srq (K:=1000) (cs':=[(.int .i64 v0),n1,n2,c4,n4,n5,(.int .i64 v1),n6,n7,n8,n9]) s (t I) I (t I) kr_ (oco (k:=1003) I) I I λw s=>nl ?_);refine R0 2 s λa w s=>?_;exact ⟨_,hm,⟨c4,s.fi⟩⟩
  ·refine wpIn_exit ?_;obtain rfl:=si hm;exact ⟨z1c0,s.fi⟩
 ·obtain ⟨o2sc0,s⟩:=s;refine se (se (rg (ru 4 s λa w s=>sq s (ln (ta (k:=1002) (t I) I)) I λa w s=>ru 1 s λa w s=>nl ?_)));obtain ⟨z5,hz5,hkz5⟩:=bs hm;refine cP [0,2,18,19,1000,1001,1002,1004,1005,1006,1007,1008,1009] s [(1003,Ow 3 o2sc0 z5)] ?_ λa w s=>?_
  ·refine cm s I hz5 (λhb hm=>?_) (λhb hm=>?_)
   ·obtain ⟨x6,hx6,hm⟩:=bk hm;refine rg (ru 4 s λa w s=>cgv [1003] [1003] hM s qf I (oc (t I) on) vn vn (s224_1 f o2sc0 _ _ hx6.e) (kc I kn) I (λ_=>I) I I I λy7 a w s=>nl ?_);obtain rfl:=si hm;exact s.fi
   ·refine wpIn_skip ?_;obtain rfl:=si hm;exact s.fi
  ·replace hm:=hkz5;refine se (rg (ru 5 s λa w s=>sq s (ln (ta (k:=1002) (t I) I)) I λa w s=>ru 2 s λa w s=>nl ?_));refine se (rg (ru 5 s λa w s=>sq s (ln (ta (k:=1001) (t I) I)) I λa w s=>ru 1 s λa w s=>nl ?_));refine lA1 hm [0,2,18,19,57,58,1001,1002,1003,1005,1006,1007,1008,1009] s (λz8 z8c0=>[(4,Va z8.1),(59,Va z8.2.1),(1000,Mr n0 [(.int .i64 v0),n1,n2,o2sc0,z8c0,n5,(.int .i64 v1),n6,n7,n8,n9]),(1004,Ow 3 z8c0 z8.2.2)]) ⟨n4,s.fi⟩ (λ_=>I) (λo9s hko9 n z8 a w hm s=>?_) λo9s hm a w s=>?_
   ·obtain ⟨z8c0,s⟩:=s;unfold Df at hm;refine R 1 s λa w s=>?_;refine se (cmt s hm (λhb hm=>?_) λhb hm=>?_)
    ·refine se (wpIn_block ?_);obtain ⟨x10,hx10,hm⟩:=bk hm;refine se (rg (sq s (ix (ta (k:=1001) (t I) I) (t I) hx10.e) I λa w s=>ru 1 s λa w s=>aR 1011 s λb11 a w s=>sW s I λw s=>nl ?_));refine se (R 3 s λa w s=>?_);refine cmf s hm (λhb hm=>?_) λhb hm=>?_
     ·obtain ⟨x12,hx12,hm⟩:=bk hm;refine se (rg (ru 6 s λa w s=>apd (α:=Int) (k:=1004) s (t I) I (t I) hx12.e I I λc13 a w s=>ru 2 s λa w s=>srq (K:=1000) (cs':=[(.int .i64 v0),n1,n2,o2sc0,c13,n5,(.int .i64 v1),n6,n7,n8,n9]) s (t I) I (t I) kr_ (oco (k:=1004) I) I I λw s=>nl ?_));refine wpIn_exit ?_;refine R0 2 s λa w s=>?_;exact ⟨_,hm,⟨c13,s.fi⟩⟩
     ·obtain ⟨x14,hx14,hm⟩:=bk hm;refine se (rg (ru 7 s λa w s=>apd (α:=Int) (k:=1004) s (t I) I (t I) hx14.e I I λc15 a w s=>ru 2 s λa w s=>srq (K:=1000) (cs':=[(.int .i64 v0),n1,n2,o2sc0,c15,n5,(.int .i64 v1),n6,n7,n8,n9]) s (t I) I (t I) kr_ (oco (k:=1004) I) I I λw s=>nl ?_));refine R0 3 s λa w s=>?_;refine R0 2 s λa w s=>?_;exact ⟨_,hm,⟨c15,s.fi⟩⟩
    ·refine wpIn_exit ?_;obtain rfl:=si hm;exact ⟨z8c0,s.fi⟩
   ·obtain ⟨o9sc0,s⟩:=s;obtain rfl:=si hm;exact rze [1000,1001,1002,1003,1004,1005,1006,1007,1008,1009] (o2sc0,o9sc0) hM hD s I rv0 (k4 I I I I (k4 I I I I (k2 I I kn))) I
def m228 (f:Nat) (v0:Builder) (v1:Int):Option (Int):=(bif (decide ((wr (v1 + 1)) < (v0.division.length:Int))) then (idx v0.division (wr (v1 + 1))).bind λx1=>some (wr (x1 - 1)) else some (wr ((v0.s.Steps.length:Int) - 1)))
theorem s228 (f:Nat) (v0:Builder) (v1:Int) (r:Int) (hm:m228 f v0 v1=some r):Sp Tryz.prog 228 [Pt v0,Va v1] (Va r):=by
 unfold m228 at hm;refine ens func228 kr_ I ntmps228 I I λM W a hM hD s=>?_;refine R 1 s λa w s=>?_;refine se (se (rg (ru 2 s λa w s=>sq s (mp (t I)) I λa w s=>sq s (nk (t I)) I λa w s=>ru 4 s λa w s=>nl ?_)));refine cmf s hm (λhb hm=>?_) λhb hm=>?_
 ·refine se (rg (sq s (mp (t I)) I λa w s=>sq s (nk (t I)) I λa w s=>ru 4 s λa w s=>iB s hm λx1 hm a w s=>ru 3 s λa w s=>nl ?_));cases hm;exact rT hD s I I
 ·refine se (rg (sq s (mp (t I)) I λa w s=>sq s (nk (t I)) I λa w s=>ru 6 s λa w s=>nl ?_));cases hm;exact rT hD s I I
def Eo (f:Nat) (x1:Step):Nat->(Int×(List Expr))->Option (Int×(List Expr))
 | 0,_=>none
 | n+1,z2=>(bif (decide (z2.1 < (x1.Strokes.length:Int))) then (idx x1.Strokes z2.1).bind λx5=>(bif x5.Out then some (wr ((wr ((2:Int) * x5.Actuator)) + 1)) else some (wr ((2:Int) * x5.Actuator))).bind λz7=>(m230 f z7).bind λx8=>(app z2.2 ([x8]:List Expr)).bind λx9=>Eo f x1 n ((wr (z2.1 + 1)),x9) else some (z2.1,z2.2))
def m234 (f:Nat) (v0:Int) (v1:Int) (v2:Int) (v3:List Step) (v4:List Int) (v5:List Int) (v6:List Int) (v7:List Int) (v8:List ByteArray) (v9:List Ae) (v10:List Int) (v11:List Int):Option ((List Expr)):=(idx v3 v0).bind λx1=>(Eo f x1 f ((0:Int),([]:List Expr))).bind λo3s=>some o3s.2
theorem s234 (f:Nat) (n0:Nat) (n1:Value) (n2:Value) (n3:Value) (n4:Value) (n5:Value) (n6:Value) (n7:Value) (n8:Value) (n9:Value) (v0:Int) (v1:Int) (v2:Int) (v3:List Step) (v4:List Int) (v5:List Int) (v6:List Int) (v7:List Int) (v8:List ByteArray) (v9:List Ae) (v10:List Int) (v11:List Int) (r:(List Expr)) (hm:m234 f v0 v1 v2 v3 v4 v5 v6 v7 v8 v9 v10 v11=some r):Cg Tryz.prog 234 [Qv (pb n0 0),Va v0] [Mr n0 [(.int .i64 v1),n1,n2,n3,n4,n5,(.int .i64 v2),n6,n7,n8,n9],At n1 (Va v3),At n2 (Va v4),Ow 3 n3 v5,Ow 3 n4 v6,Ow 3 n5 v7,Ow 9 n6 v8,Ow 113 n7 v9,Ow 3 n8 v10,Ow 3 n9 v11] (Rz (λx:Unit=>Va r) (λx=>[Mr n0 [(.int .i64 v1),n1,n2,n3,n4,n5,(.int .i64 v2),n6,n7,n8,n9],At n1 (Va v3),At n2 (Va v4),Ow 3 n3 v5,Ow 3 n4 v6,Ow 3 n5 v7,Ow 9 n6 v8,Ow 113 n7 v9,Ow 3 n8 v10,Ow 3 n9 v11])):=by
 unfold m234 at hm;refine eng func234 kr_ I ntmps234 I I λM W a hM hD s=>?_;refine R 1 s λa w s=>?_;refine R 1 s λa w s=>?_;refine se ?_;obtain ⟨x1,hx1,hm⟩:=bk hm;refine se (rg (ru 6 s λa w s=>sq s (ix (ta (k:=1001) (t I) I) (t I) hx1.e) I λa w s=>ru 4 s λa w s=>nl ?_));refine Gc (α:=Expr) (d:=5) 1010 110 s I I λc4 s=>?_;refine lA1 hm [0,1,4,17,18,1000,1001,1002,1003,1004,1005,1006,1007,1008,1009] s (λz2 z2c0=>[(5,Qv z2c0),(19,Va z2.1),(1010,Ow 110 z2c0 z2.2)]) ⟨c4,s.fi⟩ (λ_=>I) (λo3s hko3 n z2 a w hm s=>?_) λo3s hm a w s=>?_
 ·obtain ⟨z2c0,s⟩:=s;unfold Eo at hm;refine R 1 s λa w s=>?_;refine se (cmt s hm (λhb hm=>?_) λhb hm=>?_)
  ·refine se (wpIn_block ?_);refine se (rg (iB s hm λx5 hm a w s=>ru 1 s λa w s=>sqb 1011 s (al (z:=(⟨(0:Int),false⟩:Ab))) I I λb6 a w s=>sw (K:=1011) s (t I) I (t I) I λw s=>nl ?_));refine R 4 s λa w s=>?_;refine se (R 2 s λa w s=>?_);obtain ⟨z7,hz7,hkz7⟩:=bs hm;refine cP [0,1,4,5,7,17,18,19,1000,1001,1002,1003,1004,1005,1006,1007,1008,1009,1010,1011] s [(8,Va z7)] ?_ λa w s=>?_
   ·refine cm s I hz7 (λhb hm=>?_) (λhb hm=>?_)
    ·refine R0 3 s λa w s=>?_;obtain rfl:=si hm;exact s.fi
    ·refine wpIn_skip ?_;obtain rfl:=si hm;exact s.fi
   ·replace hm:=hkz7;obtain ⟨x8,hx8,hm⟩:=bk hm;obtain ⟨x9,hx9,hm⟩:=bk hm;refine rg (ru 4 s λa w s=>apd (α:=Expr) (k:=1010) s (t I) I (t I) hx9.e I I λc10 a w s=>ru 1 s λa w s=>nl ?_);refine R0 2 s λa w s=>?_;exact ⟨_,hm,⟨c10,s.fi⟩⟩
  ·refine wpIn_exit ?_;obtain rfl:=si hm;exact ⟨z2c0,s.fi⟩
 ·obtain ⟨o3sc0,s⟩:=s;refine R 2 s λa w s=>?_;obtain rfl:=si hm;refine fzk (α:=Expr) (k:=1010) hM s I λs=>?_;refine wpIn_ret ?_;exact rz [1000,1001,1002,1003,1004,1005,1006,1007,1008,1009] () hM hD s I (rv1 (ro (ta (k:=1010) (t I) I))) (k4 I I I I (k4 I I I I (k2 I I kn))) I
def m227 (f:Nat) (v0:Int) (v1:Int) (v2:Int) (v3:List Step) (v4:List Int) (v5:List Int) (v6:List Int) (v7:List Int) (v8:List ByteArray) (v9:List Ae) (v10:List Int) (v11:List Int):Option ((List Expr)):=(idx v6 v0).bind λx1=>(bif (decide (x1>=(0:Int))) then (idx v6 v0).bind λx2=>(m230 f x2).bind λx3=>some ([x3]:List Expr) else (m234 f v0 v1 v2 v3 v4 v5 v6 v7 v8 v9 v10 v11).bind λx4=>some x4)
theorem s227 (f:Nat) (n0:Nat) (n1:Value) (n2:Value) (n3:Value) (n4:Value) (n5:Value) (n6:Value) (n7:Value) (n8:Value) (n9:Value) (v0:Int) (v1:Int) (v2:Int) (v3:List Step) (v4:List Int) (v5:List Int) (v6:List Int) (v7:List Int) (v8:List ByteArray) (v9:List Ae) (v10:List Int) (v11:List Int) (r:(List Expr)) (hm:m227 f v0 v1 v2 v3 v4 v5 v6 v7 v8 v9 v10 v11=some r):Cg Tryz.prog 227 [Qv (pb n0 0),Va v0] [Mr n0 [(.int .i64 v1),n1,n2,n3,n4,n5,(.int .i64 v2),n6,n7,n8,n9],At n1 (Va v3),At n2 (Va v4),Ow 3 n3 v5,Ow 3 n4 v6,Ow 3 n5 v7,Ow 9 n6 v8,Ow 113 n7 v9,Ow 3 n8 v10,Ow 3 n9 v11] (Rz (λx:Unit=>Va r) (λx=>[Mr n0 [(.int .i64 v1),n1,n2,n3,n4,n5,(.int .i64 v2),n6,n7,n8,n9],At n1 (Va v3),At n2 (Va v4),Ow 3 n3 v5,Ow 3 n4 v6,Ow 3 n5 v7,Ow 9 n6 v8,Ow 113 n7 v9,Ow 3 n8 v10,Ow 3 n9 v11])):=by
 unfold m227 at hm;refine eng func227 kr_ I ntmps227 I I λM W a hM hD s=>?_;refine R 1 s λa w s=>?_;refine se ?_;obtain ⟨x1,hx1,hm⟩:=bk hm;refine R 8 s λa w s=>?_;refine cmf s hm (λhb hm=>?_) λhb hm=>?_
 ·obtain ⟨x2,hx2,hm⟩:=bk hm;obtain ⟨x3,hx3,hm⟩:=bk hm;refine R 10 s λa w s=>?_;obtain rfl:=si hm;refine wpIn_ret ?_;exact rz [1000,1001,1002,1003,1004,1005,1006,1007,1008,1009] () hM hD s I (rv1 (rt I)) (k4 I I I I (k4 I I I I (k2 I I kn))) I
 ·obtain ⟨x4,hx4,hm⟩:=bk hm;refine se (rg (ru 2 s λa w s=>cgv [1000,1001,1002,1003,1004,1005,1006,1007,1008,1009] [1000,1001,1002,1003,1004,1005,1006,1007,1008,1009] hM s qf I (oc (t I) (oc (t I) on)) vn vn (s234 f n0 n1 n2 n3 n4 n5 n6 n7 n8 n9 _ _ _ _ _ _ _ _ _ _ _ _ _ hx4.e) (k4 I I I I (k4 I I I I (k2 I I kn))) I (λ_=>I) I I I λy5 a w s=>ru 1 s λa w s=>nl ?_));obtain rfl:=si hm;refine wpIn_ret ?_;exact rz [1000,1001,1002,1003,1004,1005,1006,1007,1008,1009] () hM hD s I (rv1 (rt I)) (k4 I I I I (k4 I I I I (k2 I I kn))) I
def m225 (f:Nat) (v0:Ae) (v1:Int) (v2:Int) (v3:List Step) (v4:List Int) (v5:List Int) (v6:List Int) (v7:List Int) (v8:List ByteArray) (v9:List Ae) (v10:List Int) (v11:List Int):Option (Int×(List Ae)):=(app v9 ([v0]:List Ae)).bind λx1=>some ((wr ((wr ((2:Int) * v1)) + (x1.length:Int))),x1)
theorem s225 (f:Nat) (n0:Nat) (n1:Value) (n2:Value) (n3:Value) (n4:Value) (n5:Value) (n6:Value) (n7:Value) (n8:Value) (n9:Value) (v0:Ae) (v1:Int) (v2:Int) (v3:List Step) (v4:List Int) (v5:List Int) (v6:List Int) (v7:List Int) (v8:List ByteArray) (v9:List Ae) (v10:List Int) (v11:List Int) (r:Int×(List Ae)) (hm:m225 f v0 v1 v2 v3 v4 v5 v6 v7 v8 v9 v10 v11=some r):Cg Tryz.prog 225 [Qv (pb n0 0),Va v0] [Mr n0 [(.int .i64 v1),n1,n2,n3,n4,n5,(.int .i64 v2),n6,n7,n8,n9],At n1 (Va v3),At n2 (Va v4),Ow 3 n3 v5,Ow 3 n4 v6,Ow 3 n5 v7,Ow 9 n6 v8,Ow 113 n7 v9,Ow 3 n8 v10,Ow 3 n9 v11] (Rz (λx:Value=>Va r.1) (λx=>[Mr n0 [(.int .i64 v1),n1,n2,n3,n4,n5,(.int .i64 v2),n6,x,n8,n9],At n1 (Va v3),At n2 (Va v4),Ow 3 n3 v5,Ow 3 n4 v6,Ow 3 n5 v7,Ow 9 n6 v8,Ow 113 x r.2,Ow 3 n8 v10,Ow 3 n9 v11])):=by
 unfold m225 at hm;refine eng func225 kr_ I ntmps225 I I λM W a hM hD s=>?_;refine R 2 s λa w s=>?_;obtain ⟨x1,hx1,hm⟩:=bk hm;refine se (Bn [(0,Qv (pb n0 0))] [1,2,3,4,5,6,7] [6,7,8,9,10,11,12] [] [] [5] [(8,[]),(9,[5]),(10,[]),(11,[]),(12,[])] s (.skip (.skip (.skip (.skip (.skip (.cons (.cons (.cons (.cons (.cons (.cons (.cons (.late .nil I I (mvq (t I))) I I (mvq (t I))) I I (nkq (t I))) I I (fm_ (off:=6) (m:=4) (q:=6) (t I) kr_ I)) I I (fm_ (off:=2) (m:=0) (q:=8) (t I) kr_ I)) I I (lrc (K:=1000) (List Ae) (t I) I I I I)) I I (ld (t I))) I I (bsv (o1 (t I) o0) I I kr_)) I) I) I) I) I) kr_ kr_ I I (sw1 I sw0) I (by decide) I I ?_);refine ⟨⟨λ_=>I,I,.inr ⟨(sw1 I sw0),sb0,sn0⟩⟩,by kernel_rfl,_,I,λΨ a w s=>apd (α:=Ae) (k:=1007) s (t I) I (t I) hx1.e I I λc2 a w s=>nl ?_⟩;refine nxt Ψ s ?_;refine ⟨⟨λ_=>I,I,.inr ⟨(sw1 I sw0),sb0,sn0⟩⟩,by kernel_rfl,_,I,λΨ a w s=>sq s (nkq (t I)) I λa w s=>nl ?_⟩;refine nxt Ψ s ?_;refine ⟨⟨λ_=>I,I,.inl I⟩,by kernel_rfl,_,I,λΨ a w s=>sq s (fm_ (off:=6) (m:=4) (q:=6) (t I) kr_ I) I λa w s=>nl ?_⟩;refine nxt Ψ s ?_;refine ⟨⟨λ_=>I,I,.inl I⟩,by kernel_rfl,_,I,λΨ a w s=>sq s (fm_ (off:=2) (m:=0) (q:=8) (t I) kr_ I) I λa w s=>nl ?_⟩;refine nxt Ψ s ?_;refine ⟨⟨λ_=>I,I,.inl I⟩,by kernel_rfl,_,I,λΨ a w s=>srq (K:=1000) (cs':=[(.int .i64 v1),n1,n2,n3,n4,n5,(.int .i64 v2),n6,c2,n8,n9]) s (t I) I (t I) kr_ (oco (k:=1007) I) I I λw s=>nl ?_⟩;refine nxt Ψ s ?_;refine ⟨⟨λ_=>I,I,.inl I⟩,λa w s=>?_⟩;replace s:St M W 30 [(0,Qv (pb n0 0)),(1,Va v0),(3,Pt v0),(4,Va ((0:Int))),(1000,Mr n0 [(.int .i64 v1),n1,n2,n3,n4,n5,(.int .i64 v2),n6,c2,n8,n9]),(1001,At n1 (Va v3)),(1002,At n2 (Va v4)),(1003,Ow 3 n3 v5),(1004,Ow 3 n4 v6),(1005,Ow 3 n5 v7),(1006,Ow 9 n6 v8),(1007,Ow 113 c2 x1),(1008,Ow 3 n8 v10),(1009,Ow 3 n9 v11)] a w:=s.pick [0,1,3,4,1000,1001,1002,1003,1004,1005,1006,1007,1008,1009];refine se (Ef s (m:=13) (.cons (.cons (.cons (.cons (.cons (.cons (.cons (.cons (.cons (.cons (.cons (.cons (.cons .nil I (mvq (t I))) I (nkq (t I))) I (fm_ (off:=0) (m:=1) (q:=0) (t I) kr_ I)) I (fm_ (off:=0) (m:=0) (q:=0) (t I) kr_ I)) I (lrc (K:=1000) Int (t I) I I I I)) I (ml ci (qi (t I)))) I (mvq (t I))) I (nkq (t I))) I (fm_ (off:=6) (m:=4) (q:=6) (t I) kr_ I)) I (fm_ (off:=2) (m:=0) (q:=8) (t I) kr_ I)) I (lrc (K:=1000) (List Ae) (t I) I I I I)) I (lnq (α:=Ae) (k:=1007) (t I) I)) I (ad (t I) (t I))) kr_ I I λa w s=>sq s (sa (t I)) I λa w s=>nl ?_);obtain rfl:=si hm;refine wpIn_ret ?_;exact rz [1000,1001,1002,1003,1004,1005,1006,1007,1008,1009] c2 hM hD s I (rv1 (rt I)) (k4 I I I I (k4 I I I I (k2 I I kn))) I
def m229 (f:Nat) (v0:ByteArray) (v1:Expr) (v2:Int) (v3:Int) (v4:List Step) (v5:List Int) (v6:List Int) (v7:List Int) (v8:List Int) (v9:List ByteArray) (v10:List Ae) (v11:List Int) (v12:List Int):Option (Int×(List Ae)):=(m225 f (⟨v0,(0:Int),v1,(⟨(0:Int),(0:Int),([]:List Expr)⟩:Expr),(0:Int),false⟩:Ae) v2 v3 v4 v5 v6 v7 v8 v9 v10 v11 v12).bind λx1=>some (x1.1,x1.2)
theorem s229 (f:Nat) (n0:Nat) (n1:Value) (n2:Value) (n3:Value) (n4:Value) (n5:Value) (n6:Value) (n7:Value) (n8:Value) (n9:Value) (v0:ByteArray) (v1:Expr) (v2:Int) (v3:Int) (v4:List Step) (v5:List Int) (v6:List Int) (v7:List Int) (v8:List Int) (v9:List ByteArray) (v10:List Ae) (v11:List Int) (v12:List Int) (r:Int×(List Ae)) (hm:m229 f v0 v1 v2 v3 v4 v5 v6 v7 v8 v9 v10 v11 v12=some r):Cg Tryz.prog 229 [Qv (pb n0 0),Va v0,Va v1] [Mr n0 [(.int .i64 v2),n1,n2,n3,n4,n5,(.int .i64 v3),n6,n7,n8,n9],At n1 (Va v4),At n2 (Va v5),Ow 3 n3 v6,Ow 3 n4 v7,Ow 3 n5 v8,Ow 9 n6 v9,Ow 113 n7 v10,Ow 3 n8 v11,Ow 3 n9 v12] (Rz (λx:Value=>Va r.1) (λx=>[Mr n0 [(.int .i64 v2),n1,n2,n3,n4,n5,(.int .i64 v3),n6,x,n8,n9],At n1 (Va v4),At n2 (Va v5),Ow 3 n3 v6,Ow 3 n4 v7,Ow 3 n5 v8,Ow 9 n6 v9,Ow 113 x r.2,Ow 3 n8 v11,Ow 3 n9 v12])):=by
 unfold m229 at hm;refine eng func229 kr_ I ntmps229 I I λM W a hM hD s=>?_;refine R 2 s λa w s=>?_;obtain ⟨x1,hx1,hm⟩:=bk hm;refine se (rg (ru 3 s λa w s=>sq s (Mu (t I) ci (t I)) I λa w s=>cgv [1000,1001,1002,1003,1004,1005,1006,1007,1008,1009] [1000,1001,1002,1003,1004,1005,1006,1007,1008,1009] hM s qf I (oc (t I) (oc (t I) on)) vn vn (s225 f n0 n1 n2 n3 n4 n5 n6 n7 n8 n9 _ _ _ _ _ _ _ _ _ _ _ _ _ hx1.e) (k4 I I I I (k4 I I I I (k2 I I kn))) I (λ_=>I) I I I λy2 a w s=>ru 1 s λa w s=>nl ?_));obtain rfl:=si hm;refine wpIn_ret ?_;exact rz [1000,1001,1002,1003,1004,1005,1006,1007,1008,1009] y2 hM hD s I (rv1 (rt I)) (k4 I I I I (k4 I I I I (k2 I I kn))) I
def Ey (f:Nat) (v0:Int) (v1:Int) (v2:List Step) (v3:List Int) (v4:List Int) (v5:List Int) (v6:List Int) (v7:List ByteArray) (v9:List Int) (v10:List Int):Nat->(Int×(List Ae))->Option (Int×(List Ae))
 | 0,_=>none
 | n+1,z14=>(bif (decide (z14.1 < (v3.length:Int))) then (rem (wr ((wr (z14.1 + (v3.length:Int))) - 1)) (v3.length:Int)).bind λx16=>(m231 f z14.1).bind λx17=>(cat (⟨#[103]⟩:ByteArray) x17).bind λx18=>(idx v4 x16).bind λx19=>(m228 f (⟨(⟨v0,v2⟩:Ah),v3,v4,v5,v6,(⟨v1,v7,z14.2,v9,v10⟩:Aa)⟩:Builder) x16).bind λx20=>(rem (wr (z14.1 + 1)) (v3.length:Int)).bind λx21=>(idx v4 x21).bind λx22=>(m227 f x20 v0 v1 v2 v3 v4 v5 v6 v7 z14.2 v9 v10).bind λx23=>(m232 f x19 x23).bind λx25=>(m230 f x22).bind λx26=>(m225 f (⟨x18,(1:Int),x25,x26,(0:Int),(z14.1 == 0)⟩:Ae) v0 v1 v2 v3 v4 v5 v6 v7 z14.2 v9 v10).bind λx27=>Ey f v0 v1 v2 v3 v4 v5 v6 v7 v9 v10 n ((wr (z14.1 + 1)),x27.2) else some (z14.1,z14.2))
def m158 (f:Nat) (v0:Int) (v1:Int) (v2:List Step) (v3:List Int) (v4:List Int) (v5:List Int) (v6:List Int) (v7:List ByteArray) (v8:List Ae) (v9:List Int) (v10:List Int):Option (Int×Int×(List Step)×(List Int)×(List Int)×(List Int)×(List Int)×(List ByteArray)×(List Ae)×(List Int)×(List Int)):=(bif ((v3.length:Int) == 2) then (m228 f (⟨(⟨v0,v2⟩:Ah),v3,v4,v5,v6,(⟨v1,v7,v8,v9,v10⟩:Aa)⟩:Builder) (0:Int)).bind λx1=>(m227 f x1 v0 v1 v2 v3 v4 v5 v6 v7 v8 v9 v10).bind λx2=>(m226 f (3:Int) x2).bind λx4=>(m228 f (⟨(⟨v0,v2⟩:Ah),v3,v4,v5,v6,(⟨v1,v7,v8,v9,v10⟩:Aa)⟩:Builder) (1:Int)).bind λx5=>(m227 f x5 v0 v1 v2 v3 v4 v5 v6 v7 v8 v9 v10).bind λx6=>(m226 f (3:Int) x6).bind λx8=>(m225 f (⟨(⟨#[103,49]⟩:ByteArray),(1:Int),x4,x8,(0:Int),false⟩:Ae) v0 v1 v2 v3 v4 v5 v6 v7 v8 v9 v10).bind λx9=>(m230 f x9.1).bind λx11=>(m229 f (⟨#[103,48]⟩:ByteArray) (⟨(2:Int),(0:Int),([x11]:List Expr)⟩:Expr) v0 v1 v2 v3 v4 v5 v6 v7 x9.2 v9 v10).bind λx12=>some (v0,v1,v2,v3,v4,v5,v6,v7,x12.2,v9,v10) else (Ey f v0 v1 v2 v3 v4 v5 v6 v7 v9 v10 f ((0:Int),v8)).bind λo15s=>some (v0,v1,v2,v3,v4,v5,v6,v7,o15s.2,v9,v10))
theorem s158 (f:Nat) (n0:Nat) (n1:Value) (n2:Value) (n3:Value) (n4:Value) (n5:Value) (n6:Value) (n7:Value) (n8:Value) (n9:Value) (v0:Int) (v1:Int) (v2:List Step) (v3:List Int) (v4:List Int) (v5:List Int) (v6:List Int) (v7:List ByteArray) (v8:List Ae) (v9:List Int) (v10:List Int) (r:Int×Int×(List Step)×(List Int)×(List Int)×(List Int)×(List Int)×(List ByteArray)×(List Ae)×(List Int)×(List Int)) (hm:m158 f v0 v1 v2 v3 v4 v5 v6 v7 v8 v9 v10=some r):Cg Tryz.prog 158 [Qv (pb n0 0)] [Mr n0 [(.int .i64 v0),n1,n2,n3,n4,n5,(.int .i64 v1),n6,n7,n8,n9],At n1 (Va v2),At n2 (Va v3),Ow 3 n3 v4,Ow 3 n4 v5,Ow 3 n5 v6,Ow 9 n6 v7,Ow 113 n7 v8,Ow 3 n8 v9,Ow 3 n9 v10] (Rz (λx:Value×Value×Value×Value×Value×Value×Value=>Dd) (λx=>[Mr n0 [(.int .i64 r.1),n1,n2,x.1,x.2.1,x.2.2.1,(.int .i64 r.2.1),x.2.2.2.1,x.2.2.2.2.1,x.2.2.2.2.2.1,x.2.2.2.2.2.2],At n1 (Va r.2.2.1),At n2 (Va r.2.2.2.1),Ow 3 x.1 r.2.2.2.2.1,Ow 3 x.2.1 r.2.2.2.2.2.1,Ow 3 x.2.2.1 r.2.2.2.2.2.2.1,Ow 9 x.2.2.2.1 r.2.2.2.2.2.2.2.1,Ow 113 x.2.2.2.2.1 r.2.2.2.2.2.2.2.2.1,Ow 3 x.2.2.2.2.2.1 r.2.2.2.2.2.2.2.2.2.1,Ow 3 x.2.2.2.2.2.2 r.2.2.2.2.2.2.2.2.2.2])):=by
 unfold m158 at hm;refine eng func158 kr_ I ntmps158 I I λM W a hM hD s=>?_;refine se (rg (ru 4 s λa w s=>sq s (ln (ta (k:=1002) (t I) I)) I λa w s=>ru 1 s λa w s=>nl ?_));refine se (R 2 s λa w s=>?_);refine cmf s hm (λhb hm=>?_) λhb hm=>?_
 ·obtain ⟨x1,hx1,hm⟩:=bk hm;obtain ⟨x2,hx2,hm⟩:=bk hm;obtain ⟨x4,hx4,hm⟩:=bk hm;obtain ⟨x5,hx5,hm⟩:=bk hm;obtain ⟨x6,hx6,hm⟩:=bk hm;obtain ⟨x8,hx8,hm⟩:=bk hm;obtain ⟨x9,hx9,hm⟩:=bk hm;refine se (rg (ru 3 s λa w s=>sq s (tfg (k:=1009) fl1 I (tfg (k:=1008) fl1 I (tfg (k:=1007) fl1 I (tfg (k:=1006) fl1 I (tfg (k:=1005) fl1 I (tfg (k:=1004) fl1 I (tfg (k:=1003) fl1 I (tfm (k:=1000) (x:=(⟨(⟨v0,v2⟩:Ah),v3,v4,v5,v6,(⟨v1,v7,v8,v9,v10⟩:Aa)⟩:Builder)) fl1 I (Kn (l:=([(.int .i64 v0),n1],[n2],[n3],[n4],[n5],[(.int .i64 v1),n6,n7,n8,n9])) (Oh (l:=([(.int .i64 v0)],[n1])) rpi (rpz (k:=1001) I)) (rpz (k:=1002) I) (rpz (k:=1003) I) (rpz (k:=1004) I) (rpz (k:=1005) I) (Jp (l:=([(.int .i64 v1)],[n6],[n7],[n8],[n9])) rpi (rpz (k:=1006) I) (rpz (k:=1007) I) (rpz (k:=1008) I) (rpz (k:=1009) I))) (cc I (oc (ta (k:=1000) (t I) I) (oc ci on)) (s228 f _ _ _ hx1.e)))))))))) I λa w s=>cgv [1000,1001,1002,1003,1004,1005,1006,1007,1008,1009] [1000,1001,1002,1003,1004,1005,1006,1007,1008,1009] hM s qf I (oc (t I) (oc (t I) on)) vn vn (s227 f n0 n1 n2 n3 n4 n5 n6 n7 n8 n9 _ _ _ _ _ _ _ _ _ _ _ _ _ hx2.e) (k4 I I I I (k4 I I I I (k2 I I kn))) I (λ_=>I) I I I λy3 a w s=>ru 3 s λa w s=>sq s (tfg (k:=1009) fl1 I (tfg (k:=1008) fl1 I (tfg (k:=1007) fl1 I (tfg (k:=1006) fl1 I (tfg (k:=1005) fl1 I (tfg (k:=1004) fl1 I (tfg (k:=1003) fl1 I (tfm (k:=1000) (x:=(⟨(⟨v0,v2⟩:Ah),v3,v4,v5,v6,(⟨v1,v7,v8,v9,v10⟩:Aa)⟩:Builder)) fl1 I (Kn (l:=([(.int .i64 v0),n1],[n2],[n3],[n4],[n5],[(.int .i64 v1),n6,n7,n8,n9])) (Oh (l:=([(.int .i64 v0)],[n1])) rpi (rpz (k:=1001) I)) (rpz (k:=1002) I) (rpz (k:=1003) I) (rpz (k:=1004) I) (rpz (k:=1005) I) (Jp (l:=([(.int .i64 v1)],[n6],[n7],[n8],[n9])) rpi (rpz (k:=1006) I) (rpz (k:=1007) I) (rpz (k:=1008) I) (rpz (k:=1009) I))) (cc I (oc (ta (k:=1000) (t I) I) (oc ci on)) (s228 f _ _ _ hx5.e)))))))))) I λa w s=>cgv [1000,1001,1002,1003,1004,1005,1006,1007,1008,1009] [1000,1001,1002,1003,1004,1005,1006,1007,1008,1009] hM s qf I (oc (t I) (oc (t I) on)) vn vn (s227 f n0 n1 n2 n3 n4 n5 n6 n7 n8 n9 _ _ _ _ _ _ _ _ _ _ _ _ _ hx6.e) (k4 I I I I (k4 I I I I (k2 I I kn))) I (λ_=>I) I I I λy7 a w s=>ru 1 s λa w s=>sq s (Kh cs ci (t I) (t I)) I λa w s=>cgv [1000,1001,1002,1003,1004,1005,1006,1007,1008,1009] [1000,1001,1002,1003,1004,1005,1006,1007,1008,1009] hM s qf I (oc (t I) (oc (t I) on)) vn vn (s225 f n0 n1 n2 n3 n4 n5 n6 n7 n8 n9 _ _ _ _ _ _ _ _ _ _ _ _ _ hx9.e) (k4 I I I I (k4 I I I I (k2 I I kn))) I (λ_=>I) I I I λy10 a w s=>ru 1 s λa w s=>nl ?_));obtain ⟨x11,hx11,hm⟩:=bk hm;obtain ⟨x12,hx12,hm⟩:=bk hm;refine se (rg (ru 4 s λa w s=>sq s (Lg ci (t I)) I λa w s=>cgv [1000,1001,1002,1003,1004,1005,1006,1007,1008,1009] [1000,1001,1002,1003,1004,1005,1006,1007,1008,1009] hM s qf I (oc (t I) (oc cs (oc (t I) on))) vn vn (s229 f n0 n1 n2 n3 n4 n5 n6 y10 n8 n9 _ _ _ _ _ _ _ _ _ _ _ _ _ _ hx12.e) (k4 I I I I (k4 I I I I (k2 I I kn))) I (λ_=>I) I I I λy13 a w s=>nl ?_))
  obtain rfl:=si hm;refine wpIn_ret ?_;exact rz [1000,1001,1002,1003,1004,1005,1006,1007,1008,1009] (n3,n4,n5,n6,y13,n8,n9) hM hD s I rv0 (k4 I I I I (k4 I I I I (k2 I I kn))) I
 ·refine R 2 s λa w s=>?_;refine lA1 hm [0,2,32,1001,1002,1003,1004,1005,1006,1008,1009] s (λz14 z14c0=>[(33,Va z14.1),(1000,Mr n0 [(.int .i64 v0),n1,n2,n3,n4,n5,(.int .i64 v1),n6,z14c0,n8,n9]),(1007,Ow 113 z14c0 z14.2)]) ⟨n7,s.fi⟩ (λ_=>I) (λo15s hko15 n z14 a w hm s=>?_) λo15s hm a w s=>?_
  ·obtain ⟨z14c0,s⟩:=s;unfold Ey at hm;refine R 1 s λa w s=>?_;refine se (cmt s hm (λhb hm=>?_) λhb hm=>?_)
   ·refine se (wpIn_block ?_);refine R 2 s λa w s=>?_;obtain ⟨x16,hx16,hm⟩:=bk hm;refine se (rg (ru 5 s λa w s=>sq s (rmd (t I) (t I) hx16.e) I λa w s=>ru 1 s λa w s=>nl ?_));obtain ⟨x17,hx17,hm⟩:=bk hm;obtain ⟨x18,hx18,hm⟩:=bk hm;obtain ⟨x19,hx19,hm⟩:=bk hm;obtain ⟨x20,hx20,hm⟩:=bk hm;obtain ⟨x21,hx21,hm⟩:=bk hm;obtain ⟨x22,hx22,hm⟩:=bk hm;obtain ⟨x23,hx23,hm⟩:=bk hm;obtain ⟨x25,hx25,hm⟩:=bk hm;obtain ⟨x26,hx26,hm⟩:=bk hm;obtain ⟨x27,hx27,hm⟩:=bk hm;refine Bn [(0,Qv (pb n0 0)),(2,Va ((v3.length:Int))),(4,Va z14.1),(5,Va x16),(1003,Ow 3 n3 v4),(1900,Rdc n0 3 n3),(1901,Rdc n0 3 n3)] [1,2,11,12,13,14] [43,44,53,54,55,56] [44] [70,67,66,65,64,63,62,61,60,59,51,50,49,48,47,46] [71,70,68,67,66,65,64,63,62,61,60,59,52,51,50,49,48,47,46,45,42] [(15,[]),(16,[52,51,50,49,48,47,46]),(27,[68,67,66,65,64,63,62,61,60,59]),(30,[71,70,45]),(31,[42])] s (.skip (.skip (.late (.late (.skip (.late (.late (.late (.late (.late (.late (.late (.late (.late (.late (.skip (.skip (.cons (.cons (.cons (.cons (.late (.late (.late (.late (.late (.late (.late (.late (.cons (.cons (.late .nil I I (mvq (t I))) I I (mv (t I))) I I (cc I (oc (t I) on) (s231 f _ _ hx17.e))) I I (ct cs (t I) hx18.e)) I I (mvq (t I))) I I (nkq (t I))) I I (fm_ (off:=3) (m:=0) (q:=3) (t I) kr_ I)) I I (lrd (K:=1900) (t I) I kr_)) I I (mv (t I))) I I (ixq (α:=Int) (k:=1003) (t I) I (t I) hx19.e)) I I (lq (k:=1003) (t I) I (Dz hx19.e))) I I (mvq (t I))) I I (mvq (t I))) I I (mv (t I))) I I (tfg (k:=1009) fl1 I (tfg (k:=1008) fl1 I (tfg (k:=1007) fl1 I (tfg (k:=1006) fl1 I (tfg (k:=1005) fl1 I (tfg (k:=1004) fl1 I (tfg (k:=1003) fl1 I (tfm (k:=1000) (x:=(⟨(⟨v0,v2⟩:Ah),v3,v4,v5,v6,(⟨v1,v7,z14.2,v9,v10⟩:Aa)⟩:Builder)) fl1 I (Kn (l:=([(.int .i64 v0),n1],[n2],[n3],[n4],[n5],[(.int .i64 v1),n6,z14c0,n8,n9])) (Oh (l:=([(.int .i64 v0)],[n1])) rpi (rpz (k:=1001) I)) (rpz (k:=1002) I) (rpz (k:=1003) I) (rpz (k:=1004) I) (rpz (k:=1005) I) (Jp (l:=([(.int .i64 v1)],[n6],[z14c0],[n8],[n9])) rpi (rpz (k:=1006) I) (rpz (k:=1007) I) (rpz (k:=1008) I) (rpz (k:=1009) I))) (cc I (oc (ta (k:=1000) (t I) I) (oc (t I) on)) (s228 f _ _ _ hx20.e))))))))))) I) I) I I (mvq (t I))) I I (nkq (t I))) I I (fm_ (off:=3) (m:=0) (q:=3) (t I) kr_ I)) I I (lrd (K:=1901) (t I) I kr_)) I I (mv (t I))) I I (ad (t I) ci)) I I (mv (t I))) I I (rmd (t I) (t I) hx21.e)) I I (ixq (α:=Int) (k:=1003) (t I) I (t I) hx22.e)) I I (lq (k:=1003) (t I) I (Dz hx22.e))) I) I I (mv (t I))) I I (eq (t I) ci)) I) I) kr_ kr_ I I (sw1 I (sw1 I (sw1 I (sw1 I (sw1 I (sw2 (K:=1000) I I (sw2 (K:=1000) I I sw0))))))) I (by decide) I I ?_;refine ⟨⟨λ_=>I,I,.inr ⟨(sw1 I (sw1 I (sw1 I (sw1 I (sw1 I (sw2 (K:=1000) I I (sw2 (K:=1000) I I sw0))))))),(sb1 I sb0),(sn2 I (sn2 I (sn2 I (sn2 I (sn2 I (sn2 I (sn2 I (sn2 I (sn2 I (sn2 I (sn2 I (sn2 I (sn2 I (sn2 I (sn2 I (sn2 I sn0))))))))))))))))⟩⟩,by kernel_rfl,_,I,λΨ a w s=>cgv [1000,1001,1002,1003,1004,1005,1006,1007,1008,1009] [1000,1001,1002,1003,1004,1005,1006,1007,1008,1009] hM s qf I (oc (t I) (oc (t I) on)) vn vn (s227 f n0 n1 n2 n3 n4 n5 n6 z14c0 n8 n9 _ _ _ _ _ _ _ _ _ _ _ _ _ hx23.e) (k4 I I I I (k4 I I I I (k2 I I kn))) I (λ_=>I) I I I λy24 a w s=>nl ?_⟩
    refine nxt Ψ s ?_;refine ⟨⟨λ_=>I,I,.inr ⟨(sw1 I (sw1 I (sw1 I (sw1 I (sw1 I (sw2 (K:=1000) I I (sw2 (K:=1000) I I sw0))))))),(sb1 I sb0),(sn2 I (sn2 I (sn2 I (sn2 I (sn2 I (sn2 I (sn2 I (sn2 I (sn2 I (sn2 I (sn2 I (sn2 I (sn2 I (sn2 I (sn2 I (sn2 I sn0))))))))))))))))⟩⟩,by kernel_rfl,_,I,λΨ a w s=>sq s (cc I (oc (t I) (oc (t I) on)) (s232 f _ _ _ hx25.e)) I λa w s=>nl ?_⟩;refine nxt Ψ s ?_;refine ⟨⟨λ_=>I,I,.inr ⟨(sw1 I (sw1 I (sw1 I (sw1 I (sw1 I (sw2 (K:=1000) I I (sw2 (K:=1000) I I sw0))))))),(sb1 I sb0),(sn2 I (sn2 I (sn2 I (sn2 I (sn2 I (sn2 I (sn2 I (sn2 I (sn2 I (sn2 I (sn1 I (sn1 I (sn1 I (sn1 I (sn1 I (sn1 I sn0))))))))))))))))⟩⟩,by kernel_rfl,_,I,λΨ a w s=>sq s (cc I (oc (t I) on) (s230 f _ _ hx26.e)) I λa w s=>nl ?_⟩;refine nxt Ψ s ?_;refine ⟨⟨λ_=>I,I,.inr ⟨(sw1 I (sw1 I (sw1 I (sw1 I (sw1 I (sw2 (K:=1000) I I (sw2 (K:=1000) I I sw0))))))),(sb1 I sb0),(sn2 I (sn1 I (sn1 I (sn1 I (sn1 I (sn1 I (sn1 I (sn1 I (sn1 I (sn1 I (sn1 I (sn1 I (sn1 I (sn1 I (sn1 I (sn1 I sn0))))))))))))))))⟩⟩,by kernel_rfl,_,I,λΨ a w s=>sq s (Ja (t I) ci (t I) (t I) (t I)) I λa w s=>nl ?_⟩;refine nxt Ψ s ?_;refine ⟨⟨λ_=>I,I,.inr ⟨(sw1 I (sw1 I (sw1 I (sw1 I (sw1 I (sw2 (K:=1000) I I (sw2 (K:=1000) I I sw0))))))),(sb1 I sb0),(sn1 I (sn1 I (sn1 I (sn1 I (sn1 I (sn1 I (sn1 I (sn1 I (sn1 I (sn1 I (sn1 I (sn1 I (sn1 I (sn1 I (sn1 I (sn1 I sn0))))))))))))))))⟩⟩,by kernel_rfl,_,I,λΨ a w s=>cgv [1000,1001,1002,1003,1004,1005,1006,1007,1008,1009] [1000,1001,1002,1003,1004,1005,1006,1007,1008,1009] hM s qf I (oc (t I) (oc (t I) on)) vn vn (s225 f n0 n1 n2 n3 n4 n5 n6 z14c0 n8 n9 _ _ _ _ _ _ _ _ _ _ _ _ _ hx27.e) (k4 I I I I (k4 I I I I (k2 I I kn))) I (λ_=>I) I I I λy28 a w s=>nl ?_⟩;refine nxt Ψ s ?_;refine ⟨⟨λ_=>I,I,.inl I⟩,λa w s=>?_⟩;replace s:St M W 75 [(0,Qv (pb n0 0)),(2,Va ((v3.length:Int))),(4,Va z14.1),(5,Va x16),(32,Va ((v3.length:Int))),(33,Va z14.1),(1000,Mr n0 [(.int .i64 v0),n1,n2,n3,n4,n5,(.int .i64 v1),n6,y28,n8,n9]),(1001,At n1 (Va v2)),(1002,At n2 (Va v3)),(1003,Ow 3 n3 v4),(1004,Ow 3 n4 v5),(1005,Ow 3 n5 v6),(1006,Ow 9 n6 v7),(1007,Ow 113 y28 x27.2),(1008,Ow 3 n8 v9),(1009,Ow 3 n9 v10)] a w:=s.pick [0,2,4,5,32,33,1000,1001,1002,1003,1004,1005,1006,1007,1008,1009];refine R0 2 s λa w s=>?_;exact ⟨_,hm,⟨y28,s.fi⟩⟩
   ·refine wpIn_exit ?_;obtain rfl:=si hm;exact ⟨z14c0,s.fi⟩
  ·obtain ⟨o15sc0,s⟩:=s;obtain rfl:=si hm;exact rze [1000,1001,1002,1003,1004,1005,1006,1007,1008,1009] (n3,n4,n5,n6,o15sc0,n8,n9) hM hD s I rv0 (k4 I I I I (k4 I I I I (k2 I I kn))) I
def Hc (v0:Builder) (v1:Int):Nat->Int->Option (Int)
 | 0,_=>none
 | n+1,z1=>(idx v0.division z1).bind λx3=>(bif (decide (x3 > v1)) then Hc v0 v1 n (wr (z1 - 1)) else some z1)
def m233 (f:Nat) (v0:Builder) (v1:Int):Option (Int):=(Hc v0 v1 f (wr ((v0.division.length:Int) - 1))).bind λo2s=>some o2s
theorem s233 (f:Nat) (v0:Builder) (v1:Int) (r:Int) (hm:m233 f v0 v1=some r):Sp Tryz.prog 233 [Pt v0,Va v1] (Va r):=by
 unfold m233 at hm;refine ens func233 kr_ I ntmps233 I I λM W a hM hD s=>?_;refine R 1 s λa w s=>?_;refine se (rg (sq s (mp (t I)) I λa w s=>sq s (nk (t I)) I λa w s=>ru 5 s λa w s=>nl ?_));refine se (lA hm [0,1,4] s (λz1=>[(5,Va z1)]) s.fi (λ_=>I) (λo2s hko2 n z1 a w hm s=>?_) λo2s hm a w s=>?_)
 ·unfold Hc at hm;refine se (se (rg (sq s (mp (t I)) I λa w s=>sq s (nk (t I)) I λa w s=>ru 3 s λa w s=>iB s hm λx3 hm a w s=>ru 3 s λa w s=>nl ?_)));refine cmt s hm (λhb hm=>?_) λhb hm=>?_
  ·refine wpIn_block (R0 3 s λa w s=>?_);exact ⟨_,hm,s.fi⟩
  ·refine wpIn_exit ?_;obtain rfl:=si hm;exact s.fi
 ·refine R 2 s λa w s=>?_;cases hm;exact rT hD s I I
def Ex (f:Nat) (v0:Int) (v1:Int) (v2:List Step) (v3:List Int) (v4:List Int) (v5:List Int) (v6:List Int) (v7:List ByteArray) (v9:List Int) (v10:List Int):Nat->(Int×(List Ae))->Option (Int×(List Ae))
 | 0,_=>none
 | n+1,z1=>(bif (decide (z1.1 < (v2.length:Int))) then (idx v2 z1.1).bind λx3=>(bif (decide (x3.Wait > 0)) then (m231 f z1.1).bind λx6=>(cat (⟨#[119]⟩:ByteArray) x6).bind λx7=>(m233 f (⟨(⟨v0,v2⟩:Ah),v3,v4,v5,v6,(⟨v1,v7,z1.2,v9,v10⟩:Aa)⟩:Builder) z1.1).bind λx8=>(idx v4 x8).bind λx9=>(m234 f z1.1 v0 v1 v2 v3 v4 v5 v6 v7 z1.2 v9 v10).bind λx10=>(m232 f x9 x10).bind λx12=>(m225 f (⟨x7,(2:Int),x12,(⟨(0:Int),(0:Int),([]:List Expr)⟩:Expr),x3.Wait,false⟩:Ae) v0 v1 v2 v3 v4 v5 v6 v7 z1.2 v9 v10).bind λx13=>some x13.2 else some z1.2).bind λz5=>Ex f v0 v1 v2 v3 v4 v5 v6 v7 v9 v10 n ((wr (z1.1 + 1)),z5) else some (z1.1,z1.2))
def m159 (f:Nat) (v0:Int) (v1:Int) (v2:List Step) (v3:List Int) (v4:List Int) (v5:List Int) (v6:List Int) (v7:List ByteArray) (v8:List Ae) (v9:List Int) (v10:List Int):Option (Int×Int×(List Step)×(List Int)×(List Int)×(List Int)×(List Int)×(List ByteArray)×(List Ae)×(List Int)×(List Int)):=(Ex f v0 v1 v2 v3 v4 v5 v6 v7 v9 v10 f ((0:Int),v8)).bind λo2s=>some (v0,v1,v2,v3,v4,v5,v6,v7,o2s.2,v9,v10)
theorem s159 (f:Nat) (n0:Nat) (n1:Value) (n2:Value) (n3:Value) (n4:Value) (n5:Value) (n6:Value) (n7:Value) (n8:Value) (n9:Value) (v0:Int) (v1:Int) (v2:List Step) (v3:List Int) (v4:List Int) (v5:List Int) (v6:List Int) (v7:List ByteArray) (v8:List Ae) (v9:List Int) (v10:List Int) (r:Int×Int×(List Step)×(List Int)×(List Int)×(List Int)×(List Int)×(List ByteArray)×(List Ae)×(List Int)×(List Int)) (hm:m159 f v0 v1 v2 v3 v4 v5 v6 v7 v8 v9 v10=some r):Cg Tryz.prog 159 [Qv (pb n0 0)] [Mr n0 [(.int .i64 v0),n1,n2,n3,n4,n5,(.int .i64 v1),n6,n7,n8,n9],At n1 (Va v2),At n2 (Va v3),Ow 3 n3 v4,Ow 3 n4 v5,Ow 3 n5 v6,Ow 9 n6 v7,Ow 113 n7 v8,Ow 3 n8 v9,Ow 3 n9 v10] (Rz (λx:Value×Value×Value×Value×Value×Value×Value=>Dd) (λx=>[Mr n0 [(.int .i64 r.1),n1,n2,x.1,x.2.1,x.2.2.1,(.int .i64 r.2.1),x.2.2.2.1,x.2.2.2.2.1,x.2.2.2.2.2.1,x.2.2.2.2.2.2],At n1 (Va r.2.2.1),At n2 (Va r.2.2.2.1),Ow 3 x.1 r.2.2.2.2.1,Ow 3 x.2.1 r.2.2.2.2.2.1,Ow 3 x.2.2.1 r.2.2.2.2.2.2.1,Ow 9 x.2.2.2.1 r.2.2.2.2.2.2.2.1,Ow 113 x.2.2.2.2.1 r.2.2.2.2.2.2.2.2.1,Ow 3 x.2.2.2.2.2.1 r.2.2.2.2.2.2.2.2.2.1,Ow 3 x.2.2.2.2.2.2 r.2.2.2.2.2.2.2.2.2.2])):=by
 unfold m159 at hm;refine eng func159 kr_ I ntmps159 I I λM W a hM hD s=>?_;refine se (rg (ru 5 s λa w s=>sq s (ln (ta (k:=1001) (t I) I)) I λa w s=>ru 1 s λa w s=>nl ?_));refine lA1 hm [0,8,9,1001,1002,1003,1004,1005,1006,1008,1009] s (λz1 z1c0=>[(10,Va z1.1),(1000,Mr n0 [(.int .i64 v0),n1,n2,n3,n4,n5,(.int .i64 v1),n6,z1c0,n8,n9]),(1007,Ow 113 z1c0 z1.2)]) ⟨n7,s.fi⟩ (λ_=>I) (λo2s hko2 n z1 a w hm s=>?_) λo2s hm a w s=>?_
 ·obtain ⟨z1c0,s⟩:=s;unfold Ex at hm;refine R 1 s λa w s=>?_;refine se (cmt s hm (λhb hm=>?_) λhb hm=>?_)
  ·refine se (wpIn_block ?_);obtain ⟨x3,hx3,hm⟩:=bk hm;refine se (rg (ru 1 s λa w s=>sq s (ix (ta (k:=1001) (t I) I) (t I) hx3.e) I λa w s=>ru 1 s λa w s=>aR 1010 s λb4 a w s=>ru 1 s λa w s=>sW s I λw s=>nl ?_));refine R 3 s λa w s=>?_;obtain ⟨z5,hz5,hkz5⟩:=bs hm;refine cP1 [0,2,3,8,9,10,1001,1002,1003,1004,1005,1006,1008,1009,1010] s (λz5c0=>[(1000,Mr n0 [(.int .i64 v0),n1,n2,n3,n4,n5,(.int .i64 v1),n6,z5c0,n8,n9]),(1007,Ow 113 z5c0 z5)]) ?_ λa w s=>?_
   ·refine cm s I hz5 (λhb hm=>?_) (λhb hm=>?_)
    ·obtain ⟨x6,hx6,hm⟩:=bk hm;obtain ⟨x7,hx7,hm⟩:=bk hm;obtain ⟨x8,hx8,hm⟩:=bk hm;obtain ⟨x9,hx9,hm⟩:=bk hm;obtain ⟨x10,hx10,hm⟩:=bk hm;obtain ⟨x12,hx12,hm⟩:=bk hm;obtain ⟨x13,hx13,hm⟩:=bk hm;refine Bn [(0,Qv (pb n0 0)),(3,Qv (pb b4 0)),(1003,Ow 3 n3 v4),(1010,Mg b4 x3),(1900,Rdc n0 3 n3)] [1,2,8,9,10,13,14] [19,20,26,27,28,31,32] [28,20] [35,29,25,24,23,22] [36,35,30,29,25,24,23,22,21,18] [(15,[]),(16,[30,29,25,24,23,22]),(19,[36,35,21]),(20,[18])] s (.skip (.skip (.late (.late (.skip (.skip (.cons (.cons (.late (.late (.cons (.cons (.cons (.late (.late (.late (.late (.late (.cons (.cons (.late .nil I I (mvq (t I))) I I (mv (t I))) I I (cc I (oc (t I) on) (s231 f _ _ hx6.e))) I I (ct cs (t I) hx7.e)) I I (mvq (t I))) I I (nkq (t I))) I I (fm_ (off:=3) (m:=0) (q:=3) (t I) kr_ I)) I I (lrd (K:=1900) (t I) I kr_)) I I (mvq (t I))) I I (mv (t I))) I I (tfg (k:=1009) fl1 I (tfg (k:=1008) fl1 I (tfg (k:=1007) fl1 I (tfg (k:=1006) fl1 I (tfg (k:=1005) fl1 I (tfg (k:=1004) fl1 I (tfg (k:=1003) fl1 I (tfm (k:=1000) (x:=(⟨(⟨v0,v2⟩:Ah),v3,v4,v5,v6,(⟨v1,v7,z1.2,v9,v10⟩:Aa)⟩:Builder)) fl1 I (Kn (l:=([(.int .i64 v0),n1],[n2],[n3],[n4],[n5],[(.int .i64 v1),n6,z1c0,n8,n9])) (Oh (l:=([(.int .i64 v0)],[n1])) rpi (rpz (k:=1001) I)) (rpz (k:=1002) I) (rpz (k:=1003) I) (rpz (k:=1004) I) (rpz (k:=1005) I) (Jp (l:=([(.int .i64 v1)],[n6],[z1c0],[n8],[n9])) rpi (rpz (k:=1006) I) (rpz (k:=1007) I) (rpz (k:=1008) I) (rpz (k:=1009) I))) (cc I (oc (ta (k:=1000) (t I) I) (oc (t I) on)) (s233 f _ _ _ hx8.e))))))))))) I I (ixq (α:=Int) (k:=1003) (t I) I (t I) hx9.e)) I I (lq (k:=1003) (t I) I (Dz hx9.e))) I I (mvq (t I))) I I (mv (t I))) I) I) I I (fm_ (off:=1) (m:=0) (q:=1) (t I) kr_ I)) I I (lf (K:=1010) (f:=Step.Wait) (t I) I)) I) I) kr_ kr_ I I (sw1 I (sw1 I (sw1 I (sw1 I (sw2 (K:=1000) I I sw0))))) I (by decide) I I ?_;refine ⟨⟨λ_=>I,I,.inr ⟨(sw1 I (sw1 I (sw1 I (sw1 I (sw2 (K:=1000) I I sw0))))),(sb1 I (sb1 I sb0)),(sn2 I (sn2 I (sn2 I (sn2 I (sn2 I (sn2 I sn0))))))⟩⟩,by kernel_rfl,_,I,λΨ a w s=>cgv [1000,1001,1002,1003,1004,1005,1006,1007,1008,1009] [1000,1001,1002,1003,1004,1005,1006,1007,1008,1009] hM s qf I (oc (t I) (oc (t I) on)) vn vn (s234 f n0 n1 n2 n3 n4 n5 n6 z1c0 n8 n9 _ _ _ _ _ _ _ _ _ _ _ _ _ hx10.e) (k4 I I I I (k4 I I I I (k2 I I kn))) I (λ_=>I) I I I λy11 a w s=>nl ?_⟩;refine nxt Ψ s ?_;refine ⟨⟨λ_=>I,I,.inr ⟨(sw1 I (sw1 I (sw1 I (sw1 I (sw2 (K:=1000) I I sw0))))),(sb1 I (sb1 I sb0)),(sn2 I (sn2 I (sn2 I (sn2 I (sn2 I (sn2 I sn0))))))⟩⟩,by kernel_rfl,_,I,λΨ a w s=>sq s (cc I (oc (t I) (oc (t I) on)) (s232 f _ _ _ hx12.e)) I λa w s=>nl ?_⟩;refine nxt Ψ s ?_;refine ⟨⟨λ_=>I,I,.inr ⟨(sw1 I (sw1 I (sw1 I (sw1 I (sw2 (K:=1000) I I sw0))))),(sb1 I (sb1 I sb0)),(sn2 I (sn1 I (sn1 I (sn1 I (sn1 I (sn1 I sn0))))))⟩⟩,by kernel_rfl,_,I,λΨ a w s=>sq s (Ke (t I) ci (t I) (t I)) I λa w s=>nl ?_⟩;refine nxt Ψ s ?_;refine ⟨⟨λ_=>I,I,.inr ⟨(sw1 I (sw1 I (sw1 I (sw1 I (sw2 (K:=1000) I I sw0))))),(sb1 I (sb1 I sb0)),(sn1 I (sn1 I (sn1 I (sn1 I (sn1 I (sn1 I sn0))))))⟩⟩,by kernel_rfl,_,I,λΨ a w s=>cgv [1000,1001,1002,1003,1004,1005,1006,1007,1008,1009] [1000,1001,1002,1003,1004,1005,1006,1007,1008,1009] hM s qf I (oc (t I) (oc (t I) on)) vn vn (s225 f n0 n1 n2 n3 n4 n5 n6 z1c0 n8 n9 _ _ _ _ _ _ _ _ _ _ _ _ _ hx13.e) (k4 I I I I (k4 I I I I (k2 I I kn))) I (λ_=>I) I I I λy14 a w s=>nl ?_⟩
     refine nxt Ψ s ?_;refine ⟨⟨λ_=>I,I,.inl I⟩,λa w s=>?_⟩;replace s:St M W 40 [(0,Qv (pb n0 0)),(2,Va z1.1),(3,Qv (pb b4 0)),(8,Qv n1),(9,Va ((v2.length:Int))),(10,Va z1.1),(1000,Mr n0 [(.int .i64 v0),n1,n2,n3,n4,n5,(.int .i64 v1),n6,y14,n8,n9]),(1001,At n1 (Va v2)),(1002,At n2 (Va v3)),(1003,Ow 3 n3 v4),(1004,Ow 3 n4 v5),(1005,Ow 3 n5 v6),(1006,Ow 9 n6 v7),(1007,Ow 113 y14 x13.2),(1008,Ow 3 n8 v9),(1009,Ow 3 n9 v10),(1010,Mg b4 x3)] a w:=s.pick [0,2,3,8,9,10,1000,1001,1002,1003,1004,1005,1006,1007,1008,1009,1010];obtain rfl:=si hm;exact ⟨y14,s.fi⟩
    ·refine wpIn_skip ?_;obtain rfl:=si hm;exact ⟨z1c0,s.fi⟩
   ·obtain ⟨z5c0,s⟩:=s;replace hm:=hkz5;refine R0 2 s λa w s=>?_;exact ⟨_,hm,⟨z5c0,s.fi⟩⟩
  ·refine wpIn_exit ?_;obtain rfl:=si hm;exact ⟨z1c0,s.fi⟩
 ·obtain ⟨o2sc0,s⟩:=s;obtain rfl:=si hm;exact rze [1000,1001,1002,1003,1004,1005,1006,1007,1008,1009] (n3,n4,n5,n6,o2sc0,n8,n9) hM hD s I rv0 (k4 I I I I (k4 I I I I (k2 I I kn))) I
def Ew (f:Nat) (v0:Int) (v1:Int) (v2:List Step) (v3:List Int) (v4:List Int) (v5:List Int) (v7:List ByteArray) (v9:List Int) (v10:List Int):Nat->(Int×(List Int)×(List Ae))->Option (Int×(List Int)×(List Ae))
 | 0,_=>none
 | n+1,z1=>(bif (decide (z1.1 < (v2.length:Int))) then (m233 f (⟨(⟨v0,v2⟩:Ah),v3,v4,v5,z1.2.1,(⟨v1,v7,z1.2.2,v9,v10⟩:Aa)⟩:Builder) z1.1).bind λx3=>(bif (z1.1 == 0) then (m230 f (wr ((2:Int) * v0))).bind λx5=>some ([x5]:List Expr) else (idx v3 x3).bind λx6=>(bif (decide (x6 < z1.1)) then (m227 f (wr (z1.1 - 1)) v0 v1 v2 v3 v4 v5 z1.2.1 v7 z1.2.2 v9 v10).bind λx8=>some x8 else some ([]:List Expr)).bind λz7=>some z7).bind λz4=>(m231 f z1.1).bind λx10=>(cat (⟨#[115]⟩:ByteArray) x10).bind λx11=>(idx v4 x3).bind λx12=>(m232 f x12 z4).bind λx13=>(m229 f x11 x13 v0 v1 v2 v3 v4 v5 z1.2.1 v7 z1.2.2 v9 v10).bind λx14=>(app z1.2.1 ([x14.1]:List Int)).bind λx16=>Ew f v0 v1 v2 v3 v4 v5 v7 v9 v10 n ((wr (z1.1 + 1)),x16,x14.2) else some (z1.1,z1.2.1,z1.2.2))
def m160 (f:Nat) (v0:Int) (v1:Int) (v2:List Step) (v3:List Int) (v4:List Int) (v5:List Int) (v6:List Int) (v7:List ByteArray) (v8:List Ae) (v9:List Int) (v10:List Int):Option (Int×Int×(List Step)×(List Int)×(List Int)×(List Int)×(List Int)×(List ByteArray)×(List Ae)×(List Int)×(List Int)):=(Ew f v0 v1 v2 v3 v4 v5 v7 v9 v10 f ((0:Int),v6,v8)).bind λo2s=>some (v0,v1,v2,v3,v4,v5,o2s.2.1,v7,o2s.2.2,v9,v10)
theorem s160 (f:Nat) (n0:Nat) (n1:Value) (n2:Value) (n3:Value) (n4:Value) (n5:Value) (n6:Value) (n7:Value) (n8:Value) (n9:Value) (v0:Int) (v1:Int) (v2:List Step) (v3:List Int) (v4:List Int) (v5:List Int) (v6:List Int) (v7:List ByteArray) (v8:List Ae) (v9:List Int) (v10:List Int) (r:Int×Int×(List Step)×(List Int)×(List Int)×(List Int)×(List Int)×(List ByteArray)×(List Ae)×(List Int)×(List Int)) (hm:m160 f v0 v1 v2 v3 v4 v5 v6 v7 v8 v9 v10=some r):Cg Tryz.prog 160 [Qv (pb n0 0)] [Mr n0 [(.int .i64 v0),n1,n2,n3,n4,n5,(.int .i64 v1),n6,n7,n8,n9],At n1 (Va v2),At n2 (Va v3),Ow 3 n3 v4,Ow 3 n4 v5,Ow 3 n5 v6,Ow 9 n6 v7,Ow 113 n7 v8,Ow 3 n8 v9,Ow 3 n9 v10] (Rz (λx:Value×Value×Value×Value×Value×Value×Value=>Dd) (λx=>[Mr n0 [(.int .i64 r.1),n1,n2,x.1,x.2.1,x.2.2.1,(.int .i64 r.2.1),x.2.2.2.1,x.2.2.2.2.1,x.2.2.2.2.2.1,x.2.2.2.2.2.2],At n1 (Va r.2.2.1),At n2 (Va r.2.2.2.1),Ow 3 x.1 r.2.2.2.2.1,Ow 3 x.2.1 r.2.2.2.2.2.1,Ow 3 x.2.2.1 r.2.2.2.2.2.2.1,Ow 9 x.2.2.2.1 r.2.2.2.2.2.2.2.1,Ow 113 x.2.2.2.2.1 r.2.2.2.2.2.2.2.2.1,Ow 3 x.2.2.2.2.2.1 r.2.2.2.2.2.2.2.2.2.1,Ow 3 x.2.2.2.2.2.2 r.2.2.2.2.2.2.2.2.2.2])):=by
 unfold m160 at hm;refine eng func160 kr_ I ntmps160 I I λM W a hM hD s=>?_;refine se (rg (ru 5 s λa w s=>sq s (ln (ta (k:=1001) (t I) I)) I λa w s=>ru 1 s λa w s=>nl ?_));refine la hm (λz1 a w=>∃ (z1c0:Value) (z1c1:Value),St M W 66 [(0,Qv (pb n0 0)),(10,Va ((v2.length:Int))),(11,Va z1.1),(1000,Mr n0 [(.int .i64 v0),n1,n2,n3,n4,z1c0,(.int .i64 v1),n6,z1c1,n8,n9]),(1001,At n1 (Va v2)),(1002,At n2 (Va v3)),(1003,Ow 3 n3 v4),(1004,Ow 3 n4 v5),(1005,Ow 3 z1c0 z1.2.1),(1006,Ow 9 n6 v7),(1007,Ow 113 z1c1 z1.2.2),(1008,Ow 3 n8 v9),(1009,Ow 3 n9 v10)] a w) ⟨n5,n7,s.fi⟩ (λ_=>I) (λo2s hko2 n z1 a w hm s=>?_) λo2s hm a w s=>?_
 ·obtain ⟨z1c0,z1c1,s⟩:=s;unfold Ew at hm;refine R 1 s λa w s=>?_;refine se (cmt s hm (λhb hm=>?_) λhb hm=>?_)
  ·refine se (wpIn_block ?_);refine R 2 s λa w s=>?_;obtain ⟨x3,hx3,hm⟩:=bk hm;refine se (rg (ru 2 s λa w s=>sq s (tfg (k:=1009) fl1 I (tfg (k:=1008) fl1 I (tfg (k:=1007) fl1 I (tfg (k:=1006) fl1 I (tfg (k:=1005) fl1 I (tfg (k:=1004) fl1 I (tfg (k:=1003) fl1 I (tfm (k:=1000) (x:=(⟨(⟨v0,v2⟩:Ah),v3,v4,v5,z1.2.1,(⟨v1,v7,z1.2.2,v9,v10⟩:Aa)⟩:Builder)) fl1 I (Kn (l:=([(.int .i64 v0),n1],[n2],[n3],[n4],[z1c0],[(.int .i64 v1),n6,z1c1,n8,n9])) (Oh (l:=([(.int .i64 v0)],[n1])) rpi (rpz (k:=1001) I)) (rpz (k:=1002) I) (rpz (k:=1003) I) (rpz (k:=1004) I) (rpz (k:=1005) I) (Jp (l:=([(.int .i64 v1)],[n6],[z1c1],[n8],[n9])) rpi (rpz (k:=1006) I) (rpz (k:=1007) I) (rpz (k:=1008) I) (rpz (k:=1009) I))) (cc I (oc (ta (k:=1000) (t I) I) (oc (t I) on)) (s233 f _ _ _ hx3.e)))))))))) I λa w s=>ru 1 s λa w s=>nl ?_));refine R 1 s λa w s=>?_;refine se (wpIn_block ?_);refine R 3 s λa w s=>?_;obtain ⟨z4,hz4,hkz4⟩:=bs hm;refine cP [0,2,3,10,11,1000,1001,1002,1003,1004,1005,1006,1007,1008,1009] s [(4,Va z4)] ?_ λa w s=>?_
   ·refine cm s I hz4 (λhb hm=>?_) (λhb hm=>?_)
    ·obtain ⟨x5,hx5,hm⟩:=bk hm;refine rg (ru 5 s λa w s=>sq s (ml ci (qi (t I))) I λa w s=>ru 3 s λa w s=>nl ?_);obtain rfl:=si hm;exact s.fi
    ·obtain ⟨x6,hx6,hm⟩:=bk hm;refine se (rg (ru 5 s λa w s=>sq s (ix (ta (k:=1002) (t I) I) (t I) hx6.e) I λa w s=>ru 4 s λa w s=>nl ?_));obtain ⟨z7,hz7,hkz7⟩:=bs hm;refine cP [0,2,3,10,11,1000,1001,1002,1003,1004,1005,1006,1007,1008,1009] s [(4,Va z7)] ?_ λa w s=>?_
     ·refine cm s I hz7 (λhb hm=>?_) (λhb hm=>?_)
      ·obtain ⟨x8,hx8,hm⟩:=bk hm;refine rg (ru 3 s λa w s=>cgv [1000,1001,1002,1003,1004,1005,1006,1007,1008,1009] [1000,1001,1002,1003,1004,1005,1006,1007,1008,1009] hM s qf I (oc (t I) (oc (t I) on)) vn vn (s227 f n0 n1 n2 n3 n4 z1c0 n6 z1c1 n8 n9 _ _ _ _ _ _ _ _ _ _ _ _ _ hx8.e) (k4 I I I I (k4 I I I I (k2 I I kn))) I (λ_=>I) I I I λy9 a w s=>ru 1 s λa w s=>nl ?_);obtain rfl:=si hm;exact s.fi
      ·refine wpIn_skip ?_;obtain rfl:=si hm;replace s:=tv (d:=4) s (qns (α:=Expr) (t I));exact s.fi
     ·replace hm:=hkz7;obtain rfl:=si hm;exact s.fi
   ·replace hm:=hkz4;obtain ⟨x10,hx10,hm⟩:=bk hm;obtain ⟨x11,hx11,hm⟩:=bk hm;obtain ⟨x12,hx12,hm⟩:=bk hm;obtain ⟨x13,hx13,hm⟩:=bk hm;obtain ⟨x14,hx14,hm⟩:=bk hm;obtain ⟨x16,hx16,hm⟩:=bk hm;refine Bn [(0,Qv (pb n0 0)),(1900,Rdc n0 5 z1c0)] [5,6,7,8,9,10,11,12,13,14,15,16,17] [47,48,49,50,51,52,53,54,55,56,57,58,59] [] [45,44,43] [46,45,44,43,42] [(18,[]),(19,[]),(20,[46,45,44,43]),(21,[42]),(22,[]),(23,[])] s (.skip (.skip (.skip (.skip (.skip (.skip (.cons (.cons (.cons (.cons (.cons (.cons (.cons (.cons (.cons (.cons (.cons (.cons (.cons (.late (.late (.late (.late (.late .nil I I (mvq (t I))) I I (mvq (t I))) I I (nkq (t I))) I I (fm_ (off:=5) (m:=0) (q:=5) (t I) kr_ I)) I I (lrd (K:=1900) (t I) I kr_)) I I (mvq (t I))) I I (mv (t I))) I I (cc I (oc (t I) on) (s231 f _ _ hx10.e))) I I (ct cs (t I) hx11.e)) I I (mvq (t I))) I I (nkq (t I))) I I (fm_ (off:=3) (m:=0) (q:=3) (t I) kr_ I)) I I (lrc (K:=1000) (List Int) (t I) I I I I)) I I (mv (t I))) I I (ixq (α:=Int) (k:=1003) (t I) I (t I) hx12.e)) I I (lq (k:=1003) (t I) I (Dz hx12.e))) I I (mv (t I))) I I (cc I (oc (t I) (oc (t I) on)) (s232 f _ _ _ hx13.e))) I) I) I) I) I) I) kr_ kr_ I I (sw1 I (sw2 (K:=1000) I I sw0)) I (by decide) I I ?_;refine ⟨⟨λ_=>I,I,.inr ⟨(sw1 I (sw2 (K:=1000) I I sw0)),sb0,(sn2 I (sn2 I (sn2 I sn0)))⟩⟩,by kernel_rfl,_,I,λΨ a w s=>cgv [1000,1001,1002,1003,1004,1005,1006,1007,1008,1009] [1000,1001,1002,1003,1004,1005,1006,1007,1008,1009] hM s qf I (oc (t I) (oc (t I) (oc (t I) on))) vn vn (s229 f n0 n1 n2 n3 n4 z1c0 n6 z1c1 n8 n9 _ _ _ _ _ _ _ _ _ _ _ _ _ _ hx14.e) (k4 I I I I (k4 I I I I (k2 I I kn))) I (λ_=>I) I I I λy15 a w s=>nl ?_⟩;refine nxt Ψ s ?_;refine ⟨⟨λ_=>I,I,.inr ⟨(sw1 I (sw2 (K:=1000) I I sw0)),sb0,(sn2 I (sn2 I (sn2 I sn0)))⟩⟩,by kernel_rfl,_,I,λΨ a w s=>sq s (bsv (o1 (t I) o0) I I kr_) I λa w s=>nl ?_⟩;refine nxt Ψ s ?_;refine ⟨⟨λ_=>I,I,.inr ⟨(sw1 I (sw2 (K:=1000) I I sw0)),sb0,(sn2 I (sn2 I (sn2 I sn0)))⟩⟩,by kernel_rfl,_,I,λΨ a w s=>apd (α:=Int) (k:=1005) s (t I) I (t I) hx16.e I I λc17 a w s=>nl ?_⟩;refine nxt Ψ s ?_;refine ⟨⟨λ_=>I,I,.inr ⟨(sw1 I (sw2 (K:=1000) I I sw0)),sb0,(sn1 I (sn1 I (sn1 I sn0)))⟩⟩,by kernel_rfl,_,I,λΨ a w s=>sq s (nkq (t I)) I λa w s=>nl ?_⟩;refine nxt Ψ s ?_;refine ⟨⟨λ_=>I,I,.inl I⟩,by kernel_rfl,_,I,λΨ a w s=>sq s (fm_ (off:=5) (m:=0) (q:=5) (t I) kr_ I) I λa w s=>nl ?_⟩;refine nxt Ψ s ?_;refine ⟨⟨λ_=>I,I,.inl I⟩,by kernel_rfl,_,I,λΨ a w s=>srq (K:=1000) (cs':=[(.int .i64 v0),n1,n2,n3,n4,c17,(.int .i64 v1),n6,y15,n8,n9]) s (t I) I (t I) kr_ (oco (k:=1005) I) I I λw s=>nl ?_⟩;refine nxt Ψ s ?_;refine ⟨⟨λ_=>I,I,.inl I⟩,λa w s=>?_⟩;replace s:St M W 66 [(0,Qv (pb n0 0)),(2,Va z1.1),(3,Va x3),(4,Va z4),(10,Va ((v2.length:Int))),(11,Va z1.1),(1000,Mr n0 [(.int .i64 v0),n1,n2,n3,n4,c17,(.int .i64 v1),n6,y15,n8,n9]),(1001,At n1 (Va v2)),(1002,At n2 (Va v3)),(1003,Ow 3 n3 v4),(1004,Ow 3 n4 v5),(1005,Ow 3 c17 x16),(1006,Ow 9 n6 v7),(1007,Ow 113 y15 x14.2),(1008,Ow 3 n8 v9),(1009,Ow 3 n9 v10)] a w:=s.pick [0,2,3,4,10,11,1000,1001,1002,1003,1004,1005,1006,1007,1008,1009]
    refine R0 2 s λa w s=>?_;exact ⟨_,hm,⟨c17,y15,s.fi⟩⟩
  ·refine wpIn_exit ?_;obtain rfl:=si hm;exact ⟨z1c0,z1c1,s.fi⟩
 ·obtain ⟨o2sc0,o2sc1,s⟩:=s;obtain rfl:=si hm;exact rze [1000,1001,1002,1003,1004,1005,1006,1007,1008,1009] (n3,n4,o2sc0,n6,o2sc1,n8,n9) hM hD s I rv0 (k4 I I I I (k4 I I I I (k2 I I kn))) I
def De (f:Nat) (v2:List Step) (v6:List Int) (z1:Int×(List Ae)×(List Int)×(List Int)) (x5:Bool):Nat->(Int×(List Expr))->Option (Int×(List Expr))
 | 0,_=>none
 | n+1,z6=>(bif (decide (z6.1 < (v2.length:Int))) then (idx v2 z6.1).bind λx9=>(m235 f x9.Strokes (⟨z1.1,x5⟩:Ab)).bind λx11=>(bif x11 then (idx v6 z6.1).bind λx13=>(m230 f x13).bind λx14=>(app z6.2 ([x14]:List Expr)).bind λx15=>some x15 else some z6.2).bind λz12=>De f v2 v6 z1 x5 n ((wr (z6.1 + 1)),z12) else some (z6.1,z6.2))
def Bt (f:Nat) (v0:Int) (v1:Int) (v2:List Step) (v3:List Int) (v4:List Int) (v5:List Int) (v6:List Int) (v7:List ByteArray) (z1:Int×(List Ae)×(List Int)×(List Int)):Nat->(Int×(List Ae)×(List Int)×(List Int))->Option (Int×(List Ae)×(List Int)×(List Int))
 | 0,_=>none
 | n+1,z3=>(bif (decide (z3.1 < (([true,false]:List Bool).length:Int))) then (idx ([true,false]:List Bool) z3.1).bind λx5=>(De f v2 v6 z1 x5 f ((0:Int),([]:List Expr))).bind λo7s=>(ssl (⟨#[97,98,99,100,101,102]⟩:ByteArray) z1.1 (wr (z1.1 + 1))).bind λx17=>(bif x5 then (cat x17 (⟨#[112]⟩:ByteArray)).bind λx19=>(m226 f (4:Int) o7s.2).bind λx20=>(m229 f x19 x20 v0 v1 v2 v3 v4 v5 v6 v7 z3.2.1 z3.2.2.1 z3.2.2.2).bind λx21=>(app z3.2.2.1 ([x21.1]:List Int)).bind λx23=>some (x21.2,x23,z3.2.2.2) else (cat x17 (⟨#[109]⟩:ByteArray)).bind λx25=>(m226 f (4:Int) o7s.2).bind λx26=>(m229 f x25 x26 v0 v1 v2 v3 v4 v5 v6 v7 z3.2.1 z3.2.2.1 z3.2.2.2).bind λx27=>(app z3.2.2.2 ([x27.1]:List Int)).bind λx29=>some (x27.2,z3.2.2.1,x29)).bind λz18=>Bt f v0 v1 v2 v3 v4 v5 v6 v7 z1 n ((wr (z3.1 + 1)),z18.1,z18.2.1,z18.2.2) else some (z3.1,z3.2.1,z3.2.2.1,z3.2.2.2))
def Ev (f:Nat) (v0:Int) (v1:Int) (v2:List Step) (v3:List Int) (v4:List Int) (v5:List Int) (v6:List Int) (v7:List ByteArray):Nat->(Int×(List Ae)×(List Int)×(List Int))->Option (Int×(List Ae)×(List Int)×(List Int))
 | 0,_=>none
 | n+1,z1=>(bif (decide (z1.1 < v0)) then (Bt f v0 v1 v2 v3 v4 v5 v6 v7 z1 f ((0:Int),z1.2.1,z1.2.2.1,z1.2.2.2)).bind λo4s=>Ev f v0 v1 v2 v3 v4 v5 v6 v7 n ((wr (z1.1 + 1)),o4s.2.1,o4s.2.2.1,o4s.2.2.2) else some (z1.1,z1.2.1,z1.2.2.1,z1.2.2.2))
def m161 (f:Nat) (v0:Int) (v1:Int) (v2:List Step) (v3:List Int) (v4:List Int) (v5:List Int) (v6:List Int) (v7:List ByteArray) (v8:List Ae) (v9:List Int) (v10:List Int):Option (Int×Int×(List Step)×(List Int)×(List Int)×(List Int)×(List Int)×(List ByteArray)×(List Ae)×(List Int)×(List Int)):=(Ev f v0 v1 v2 v3 v4 v5 v6 v7 f ((0:Int),v8,v9,v10)).bind λo2s=>some (v0,v1,v2,v3,v4,v5,v6,v7,o2s.2.1,o2s.2.2.1,o2s.2.2.2)
theorem s161 (f:Nat) (n0:Nat) (n1:Value) (n2:Value) (n3:Value) (n4:Value) (n5:Value) (n6:Value) (n7:Value) (n8:Value) (n9:Value) (v0:Int) (v1:Int) (v2:List Step) (v3:List Int) (v4:List Int) (v5:List Int) (v6:List Int) (v7:List ByteArray) (v8:List Ae) (v9:List Int) (v10:List Int) (r:Int×Int×(List Step)×(List Int)×(List Int)×(List Int)×(List Int)×(List ByteArray)×(List Ae)×(List Int)×(List Int)) (hm:m161 f v0 v1 v2 v3 v4 v5 v6 v7 v8 v9 v10=some r):Cg Tryz.prog 161 [Qv (pb n0 0)] [Mr n0 [(.int .i64 v0),n1,n2,n3,n4,n5,(.int .i64 v1),n6,n7,n8,n9],At n1 (Va v2),At n2 (Va v3),Ow 3 n3 v4,Ow 3 n4 v5,Ow 3 n5 v6,Ow 9 n6 v7,Ow 113 n7 v8,Ow 3 n8 v9,Ow 3 n9 v10] (Rz (λx:Value×Value×Value×Value×Value×Value×Value=>Dd) (λx=>[Mr n0 [(.int .i64 r.1),n1,n2,x.1,x.2.1,x.2.2.1,(.int .i64 r.2.1),x.2.2.2.1,x.2.2.2.2.1,x.2.2.2.2.2.1,x.2.2.2.2.2.2],At n1 (Va r.2.2.1),At n2 (Va r.2.2.2.1),Ow 3 x.1 r.2.2.2.2.1,Ow 3 x.2.1 r.2.2.2.2.2.1,Ow 3 x.2.2.1 r.2.2.2.2.2.2.1,Ow 9 x.2.2.2.1 r.2.2.2.2.2.2.2.1,Ow 113 x.2.2.2.2.1 r.2.2.2.2.2.2.2.2.1,Ow 3 x.2.2.2.2.2.1 r.2.2.2.2.2.2.2.2.2.1,Ow 3 x.2.2.2.2.2.2 r.2.2.2.2.2.2.2.2.2.2])):=by
 unfold m161 at hm;refine eng func161 kr_ I ntmps161 I I λM W a hM hD s=>?_;refine R 6 s λa w s=>?_;refine la hm (λz1 a w=>∃ (z1c0:Value) (z1c1:Value) (z1c2:Value),St M W 93 [(0,Qv (pb n0 0)),(13,Qv (.int .i64 v0)),(14,Va z1.1),(1000,Mr n0 [(.int .i64 v0),n1,n2,n3,n4,n5,(.int .i64 v1),n6,z1c0,z1c1,z1c2]),(1001,At n1 (Va v2)),(1002,At n2 (Va v3)),(1003,Ow 3 n3 v4),(1004,Ow 3 n4 v5),(1005,Ow 3 n5 v6),(1006,Ow 9 n6 v7),(1007,Ow 113 z1c0 z1.2.1),(1008,Ow 3 z1c1 z1.2.2.1),(1009,Ow 3 z1c2 z1.2.2.2)] a w) ⟨n7,n8,n9,s.fi⟩ (λ_=>I) (λo2s hko2 n z1 a w hm s=>?_) λo2s hm a w s=>?_
 ·obtain ⟨z1c0,z1c1,z1c2,s⟩:=s;unfold Ev at hm;refine se (rg (sq s (lt (t I) (qi (t I))) I λa w s=>nl ?_));refine se (cmt s hm (λhb hm=>?_) λhb hm=>?_)
  ·refine se (wpIn_block ?_);refine R 2 s λa w s=>?_;refine R 3 s λa w s=>?_;refine la hm (λz3 a w=>∃ (z3c0:Value) (z3c1:Value) (z3c2:Value),St M W 93 [(0,Qv (pb n0 0)),(2,Va z1.1),(13,Qv (.int .i64 v0)),(14,Va z1.1),(17,Va (([true,false]:List Bool))),(18,Va ((([true,false]:List Bool).length:Int))),(19,Va z3.1),(1000,Mr n0 [(.int .i64 v0),n1,n2,n3,n4,n5,(.int .i64 v1),n6,z3c0,z3c1,z3c2]),(1001,At n1 (Va v2)),(1002,At n2 (Va v3)),(1003,Ow 3 n3 v4),(1004,Ow 3 n4 v5),(1005,Ow 3 n5 v6),(1006,Ow 9 n6 v7),(1007,Ow 113 z3c0 z3.2.1),(1008,Ow 3 z3c1 z3.2.2.1),(1009,Ow 3 z3c2 z3.2.2.2)] a w) ⟨z1c0,z1c1,z1c2,s.fi⟩ (λ_=>I) (λo4s hko4 n z3 a w hm s=>?_) λo4s hm a w s=>?_
   ·obtain ⟨z3c0,z3c1,z3c2,s⟩:=s;unfold Bt at hm;refine R 1 s λa w s=>?_;refine se (cmt s hm (λhb hm=>?_) λhb hm=>?_)
    ·refine se (wpIn_block ?_);refine se (rg (iB s hm λx5 hm a w s=>ru 2 s λa w s=>nl ?_));refine R 1 s λa w s=>?_;refine se (se (rg (ru 5 s λa w s=>sq s (ln (ta (k:=1001) (t I) I)) I λa w s=>ru 1 s λa w s=>nl ?_)));refine Gc (α:=Expr) (d:=5) 1010 110 s I I λc8 s=>?_;refine lA1 hm [0,2,4,13,14,17,18,19,27,28,1000,1001,1002,1003,1004,1005,1006,1007,1008,1009] s (λz6 z6c0=>[(5,Qv z6c0),(29,Va z6.1),(1010,Ow 110 z6c0 z6.2)]) ⟨c8,s.fi⟩ (λ_=>I) (λo7s hko7 n z6 a w hm s=>?_) λo7s hm a w s=>?_
     ·obtain ⟨z6c0,s⟩:=s;unfold De at hm;refine R 1 s λa w s=>?_;refine se (cmt s hm (λhb hm=>?_) λhb hm=>?_)
      ·refine se (wpIn_block ?_);obtain ⟨x9,hx9,hm⟩:=bk hm;refine se (rg (ru 1 s λa w s=>sq s (ix (ta (k:=1001) (t I) I) (t I) hx9.e) I λa w s=>ru 1 s λa w s=>aR 1011 s λb10 a w s=>ru 1 s λa w s=>sW s I λw s=>nl ?_));refine se (rg (ru 4 s λa w s=>sq s (Kb (t I) (t I)) I λa w s=>cB s hm (s235 f _ _) λx11 hm a w s=>nl ?_));obtain ⟨z12,hz12,hkz12⟩:=bs hm;refine cP1 [0,2,4,6,7,13,14,17,18,19,27,28,29,1000,1001,1002,1003,1004,1005,1006,1007,1008,1009,1011] s (λz12c0=>[(5,Qv z12c0),(1010,Ow 110 z12c0 z12)]) ?_ λa w s=>?_
       ·refine cm s I hz12 (λhb hm=>?_) (λhb hm=>?_)
        ·obtain ⟨x13,hx13,hm⟩:=bk hm;obtain ⟨x14,hx14,hm⟩:=bk hm;obtain ⟨x15,hx15,hm⟩:=bk hm;refine rg (ru 10 s λa w s=>apd (α:=Expr) (k:=1010) s (t I) I (t I) hx15.e I I λc16 a w s=>ru 1 s λa w s=>nl ?_);obtain rfl:=si hm;exact ⟨c16,s.fi⟩
        ·refine wpIn_skip ?_;obtain rfl:=si hm;exact ⟨z6c0,s.fi⟩
       ·obtain ⟨z12c0,s⟩:=s;replace hm:=hkz12;refine R0 2 s λa w s=>?_;exact ⟨_,hm,⟨z12c0,s.fi⟩⟩
      ·refine wpIn_exit ?_;obtain rfl:=si hm;exact ⟨z6c0,s.fi⟩
     ·obtain ⟨o7sc0,s⟩:=s;obtain ⟨x17,hx17,hm⟩:=bk hm;refine se (rg (ru 3 s λa w s=>sq s (sl2 cs (t I) (t I) Tryz.underlying9 hx17.e) I λa w s=>ru 1 s λa w s=>nl ?_));refine R 1 s λa w s=>?_;obtain ⟨z18,hz18,hkz18⟩:=bs hm;refine cpI (λa w=>∃ (z18c0:Value) (z18c1:Value) (z18c2:Value),St M W 93 [(0,Qv (pb n0 0)),(2,Va z1.1),(4,Va x5),(5,Qv o7sc0),(8,Va x17),(13,Qv (.int .i64 v0)),(14,Va z1.1),(17,Va (([true,false]:List Bool))),(18,Va ((([true,false]:List Bool).length:Int))),(19,Va z3.1),(27,Qv n1),(28,Va ((v2.length:Int))),(29,Va o7s.1),(1000,Mr n0 [(.int .i64 v0),n1,n2,n3,n4,n5,(.int .i64 v1),n6,z18c0,z18c1,z18c2]),(1001,At n1 (Va v2)),(1002,At n2 (Va v3)),(1003,Ow 3 n3 v4),(1004,Ow 3 n4 v5),(1005,Ow 3 n5 v6),(1006,Ow 9 n6 v7),(1007,Ow 113 z18c0 z18.1),(1008,Ow 3 z18c1 z18.2.1),(1009,Ow 3 z18c2 z18.2.2),(1010,At o7sc0 (Va o7s.2))] a w) ?_ λa w s=>?_
      ·refine cm s I hz18 (λhb hm=>?_) (λhb hm=>?_)
       ·refine fzk (α:=Expr) (k:=1010) hM s I λs=>?_;obtain ⟨x19,hx19,hm⟩:=bk hm;obtain ⟨x20,hx20,hm⟩:=bk hm;obtain ⟨x21,hx21,hm⟩:=bk hm;obtain ⟨x23,hx23,hm⟩:=bk hm;refine Bn [(0,Qv (pb n0 0)),(1900,Rdc n0 9 z3c1)] [6,7,8,9,10] [63,64,65,66,67] [] [61,60,59,58] [62,61,60,59,58,57] [(11,[]),(12,[]),(13,[62,61,60,59,58]),(14,[57]),(15,[]),(16,[]),(17,[])] s (.skip (.skip (.skip (.skip (.skip (.skip (.skip (.cons (.cons (.cons (.cons (.cons (.late (.late (.late (.late (.late (.late .nil I I (mvq (t I))) I I (mvq (t I))) I I (nkq (t I))) I I (fm_ (off:=6) (m:=4) (q:=6) (t I) kr_ I)) I I (fm_ (off:=3) (m:=0) (q:=9) (t I) kr_ I)) I I (lrd (K:=1900) (t I) I kr_)) I I (mvq (t I))) I I (mv (t I))) I I (ct (t I) cs hx19.e)) I I (mvq (t I))) I I (cc I (oc ci (oc (ta (k:=1010) (t I) I) on)) (s226 f _ _ _ hx20.e))) I) I) I) I) I) I) I) kr_ kr_ I I (sw1 I (sw2 (K:=1000) I I sw0)) I (by decide) I I ?_;refine ⟨⟨λ_=>I,I,.inr ⟨(sw1 I (sw2 (K:=1000) I I sw0)),sb0,(sn2 I (sn2 I (sn2 I (sn2 I sn0))))⟩⟩,by kernel_rfl,_,I,λΨ a w s=>cgv [1000,1001,1002,1003,1004,1005,1006,1007,1008,1009] [1000,1001,1002,1003,1004,1005,1006,1007,1008,1009] hM s qf I (oc (t I) (oc (t I) (oc (t I) on))) vn vn (s229 f n0 n1 n2 n3 n4 n5 n6 z3c0 z3c1 z3c2 _ _ _ _ _ _ _ _ _ _ _ _ _ _ hx21.e) (k4 I I I I (k4 I I I I (k2 I I kn))) I (λ_=>I) I I I λy22 a w s=>nl ?_⟩;refine nxt Ψ s ?_;refine ⟨⟨λ_=>I,I,.inr ⟨(sw1 I (sw2 (K:=1000) I I sw0)),sb0,(sn2 I (sn2 I (sn2 I (sn2 I sn0))))⟩⟩,by kernel_rfl,_,I,λΨ a w s=>sq s (bsv (o1 (t I) o0) I I kr_) I λa w s=>nl ?_⟩;refine nxt Ψ s ?_;refine ⟨⟨λ_=>I,I,.inr ⟨(sw1 I (sw2 (K:=1000) I I sw0)),sb0,(sn2 I (sn2 I (sn2 I (sn2 I sn0))))⟩⟩,by kernel_rfl,_,I,λΨ a w s=>apd (α:=Int) (k:=1008) s (t I) I (t I) hx23.e I I λc24 a w s=>nl ?_⟩;refine nxt Ψ s ?_;refine ⟨⟨λ_=>I,I,.inr ⟨(sw1 I (sw2 (K:=1000) I I sw0)),sb0,(sn1 I (sn1 I (sn1 I (sn1 I sn0))))⟩⟩,by kernel_rfl,_,I,λΨ a w s=>sq s (nkq (t I)) I λa w s=>nl ?_⟩;refine nxt Ψ s ?_;refine ⟨⟨λ_=>I,I,.inl I⟩,by kernel_rfl,_,I,λΨ a w s=>sq s (fm_ (off:=6) (m:=4) (q:=6) (t I) kr_ I) I λa w s=>nl ?_⟩;refine nxt Ψ s ?_;refine ⟨⟨λ_=>I,I,.inl I⟩,by kernel_rfl,_,I,λΨ a w s=>sq s (fm_ (off:=3) (m:=0) (q:=9) (t I) kr_ I) I λa w s=>nl ?_⟩;refine nxt Ψ s ?_;refine ⟨⟨λ_=>I,I,.inl I⟩,by kernel_rfl,_,I,λΨ a w s=>srq (K:=1000) (cs':=[(.int .i64 v0),n1,n2,n3,n4,n5,(.int .i64 v1),n6,y22,c24,z3c2]) s (t I) I (t I) kr_ (oco (k:=1008) I) I I λw s=>nl ?_⟩;refine nxt Ψ s ?_;refine ⟨⟨λ_=>I,I,.inl I⟩,λa w s=>?_⟩;replace s:St M W 93 [(0,Qv (pb n0 0)),(2,Va z1.1),(4,Va x5),(5,Qv o7sc0),(8,Va x17),(13,Qv (.int .i64 v0)),(14,Va z1.1),(17,Va (([true,false]:List Bool))),(18,Va ((([true,false]:List Bool).length:Int))),(19,Va z3.1),(27,Qv n1),(28,Va ((v2.length:Int))),(29,Va o7s.1),(1000,Mr n0 [(.int .i64 v0),n1,n2,n3,n4,n5,(.int .i64 v1),n6,y22,c24,z3c2]),(1001,At n1 (Va v2)),(1002,At n2 (Va v3)),(1003,Ow 3 n3 v4),(1004,Ow 3 n4 v5),(1005,Ow 3 n5 v6),(1006,Ow 9 n6 v7),(1007,Ow 113 y22 x21.2),(1008,Ow 3 c24 x23),(1009,Ow 3 z3c2 z3.2.2.2),(1010,At o7sc0 (Va o7s.2))] a w:=s.pick [0,2,4,5,8,13,14,17,18,19,27,28,29,1000,1001,1002,1003,1004,1005,1006,1007,1008,1009,1010]
        obtain rfl:=si hm;exact ⟨y22,c24,z3c2,s.fi⟩
       ·refine fzk (α:=Expr) (k:=1010) hM s I λs=>?_;obtain ⟨x25,hx25,hm⟩:=bk hm;obtain ⟨x26,hx26,hm⟩:=bk hm;obtain ⟨x27,hx27,hm⟩:=bk hm;obtain ⟨x29,hx29,hm⟩:=bk hm;refine Bn [(0,Qv (pb n0 0)),(1900,Rdc n0 10 z3c2)] [6,7,8,9,10] [80,81,82,83,84] [] [78,77,76,75] [79,78,77,76,75,74] [(11,[]),(12,[]),(13,[79,78,77,76,75]),(14,[74]),(15,[]),(16,[]),(17,[])] s (.skip (.skip (.skip (.skip (.skip (.skip (.skip (.cons (.cons (.cons (.cons (.cons (.late (.late (.late (.late (.late (.late .nil I I (mvq (t I))) I I (mvq (t I))) I I (nkq (t I))) I I (fm_ (off:=6) (m:=4) (q:=6) (t I) kr_ I)) I I (fm_ (off:=4) (m:=0) (q:=10) (t I) kr_ I)) I I (lrd (K:=1900) (t I) I kr_)) I I (mvq (t I))) I I (mv (t I))) I I (ct (t I) cs hx25.e)) I I (mvq (t I))) I I (cc I (oc ci (oc (ta (k:=1010) (t I) I) on)) (s226 f _ _ _ hx26.e))) I) I) I) I) I) I) I) kr_ kr_ I I (sw1 I (sw2 (K:=1000) I I sw0)) I (by decide) I I ?_;refine ⟨⟨λ_=>I,I,.inr ⟨(sw1 I (sw2 (K:=1000) I I sw0)),sb0,(sn2 I (sn2 I (sn2 I (sn2 I sn0))))⟩⟩,by kernel_rfl,_,I,λΨ a w s=>cgv [1000,1001,1002,1003,1004,1005,1006,1007,1008,1009] [1000,1001,1002,1003,1004,1005,1006,1007,1008,1009] hM s qf I (oc (t I) (oc (t I) (oc (t I) on))) vn vn (s229 f n0 n1 n2 n3 n4 n5 n6 z3c0 z3c1 z3c2 _ _ _ _ _ _ _ _ _ _ _ _ _ _ hx27.e) (k4 I I I I (k4 I I I I (k2 I I kn))) I (λ_=>I) I I I λy28 a w s=>nl ?_⟩;refine nxt Ψ s ?_;refine ⟨⟨λ_=>I,I,.inr ⟨(sw1 I (sw2 (K:=1000) I I sw0)),sb0,(sn2 I (sn2 I (sn2 I (sn2 I sn0))))⟩⟩,by kernel_rfl,_,I,λΨ a w s=>sq s (bsv (o1 (t I) o0) I I kr_) I λa w s=>nl ?_⟩;refine nxt Ψ s ?_;refine ⟨⟨λ_=>I,I,.inr ⟨(sw1 I (sw2 (K:=1000) I I sw0)),sb0,(sn2 I (sn2 I (sn2 I (sn2 I sn0))))⟩⟩,by kernel_rfl,_,I,λΨ a w s=>apd (α:=Int) (k:=1009) s (t I) I (t I) hx29.e I I λc30 a w s=>nl ?_⟩;refine nxt Ψ s ?_;refine ⟨⟨λ_=>I,I,.inr ⟨(sw1 I (sw2 (K:=1000) I I sw0)),sb0,(sn1 I (sn1 I (sn1 I (sn1 I sn0))))⟩⟩,by kernel_rfl,_,I,λΨ a w s=>sq s (nkq (t I)) I λa w s=>nl ?_⟩;refine nxt Ψ s ?_;refine ⟨⟨λ_=>I,I,.inl I⟩,by kernel_rfl,_,I,λΨ a w s=>sq s (fm_ (off:=6) (m:=4) (q:=6) (t I) kr_ I) I λa w s=>nl ?_⟩;refine nxt Ψ s ?_;refine ⟨⟨λ_=>I,I,.inl I⟩,by kernel_rfl,_,I,λΨ a w s=>sq s (fm_ (off:=4) (m:=0) (q:=10) (t I) kr_ I) I λa w s=>nl ?_⟩;refine nxt Ψ s ?_;refine ⟨⟨λ_=>I,I,.inl I⟩,by kernel_rfl,_,I,λΨ a w s=>srq (K:=1000) (cs':=[(.int .i64 v0),n1,n2,n3,n4,n5,(.int .i64 v1),n6,y28,z3c1,c30]) s (t I) I (t I) kr_ (oco (k:=1009) I) I I λw s=>nl ?_⟩;refine nxt Ψ s ?_;refine ⟨⟨λ_=>I,I,.inl I⟩,λa w s=>?_⟩;replace s:St M W 93 [(0,Qv (pb n0 0)),(2,Va z1.1),(4,Va x5),(5,Qv o7sc0),(8,Va x17),(13,Qv (.int .i64 v0)),(14,Va z1.1),(17,Va (([true,false]:List Bool))),(18,Va ((([true,false]:List Bool).length:Int))),(19,Va z3.1),(27,Qv n1),(28,Va ((v2.length:Int))),(29,Va o7s.1),(1000,Mr n0 [(.int .i64 v0),n1,n2,n3,n4,n5,(.int .i64 v1),n6,y28,z3c1,c30]),(1001,At n1 (Va v2)),(1002,At n2 (Va v3)),(1003,Ow 3 n3 v4),(1004,Ow 3 n4 v5),(1005,Ow 3 n5 v6),(1006,Ow 9 n6 v7),(1007,Ow 113 y28 x27.2),(1008,Ow 3 z3c1 z3.2.2.1),(1009,Ow 3 c30 x29),(1010,At o7sc0 (Va o7s.2))] a w:=s.pick [0,2,4,5,8,13,14,17,18,19,27,28,29,1000,1001,1002,1003,1004,1005,1006,1007,1008,1009,1010]
        obtain rfl:=si hm;exact ⟨y28,z3c1,c30,s.fi⟩
      ·obtain ⟨z18c0,z18c1,z18c2,s⟩:=s;replace hm:=hkz18;refine R0 2 s λa w s=>?_;exact ⟨_,hm,⟨z18c0,z18c1,z18c2,s.fi⟩⟩
    ·refine wpIn_exit ?_;obtain rfl:=si hm;exact ⟨z3c0,z3c1,z3c2,s.fi⟩
   ·obtain ⟨o4sc0,o4sc1,o4sc2,s⟩:=s;refine R0 2 s λa w s=>?_;exact ⟨_,hm,⟨o4sc0,o4sc1,o4sc2,s.fi⟩⟩
  ·refine wpIn_exit ?_;obtain rfl:=si hm;exact ⟨z1c0,z1c1,z1c2,s.fi⟩
 ·obtain ⟨o2sc0,o2sc1,o2sc2,s⟩:=s;obtain rfl:=si hm;exact rze [1000,1001,1002,1003,1004,1005,1006,1007,1008,1009] (n3,n4,n5,n6,o2sc0,o2sc1,o2sc2) hM hD s I rv0 (k4 I I I I (k4 I I I I (k2 I I kn))) I
def Bh (f:Nat):Nat->(Int×Int×Int×(List Step)×(List Int)×(List Int)×(List Int)×(List Int)×(List ByteArray)×(List Ae)×(List Int)×(List Int))->Option (Int×Int×Int×(List Step)×(List Int)×(List Int)×(List Int)×(List Int)×(List ByteArray)×(List Ae)×(List Int)×(List Int))
 | 0,_=>none
 | n+1,z15=>(bif (decide (z15.1 < 4)) then (idx (List.range 4) z15.1).bind λx17=>((bif x17 == 0 then m158 f z15.2.1 z15.2.2.1 z15.2.2.2.1 z15.2.2.2.2.1 z15.2.2.2.2.2.1 z15.2.2.2.2.2.2.1 z15.2.2.2.2.2.2.2.1 z15.2.2.2.2.2.2.2.2.1 z15.2.2.2.2.2.2.2.2.2.1 z15.2.2.2.2.2.2.2.2.2.2.1 z15.2.2.2.2.2.2.2.2.2.2.2 else bif x17 == 1 then m159 f z15.2.1 z15.2.2.1 z15.2.2.2.1 z15.2.2.2.2.1 z15.2.2.2.2.2.1 z15.2.2.2.2.2.2.1 z15.2.2.2.2.2.2.2.1 z15.2.2.2.2.2.2.2.2.1 z15.2.2.2.2.2.2.2.2.2.1 z15.2.2.2.2.2.2.2.2.2.2.1 z15.2.2.2.2.2.2.2.2.2.2.2 else bif x17 == 2 then m160 f z15.2.1 z15.2.2.1 z15.2.2.2.1 z15.2.2.2.2.1 z15.2.2.2.2.2.1 z15.2.2.2.2.2.2.1 z15.2.2.2.2.2.2.2.1 z15.2.2.2.2.2.2.2.2.1 z15.2.2.2.2.2.2.2.2.2.1 z15.2.2.2.2.2.2.2.2.2.2.1 z15.2.2.2.2.2.2.2.2.2.2.2 else bif x17 == 3 then m161 f z15.2.1 z15.2.2.1 z15.2.2.2.1 z15.2.2.2.2.1 z15.2.2.2.2.2.1 z15.2.2.2.2.2.2.1 z15.2.2.2.2.2.2.2.1 z15.2.2.2.2.2.2.2.2.1 z15.2.2.2.2.2.2.2.2.2.1 z15.2.2.2.2.2.2.2.2.2.2.1 z15.2.2.2.2.2.2.2.2.2.2.2 else none)).bind λx20=>Bh f n ((wr (z15.1 + 1)),x20.1,x20.2.1,x20.2.2.1,x20.2.2.2.1,x20.2.2.2.2.1,x20.2.2.2.2.2.1,x20.2.2.2.2.2.2.1,x20.2.2.2.2.2.2.2.1,x20.2.2.2.2.2.2.2.2.1,x20.2.2.2.2.2.2.2.2.2.1,x20.2.2.2.2.2.2.2.2.2.2) else some (z15.1,z15.2.1,z15.2.2.1,z15.2.2.2.1,z15.2.2.2.2.1,z15.2.2.2.2.2.1,z15.2.2.2.2.2.2.1,z15.2.2.2.2.2.2.2.1,z15.2.2.2.2.2.2.2.2.1,z15.2.2.2.2.2.2.2.2.2.1,z15.2.2.2.2.2.2.2.2.2.2.1,z15.2.2.2.2.2.2.2.2.2.2.2))
def m84 (f:Nat) (v0:Ah):Option (Int ⊕ (Int×Int×Int×(List Step)×(List Int)×(List Int)×(List Int)×(List Int)×(List ByteArray)×(List Ae)×(List Int)×(List Int))):=(m90 f v0).bind λx1=>(bif (x1 != 0) then some (.inl x1) else (m34 f v0).bind λx2=>(bif (x2.2 != 0) then some (.inl x2.2) else (m157 f v0.Actuators v0.Actuators v0.Steps x2.1 ([]:List Int) ([]:List Int) ([]:List Int) ([(⟨#[115,116,97,114,116]⟩:ByteArray)]:List ByteArray) ([]:List Ae) ([]:List Int) ([]:List Int)).bind λx13=>(Bh f f ((0:Int),v0.Actuators,v0.Actuators,v0.Steps,x2.1,x13.1,x13.2,([]:List Int),([(⟨#[115,116,97,114,116]⟩:ByteArray)]:List ByteArray),([]:List Ae),([]:List Int),([]:List Int))).bind λo16s=>(bif (decide ((o16s.2.2.2.2.2.2.2.2.2.1.length:Int) > 64)) then some (.inl (5:Int)) else some (.inr ((0:Int),o16s.2.1,o16s.2.2.1,o16s.2.2.2.1,o16s.2.2.2.2.1,o16s.2.2.2.2.2.1,o16s.2.2.2.2.2.2.1,o16s.2.2.2.2.2.2.2.1,o16s.2.2.2.2.2.2.2.2.1,o16s.2.2.2.2.2.2.2.2.2.1,o16s.2.2.2.2.2.2.2.2.2.2.1,o16s.2.2.2.2.2.2.2.2.2.2.2)))))
theorem s84 (f:Nat) (v0:Ah) (r:Int ⊕ (Int×Int×Int×(List Step)×(List Int)×(List Int)×(List Int)×(List Int)×(List ByteArray)×(List Ae)×(List Int)×(List Int))) (hm:m84 f v0=some r):Sp Tryz.prog 84 [TV (Va v0)] (Sm r (λq:Int=>(T2 (Qv (.pointer none)) (Va q))) (λq:Int×Int×Int×(List Step)×(List Int)×(List Int)×(List Int)×(List Int)×(List ByteArray)×(List Ae)×(List Int)×(List Int)=>(Rz (λx:Nat×Value×Value×Value×Value×Value×Value×Value×Value×Value=>T2 (Qv (pb x.1 0)) (Va q.1)) (λx=>[Mr x.1 [(.int .i64 q.2.1),x.2.1,x.2.2.1,x.2.2.2.1,x.2.2.2.2.1,x.2.2.2.2.2.1,(.int .i64 q.2.2.1),x.2.2.2.2.2.2.1,x.2.2.2.2.2.2.2.1,x.2.2.2.2.2.2.2.2.1,x.2.2.2.2.2.2.2.2.2],At x.2.1 (Va q.2.2.2.1),At x.2.2.1 (Va q.2.2.2.2.1),Ow 3 x.2.2.2.1 q.2.2.2.2.2.1,Ow 3 x.2.2.2.2.1 q.2.2.2.2.2.2.1,Ow 3 x.2.2.2.2.2.1 q.2.2.2.2.2.2.2.1,Ow 9 x.2.2.2.2.2.2.1 q.2.2.2.2.2.2.2.2.1,Ow 113 x.2.2.2.2.2.2.2.1 q.2.2.2.2.2.2.2.2.2.1,Ow 3 x.2.2.2.2.2.2.2.2.1 q.2.2.2.2.2.2.2.2.2.2.1,Ow 3 x.2.2.2.2.2.2.2.2.2 q.2.2.2.2.2.2.2.2.2.2.2])))):=by
 unfold m84 at hm;refine ens func84 kr_ I ntmps84 I I λM W a hM hD s=>?_;refine ntb (d:=0) 1990 s I I λs=>?_;refine se (rg (sq s (bx (t I)) I λa w s=>sq s (saq cq) I λa w s=>sq s (sa ci) I λa w s=>nl ?_));refine se ?_;obtain ⟨x1,hx1,hm⟩:=bs hm;refine se (rg (sq s (ld (t I)) I λa w s=>sq s (cc I (oc (t I) on) (s90 f _ _ hx1)) I λa w s=>sq s (sa (t I)) I λa w s=>nl ?_));refine se (rg (sq s (mv (t I)) I λa w s=>sq s (ne (t I) ci) I λa w s=>nl ?_));refine cm s I hm (λhb hm=>?_) (λhb hm=>?_)
 ·refine se (rg (sq s (mv (t I)) I λa w s=>sq s (saq cq) I λa w s=>sq s (sa (t I)) I λa w s=>nl ?_));obtain rfl:=si hm;refine wpIn_ret ?_;exact rn hD s I (rv2 (rt I) (rt I))
 ·refine wpIn_skip ?_;obtain ⟨x2,hx2,hm⟩:=bs hm;refine se (rg (sq s (ld (t I)) I λa w s=>sq s (cc I (oc (otb (k:=1990) (t I) I) on) (s34 f _ _ hx2)) I λa w s=>sq s (mve (t I)) I λa w s=>sq s (Pn.x20 (t I)) I λa w s=>sq s (Pn.x21 (t I)) I λa w s=>sq s (sa (t I)) I λa w s=>sq s (sa (t I)) I λa w s=>nl ?_));refine se (se (rg (sq s (mv (t I)) I λa w s=>sq s (ne (t I) ci) I λa w s=>nl ?_)));refine cm s I hm (λhb hm=>?_) (λhb hm=>?_)
  ·refine se (rg (sq s (mv (t I)) I λa w s=>sq s (saq cq) I λa w s=>sq s (sa (t I)) I λa w s=>nl ?_));obtain rfl:=si hm;refine wpIn_ret ?_;exact rn hD s I (rv2 (rt I) (rt I))
  ·refine wpIn_skip (se (rg (sq s (ld (t I)) I λa w s=>sq s (mv (t I)) I λa w s=>sq s (fa (f:=Ah.Actuators) (t I)) I λa w s=>sq s (ld (t I)) I λa w s=>sqo 1000 s (bso (o1 cs o0) I I kr_) I I λc3 a w s=>sq s (bla (L:=[(0,1),(1,1),(2,1),(3,1),(4,1)]) (z:=[(.int .i64 0),nz,nz,nz,nz]) (res:=[(.int .i64 v0.Actuators),c3,nz,nz,nz]) I kr_ kr_ (pdq (iq (t I)) (ocr I) (pdq (t I) (oco (k:=1000) I) pdn)) I I) I λa w s=>opv23 (d:=23) 1001 s I I λc4 s=>nmk (d:=24) 1002 s I I λc5 s=>sq s (bla (L:=[(0,2),(2,1),(3,1),(4,1),(5,1),(6,5)]) (z:=[(.int .i64 0),nz,nz,nz,nz,nz,(.int .i64 0),nz,nz,nz,nz]) (res:=[(.int .i64 v0.Actuators),c4,c5,nz,nz,nz,(.int .i64 v0.Actuators),c3,nz,nz,nz]) I kr_ kr_ (pda (t I) (pdq (t I) (ocf (k:=1002) I) (pda (t I) pdn))) I I) I λa w s=>sqr 1003 s (bxa (t I)) I I λb6 a w s=>Tc (α:=Int) (k:=1003) (cs':=λc7=>[(.int .i64 v0.Actuators),c4,c5,c7,nz,nz,(.int .i64 v0.Actuators),c3,nz,nz,nz]) 1004 3 s I (λ_=>I) I λc7 s=>Tc (α:=Int) (k:=1003) (cs':=λc8=>[(.int .i64 v0.Actuators),c4,c5,c7,c8,nz,(.int .i64 v0.Actuators),c3,nz,nz,nz]) 1005 3 s I (λ_=>I) I λc8 s=>Tc (α:=Int) (k:=1003) (cs':=λc9=>[(.int .i64 v0.Actuators),c4,c5,c7,c8,c9,(.int .i64 v0.Actuators),c3,nz,nz,nz]) 1006 3 s I (λ_=>I) I λc9 s=>Tc (α:=Ae) (k:=1003) (cs':=λc10=>[(.int .i64 v0.Actuators),c4,c5,c7,c8,c9,(.int .i64 v0.Actuators),c3,c10,nz,nz]) 1007 113 s I (λ_=>I) I λc10 s=>Tc (α:=Int) (k:=1003) (cs':=λc11=>[(.int .i64 v0.Actuators),c4,c5,c7,c8,c9,(.int .i64 v0.Actuators),c3,c10,c11,nz]) 1008 3 s I (λ_=>I) I λc11 s=>Tc (α:=Int) (k:=1003) (cs':=λc12=>[(.int .i64 v0.Actuators),c4,c5,c7,c8,c9,(.int .i64 v0.Actuators),c3,c10,c11,c12]) 1009 3 s I (λ_=>I) I λc12 s=>sq s (saq (t I)) I λa w s=>nl ?_)));obtain ⟨x13,hx13,hm⟩:=bs hm;refine se (rg (sq s (mvq (t I)) I λa w s=>cgv [1003,1001,1002,1004,1005,1006,1000,1007,1008,1009] [1003,1001,1002,1004,1005,1006,1000,1007,1008,1009] hM s qf I (oc (t I) on) vn vn (s157 f b6 c4 c5 c7 c8 c9 c3 c10 c11 c12 _ _ _ _ _ _ _ _ _ _ _ _ hx13) (k4 I I I I (k4 I I I I (k2 I I kn))) I (λ_=>I) I I I λy14 a w s=>nl ?_));refine se (se (rg (sq s (mvq (t I)) I λa w s=>sq s (mkf I I (qc (t I) qn) qn) I λa w s=>sq s (mvq (t I)) I λa w s=>sq s (mkf I I (qc (t I) qn) qn) I λa w s=>sq s (mvq (t I)) I λa w s=>sq s (mkf I I (qc (t I) qn) qn) I λa w s=>sq s (mvq (t I)) I λa w s=>sq s (mkf I I (qc (t I) qn) qn) I λa w s=>sq s (bsw (e:=1) (β:=Int) (he:=⟨by kernel_rfl,by kernel_rfl,I⟩) (cd1 (t I) (ocr I) (cd1 (t I) (ocr I) (cd1 (t I) (ocr I) (cd1 (t I) (ocr I) cd0)))) I I kr_) I λa w s=>sq s (lnw (e:=1) kr_ (t I)) I λa w s=>sq s (mv ci) I λa w s=>nl ?_)));obtain ⟨o16s,hoo16,hko16⟩:=bs hm;refine cpI (λa w=>∃ (o16sc0:Value) (o16sc1:Value) (o16sc2:Value) (o16sc3:Value) (o16sc4:Value) (o16sc5:Value) (o16sc6:Value),St M W 58 [(0,Va v0),(1,Pt v0),(2,Qv (.pointer none)),(3,Va ((0:Int))),(4,Va x1),(5,Va x2.1),(6,Va x2.2),(7,Qv (pb b6 0)),(41,Rw [(fv 158 [(pb b6 0)] []),(fv 159 [(pb b6 0)] []),(fv 160 [(pb b6 0)] []),(fv 161 [(pb b6 0)] [])]),(42,Va ((4:Int))),(43,Va o16s.1),(1003,Mr b6 [(.int .i64 o16s.2.1),c4,c5,o16sc0,o16sc1,o16sc2,(.int .i64 o16s.2.2.1),o16sc3,o16sc4,o16sc5,o16sc6]),(1001,At c4 (Va o16s.2.2.2.1)),(1002,At c5 (Va o16s.2.2.2.2.1)),(1004,Ow 3 o16sc0 o16s.2.2.2.2.2.1),(1005,Ow 3 o16sc1 o16s.2.2.2.2.2.2.1),(1006,Ow 3 o16sc2 o16s.2.2.2.2.2.2.2.1),(1000,Ow 9 o16sc3 o16s.2.2.2.2.2.2.2.2.1),(1007,Ow 113 o16sc4 o16s.2.2.2.2.2.2.2.2.2.1),(1008,Ow 3 o16sc5 o16s.2.2.2.2.2.2.2.2.2.2.1),(1009,Ow 3 o16sc6 o16s.2.2.2.2.2.2.2.2.2.2.2),(1990,TbT)] a w) ?_ λa w s=>?_
   ·refine wpIn_block (loI (λn z15=>Bh f n z15) o16s (λz15 a w=>∃ (z15c0:Value) (z15c1:Value) (z15c2:Value) (z15c3:Value) (z15c4:Value) (z15c5:Value) (z15c6:Value),St M W 58 [(0,Va v0),(1,Pt v0),(2,Qv (.pointer none)),(3,Va ((0:Int))),(4,Va x1),(5,Va x2.1),(6,Va x2.2),(7,Qv (pb b6 0)),(41,Rw [(fv 158 [(pb b6 0)] []),(fv 159 [(pb b6 0)] []),(fv 160 [(pb b6 0)] []),(fv 161 [(pb b6 0)] [])]),(42,Va ((4:Int))),(43,Va z15.1),(1003,Mr b6 [(.int .i64 z15.2.1),c4,c5,z15c0,z15c1,z15c2,(.int .i64 z15.2.2.1),z15c3,z15c4,z15c5,z15c6]),(1001,At c4 (Va z15.2.2.2.1)),(1002,At c5 (Va z15.2.2.2.2.1)),(1004,Ow 3 z15c0 z15.2.2.2.2.2.1),(1005,Ow 3 z15c1 z15.2.2.2.2.2.2.1),(1006,Ow 3 z15c2 z15.2.2.2.2.2.2.2.1),(1000,Ow 9 z15c3 z15.2.2.2.2.2.2.2.2.1),(1007,Ow 113 z15c4 z15.2.2.2.2.2.2.2.2.2.1),(1008,Ow 3 z15c5 z15.2.2.2.2.2.2.2.2.2.2.1),(1009,Ow 3 z15c6 z15.2.2.2.2.2.2.2.2.2.2.2),(1990,TbT)] a w) f ((0:Int),v0.Actuators,v0.Actuators,v0.Steps,x2.1,x13.1,x13.2,([]:List Int),([(⟨#[115,116,97,114,116]⟩:ByteArray)]:List ByteArray),([]:List Ae),([]:List Int),([]:List Int)) ⟨y14.1,y14.2,c9,c3,c10,c11,c12,s.pick [0,1,2,3,4,5,6,7,41,42,43,1003,1001,1002,1004,1005,1006,1000,1007,1008,1009,1990]⟩ hoo16 (λ_=>I) λn z15 a w hm s=>?_);obtain ⟨z15c0,z15c1,z15c2,z15c3,z15c4,z15c5,z15c6,s⟩:=s;replace hm:Bh f (n + 1) z15=some o16s:=hm;unfold Bh at hm;refine se (rg (sq s (lt (t I) (t I)) I λa w s=>nl ?_));refine se (cm s I hm (λhb hm=>?_) (λhb hm=>?_))
    ·refine wpIn_skip (se ?_);refine wpIn_block ?_;obtain ⟨x17,hx17,hm⟩:=bs hm;refine se (rg (sq s (ixw (e:=1) (t I) (t I) kr_ kr_ I hx17) I λa w s=>sq s (ldw (t I) (Sf hx17).1 kr_) I λa w s=>sq s (saq (t I)) I λa w s=>nl ?_));obtain ⟨x20,hx20,hm⟩:=bs hm;refine rg (sq s (mvq (t I)) I λa w s=>cgv [1003,1001,1002,1004,1005,1006,1000,1007,1008,1009] [1003,1001,1002,1004,1005,1006,1000,1007,1008,1009] hM s (qsel4 (selt4 hx20) (t I)) I on (vq vn) vn (cgsel4 (Q:=λF=>Cg Tryz.prog F [Qv (pb b6 0)] [Mr b6 [(.int .i64 z15.2.1),c4,c5,z15c0,z15c1,z15c2,(.int .i64 z15.2.2.1),z15c3,z15c4,z15c5,z15c6],At c4 (Va z15.2.2.2.1),At c5 (Va z15.2.2.2.2.1),Ow 3 z15c0 z15.2.2.2.2.2.1,Ow 3 z15c1 z15.2.2.2.2.2.2.1,Ow 3 z15c2 z15.2.2.2.2.2.2.2.1,Ow 9 z15c3 z15.2.2.2.2.2.2.2.2.1,Ow 113 z15c4 z15.2.2.2.2.2.2.2.2.2.1,Ow 3 z15c5 z15.2.2.2.2.2.2.2.2.2.2.1,Ow 3 z15c6 z15.2.2.2.2.2.2.2.2.2.2.2] (Rz (λx:Value×Value×Value×Value×Value×Value×Value=>Dd) (λx=>[Mr b6 [(.int .i64 x20.1),c4,c5,x.1,x.2.1,x.2.2.1,(.int .i64 x20.2.1),x.2.2.2.1,x.2.2.2.2.1,x.2.2.2.2.2.1,x.2.2.2.2.2.2],At c4 (Va x20.2.2.1),At c5 (Va x20.2.2.2.1),Ow 3 x.1 x20.2.2.2.2.1,Ow 3 x.2.1 x20.2.2.2.2.2.1,Ow 3 x.2.2.1 x20.2.2.2.2.2.2.1,Ow 9 x.2.2.2.1 x20.2.2.2.2.2.2.2.1,Ow 113 x.2.2.2.2.1 x20.2.2.2.2.2.2.2.2.1,Ow 3 x.2.2.2.2.2.1 x20.2.2.2.2.2.2.2.2.2.1,Ow 3 x.2.2.2.2.2.2 x20.2.2.2.2.2.2.2.2.2.2]))) hx20 (λh=>s158 f b6 c4 c5 z15c0 z15c1 z15c2 z15c3 z15c4 z15c5 z15c6 _ _ _ _ _ _ _ _ _ _ _ _ h) (λh=>s159 f b6 c4 c5 z15c0 z15c1 z15c2 z15c3 z15c4 z15c5 z15c6 _ _ _ _ _ _ _ _ _ _ _ _ h) (λh=>s160 f b6 c4 c5 z15c0 z15c1 z15c2 z15c3 z15c4 z15c5 z15c6 _ _ _ _ _ _ _ _ _ _ _ _ h) (λh=>s161 f b6 c4 c5 z15c0 z15c1 z15c2 z15c3 z15c4 z15c5 z15c6 _ _ _ _ _ _ _ _ _ _ _ _ h)) (k4 I I I I (k4 I I I I (k2 I I kn))) I (λ_=>I) I I I λy21 a w s=>nl ?_);refine rg (sq s (ad (t I) ci) I λa w s=>sq s (mv (t I)) I λa w s=>nl ?_);exact ⟨_,hm,⟨y21.1,y21.2.1,y21.2.2.1,y21.2.2.2.1,y21.2.2.2.2.1,y21.2.2.2.2.2.1,y21.2.2.2.2.2.2,s.pick [0,1,2,3,4,5,6,7,41,42,43,1003,1001,1002,1004,1005,1006,1000,1007,1008,1009,1990]⟩⟩
    ·refine wpIn_exit ?_;obtain rfl:=si hm;exact ⟨z15c0,z15c1,z15c2,z15c3,z15c4,z15c5,z15c6,s.pick [0,1,2,3,4,5,6,7,41,42,43,1003,1001,1002,1004,1005,1006,1000,1007,1008,1009,1990]⟩
   ·obtain ⟨o16sc0,o16sc1,o16sc2,o16sc3,o16sc4,o16sc5,o16sc6,s⟩:=s;replace hm:=hko16;refine se (se (rg (sq s (mvq (t I)) I λa w s=>sq s (nkq (t I)) I λa w s=>sq s (fm_ (off:=6) (m:=4) (q:=6) (t I) kr_ I) I λa w s=>sq s (fm_ (off:=2) (m:=0) (q:=8) (t I) kr_ I) I λa w s=>sq s (lrc (K:=1003) (List Ae) (t I) I I I I) I λa w s=>sq s (lnq (α:=Ae) (k:=1007) (t I) I) I λa w s=>sq s (gt (t I) ci) I λa w s=>nl ?_)));refine cm s I hm (λhb hm=>?_) (λhb hm=>?_)
    ·refine se (rg (sq s (saq cq) I λa w s=>sq s (sa ci) I λa w s=>nl ?_));obtain rfl:=si hm;refine wpIn_ret ?_;exact rn hD s I (rv2 (rt I) (rt I))
    ·refine wpIn_skip (se (rg (sq s (mvq (t I)) I λa w s=>sq s (saq (t I)) I λa w s=>sq s (sa ci) I λa w s=>nl ?_)));obtain rfl:=si hm;refine wpIn_ret ?_;exact rz [1003,1001,1002,1004,1005,1006,1000,1007,1008,1009] (b6,c4,c5,o16sc0,o16sc1,o16sc2,o16sc3,o16sc4,o16sc5,o16sc6) hM hD s I (rv2 (rt I) (rt I)) (k4 I I I I (k4 I I I I (k2 I I kn))) I
def m21 (f:Nat) (v0:Ah):Option (Aa×Int):=(m84 f v0).bind λx2=>match x2 with | .inl x2=>(bif (x2 != 0) then some ((⟨(0:Int),([]:List ByteArray),([]:List Ae),([]:List Int),([]:List Int)⟩:Aa),x2) else none) | .inr x2=>(bif (x2.1 != 0) then some ((⟨(0:Int),([]:List ByteArray),([]:List Ae),([]:List Int),([]:List Int)⟩:Aa),x2.1) else some ((⟨x2.2.2.1,x2.2.2.2.2.2.2.2.2.1,x2.2.2.2.2.2.2.2.2.2.1,x2.2.2.2.2.2.2.2.2.2.2.1,x2.2.2.2.2.2.2.2.2.2.2.2⟩:Aa),(0:Int)))
theorem s21 (f:Nat) (v0:Ah) (r:Aa×Int) (hm:m21 f v0=some r):Sp Tryz.prog 21 [TV (Va v0)] (T2 (Va r.1) (Va r.2)):=by
 unfold m21 at hm;refine ens func21 kr_ I ntmps21 I I λM W a hM hD s=>?_;refine ntb (d:=0) 1990 s I I λs=>?_;refine se (rg (ru 1 s λa w s=>aR 1000 s λb1 a w s=>ru 1 s λa w s=>nl ?_));obtain ⟨x2,hx2,hm⟩:=bk hm;rcases x2 with x2 | x2
 ·dsimp only at hm;refine se (rg (ru 1 s λa w s=>sq s (cc I (oc (otb (k:=1990) (t I) I) on) (smR (R:=(T2 (Qv (.pointer none)) (Va x2))) (s84 f _ _ hx2.e))) I λa w s=>ru 5 s λa w s=>nl ?_));refine se (R 2 s λa w s=>?_);refine cmf s hm (λhb hm=>?_) λhb hm=>?_
  ·refine se (rg (sq s (bl32_ ) I λa w s=>ru 1 s λa w s=>sW s I λw s=>ru 1 s λa w s=>nl ?_));cases hm;exact rU hD s I I
  ·cases hm
 ·dsimp only at hm;refine se (rg (ru 1 s λa w s=>sqz [1001,1002,1003,1004,1005,1006,1007,1008,1009,1010] hM s (cc I (oc (otb (k:=1990) (t I) I) on) (smR (R:=(Rz (λx:Nat×Value×Value×Value×Value×Value×Value×Value×Value×Value=>T2 (Qv (pb x.1 0)) (Va x2.1)) (λx=>[Mr x.1 [(.int .i64 x2.2.1),x.2.1,x.2.2.1,x.2.2.2.1,x.2.2.2.2.1,x.2.2.2.2.2.1,(.int .i64 x2.2.2.1),x.2.2.2.2.2.2.1,x.2.2.2.2.2.2.2.1,x.2.2.2.2.2.2.2.2.1,x.2.2.2.2.2.2.2.2.2],At x.2.1 (Va x2.2.2.2.1),At x.2.2.1 (Va x2.2.2.2.2.1),Ow 3 x.2.2.2.1 x2.2.2.2.2.2.1,Ow 3 x.2.2.2.2.1 x2.2.2.2.2.2.2.1,Ow 3 x.2.2.2.2.2.1 x2.2.2.2.2.2.2.2.1,Ow 9 x.2.2.2.2.2.2.1 x2.2.2.2.2.2.2.2.2.1,Ow 113 x.2.2.2.2.2.2.2.1 x2.2.2.2.2.2.2.2.2.2.1,Ow 3 x.2.2.2.2.2.2.2.2.1 x2.2.2.2.2.2.2.2.2.2.2.1,Ow 3 x.2.2.2.2.2.2.2.2.2 x2.2.2.2.2.2.2.2.2.2.2.2]))) (s84 f _ _ hx2.e))) (λ_=>I) I I λy3 a w s=>ru 5 s λa w s=>nl ?_));refine se (R 2 s λa w s=>?_);refine cmf s hm (λhb hm=>?_) λhb hm=>?_
  ·refine se (rg (sq s (bl32_ ) I λa w s=>ru 1 s λa w s=>sW s I λw s=>ru 1 s λa w s=>nl ?_));cases hm;exact rU hD s I I
  ·refine se (rg (ru 3 s λa w s=>sq s (lra (K:=1001) (ds:=[(.int .i64 x2.2.2.1),y3.2.2.2.2.2.2.1,y3.2.2.2.2.2.2.2.1,y3.2.2.2.2.2.2.2.2.1,y3.2.2.2.2.2.2.2.2.2]) Aa (t I) I I I I) I λa w s=>sra (K:=1000) (m:=[(.int .i64 x2.2.2.1),y3.2.2.2.2.2.2.1,y3.2.2.2.2.2.2.2.1,y3.2.2.2.2.2.2.2.2.1,y3.2.2.2.2.2.2.2.2.2]) (cs':=[(.int .i64 x2.2.2.1),y3.2.2.2.2.2.2.1,y3.2.2.2.2.2.2.2.1,y3.2.2.2.2.2.2.2.2.1,y3.2.2.2.2.2.2.2.2.2]) s (t I) I (t I) kr_ I I I λw s=>ru 1 s λa w s=>nl ?_));obtain rfl:=si hm;refine fzk (α:=ByteArray) (k:=1007) hM s I λs=>?_;refine fzk (α:=Ae) (k:=1008) hM s I λs=>?_;refine fzk (α:=Int) (k:=1009) hM s I λs=>?_;refine fzk (α:=Int) (k:=1010) hM s I λs=>?_;refine Km (k:=1000) (x:=(⟨x2.2.2.1,x2.2.2.2.2.2.2.2.2.1,x2.2.2.2.2.2.2.2.2.2.1,x2.2.2.2.2.2.2.2.2.2.2.1,x2.2.2.2.2.2.2.2.2.2.2.2⟩:Aa)) s I (Jp (l:=([(.int .i64 x2.2.2.1)],[y3.2.2.2.2.2.2.1],[y3.2.2.2.2.2.2.2.1],[y3.2.2.2.2.2.2.2.2.1],[y3.2.2.2.2.2.2.2.2.2])) rpi (rpz (k:=1007) I) (rpz (k:=1008) I) (rpz (k:=1009) I) (rpz (k:=1010) I)) λs=>?_;refine wpIn_ret ?_;exact rn hD s I (rv2 (rc (K:=1000) I I) (rt I))
def m20 (f:Nat) :Option (Bool):=(m82 f (⟨#[65,43,32,49,48,59,32,65,45]⟩:ByteArray)).bind λx1=>(m21 f x1).bind λx2=>(m83 f x2.1 (3:Int)).bind λx4=>(bif ((wr (x2.2 + x4.2)) == 0) then (m48 f x4.1 ([(⟨(0:Int),true⟩:Ab),(⟨(0:Int),false⟩:Ab),(⟨(0:Int),true⟩:Ab)]:List Ab)).bind λx5=>some x5 else some false).bind λr6=>some r6
theorem s20 (f:Nat) (r:Bool) (hm:m20 f =some r):Cg Tryz.prog 20 [] [TbT] (Rz (λx:Unit=>Va r) (λx=>[TbT])):=by
 unfold m20 at hm;refine eng func20 kr_ I ntmps20 I I λM W a hM hD s=>?_;refine R 1 s λa w s=>?_;obtain ⟨x1,hx1,hm⟩:=bk hm;obtain ⟨x2,hx2,hm⟩:=bk hm;refine se (rg (ru 1 s λa w s=>sq s (cc I (oc (otb (k:=1000) (t I) I) on) (s21 f _ _ hx2.e)) I λa w s=>ru 3 s λa w s=>aR 1001 s λb3 a w s=>sW s I λw s=>ru 1 s λa w s=>nl ?_));refine se (rg (ru 1 s λa w s=>cB s hm (s83 f _ _) λx4 hm a w s=>ru 5 s λa w s=>nl ?_));obtain ⟨r6,hr6,hm⟩:=bs hm;have gr6:=gT hr6;have er6:=gF hr6;obtain ⟨x5,hx5,gr6⟩:=gk gr6;have:=pka gr6 er6;refine se (rg (ru 6 s λa w s=>sg s I I (λhb=>(Ti cb)) I λa w s=>sg s I I (λhb=>(bl69_ )) I λa w s=>sg s I I (λhb=>(Ti cb)) I λa w s=>sg s I I (λhb=>(bsv (o1 (tg I hb) (o1 (tg I hb) (o1 (tg I hb) o0))) I I kr_)) I λa w s=>ru 3 s λa w s=>nl ?_));obtain rfl:=si hm;refine wpIn_ret ?_;exact rz [1000] () hM hD s I (rv1 (rt I)) (kc I kn) I
def Jg (f:Nat) (v0:Ah) (v1:Int) (v2:Int):Nat->Int->Option (Lo (Int) (Bool))
 | 0,_=>none
 | n+1,z1=>(bif (decide (z1 < v0.Actuators)) then (idx v0.Steps v1).bind λx3=>(m126 f x3 z1).bind λx4=>(bif (x4 != 0) then (idx v0.Steps v2).bind λx5=>(m126 f x5 z1).bind λx6=>some (x6 != 0) else some false).bind λr7=>(bif r7 then some (.ret true) else Jg f v0 v1 v2 n (wr (z1 + 1))) else some (.brk z1))
def m98 (f:Nat) (v0:Ah) (v1:Int) (v2:Int):Option (Bool):=((Jg f v0 v1 v2 f (0:Int)).bind λo2=>match o2 with | .brk o2s=>some false | .ret r=>some r)
theorem s98 (f:Nat) (v0:Ah) (v1:Int) (v2:Int) (r:Bool) (hm:m98 f v0 v1 v2=some r):Sp Tryz.prog 98 [Va v0,Va v1,Va v2] (Va r):=by
 unfold m98 at hm;refine ens func98 kr_ I ntmps98 I I λM W a hM hD s=>?_;refine R 2 s λa w s=>?_;refine se (R 1 s λa w s=>?_);refine lB hm [0,1,2,3,6] s (λz1=>[(7,Va z1)]) s.fi (λ_=>I) (λo2 hko2 n z1 a w hm s=>?_) λo2s hm a w s=>?_
 ·unfold Jg at hm;refine se (R 4 s λa w s=>?_);refine cmt s hm (λhb hm=>?_) λhb hm=>?_
  ·refine se (wpIn_block ?_);obtain ⟨x3,hx3,hm⟩:=bk hm;obtain ⟨x4,hx4,hm⟩:=bk hm;obtain ⟨r7,hr7,hm⟩:=bs hm;have gr7:=gT hr7;have er7:=gF hr7;obtain ⟨x5,hx5,gr7⟩:=gk gr7;obtain ⟨x6,hx6,gr7⟩:=gk gr7;have:=pka gr7 er7;refine R 18 s λa w s=>?_;refine cmf s hm (λhb hm=>?_) λhb hm=>?_
   ·refine R 1 s λa w s=>?_;obtain rfl:=si hm;replace hm:=hko2;dsimp only at hm;cases hm;exact rT hD s I I
   ·refine R0 3 s λa w s=>?_;exact ⟨_,hm,s.fi⟩
  ·refine wpIn_exit ?_;exact ⟨_,(si hm).symm,s.fi⟩
 ·dsimp only at hm;refine R 1 s λa w s=>?_;cases hm;exact rT hD s I I
def Ks (f:Nat) (v0:Ah) (z2:Int×(List Int)):Nat->(Int×(List Int))->Option (Int×(List Int))
 | 0,_=>none
 | n+1,z5=>(bif (decide (z5.1 < z2.1)) then (m98 f v0 z5.1 z2.1).bind λx7=>(bif x7 then (app z5.2 ([z2.1]:List Int)).bind λx8=>some (z5.1,x8) else Ks f v0 z2 n ((wr (z5.1 + 1)),z5.2)) else some (z5.1,z5.2))
def Kt (f:Nat) (v0:Ah):Nat->(Int×(List Int))->Option (Int×(List Int))
 | 0,_=>none
 | n+1,z2=>(bif (decide (z2.1 < (v0.Steps.length:Int))) then (idx z2.2 (wr ((z2.2.length:Int) - 1))).bind λx4=>(Ks f v0 z2 f (x4,z2.2)).bind λo6s=>Kt f v0 n ((wr (z2.1 + 1)),o6s.2) else some (z2.1,z2.2))
def m32 (f:Nat) (v0:Ah):Option ((List Int)):=(Kt f v0 f ((1:Int),([(0:Int)]:List Int))).bind λo3s=>some o3s.2
theorem s32 (f:Nat) (v0:Ah) (r:(List Int)) (hm:m32 f v0=some r):Sp Tryz.prog 32 [Va v0] (Va r):=by
 unfold m32 at hm;refine ens func32 kr_ I ntmps32 I I λM W a hM hD s=>?_;refine R 2 s λa w s=>?_;refine se (rg (sqo 1000 s (bso (o1 ci o0) I I kr_) I I λc1 a w s=>ru 1 s λa w s=>nl ?_));refine se (R 1 s λa w s=>?_);refine lA1 hm [0,1,2] s (λz2 z2c0=>[(3,Qv z2c0),(4,Va z2.1),(1000,Ow 3 z2c0 z2.2)]) ⟨c1,s.fi⟩ (λ_=>I) (λo3s hko3 n z2 a w hm s=>?_) λo3s hm a w s=>?_
 ·obtain ⟨z2c0,s⟩:=s;unfold Kt at hm;refine se (R 5 s λa w s=>?_);refine cmt s hm (λhb hm=>?_) λhb hm=>?_
  ·refine se (wpIn_block ?_);obtain ⟨x4,hx4,hm⟩:=bk hm;refine R 7 s λa w s=>?_;refine lA1 hm [0,1,2,4] s (λz5 z5c0=>[(3,Qv z5c0),(5,Va z5.1),(1000,Ow 3 z5c0 z5.2)]) ⟨z2c0,s.fi⟩ (λ_=>I) (λo6s hko6 n z5 a w hm s=>?_) λo6s hm a w s=>?_
   ·obtain ⟨z5c0,s⟩:=s;unfold Ks at hm;refine se (R 3 s λa w s=>?_);refine cmt s hm (λhb hm=>?_) λhb hm=>?_
    ·refine se (wpIn_block ?_);refine se (rg (ru 3 s λa w s=>cB s hm (s98 f _ _ _) λx7 hm a w s=>nl ?_));refine cmf s hm (λhb hm=>?_) λhb hm=>?_
     ·obtain ⟨x8,hx8,hm⟩:=bk hm;refine se (rg (ru 3 s λa w s=>apd (α:=Int) (k:=1000) s (t I) I (t I) hx8.e I I λc9 a w s=>ru 1 s λa w s=>nl ?_));refine wpIn_exit ?_;obtain rfl:=si hm;exact ⟨c9,s.fi⟩
     ·refine R0 3 s λa w s=>?_;exact ⟨_,hm,⟨z5c0,s.fi⟩⟩
    ·refine wpIn_exit ?_;obtain rfl:=si hm;exact ⟨z5c0,s.fi⟩
   ·obtain ⟨o6sc0,s⟩:=s;refine R0 3 s λa w s=>?_;exact ⟨_,hm,⟨o6sc0,s.fi⟩⟩
  ·refine wpIn_exit ?_;obtain rfl:=si hm;exact ⟨z2c0,s.fi⟩
 ·obtain ⟨o3sc0,s⟩:=s;refine R 2 s λa w s=>?_;obtain rfl:=si hm;refine fzk (α:=Int) (k:=1000) hM s I λs=>?_;refine wpIn_ret ?_;exact rn hD s I (rv1 (ro (ta (k:=1000) (t I) I)))
instance {f:Nat} {v0:Ah}:Cn Tryz.prog 32 (m32 f v0) [Va v0] (λr:(List Int)=>(Va r)):=⟨s32 f v0⟩
def m33 (f:Nat) (v0:Ah):Option ((List Int)×Int):=(m84 f v0).bind λx1=>match x1 with | .inl x1=>(bif (x1 != 0) then some (([]:List Int),x1) else none) | .inr x1=>(bif (x1.1 != 0) then some (([]:List Int),x1.1) else some (x1.2.2.2.2.2.1,(0:Int)))
theorem s33 (f:Nat) (v0:Ah) (r:(List Int)×Int) (hm:m33 f v0=some r):Sp Tryz.prog 33 [TV (Va v0)] (T2 (Va r.1) (Va r.2)):=by
 unfold m33 at hm;refine ens func33 kr_ I ntmps33 I I λM W a hM hD s=>?_;refine ntb (d:=0) 1990 s I I λs=>?_;refine R 3 s λa w s=>?_;obtain ⟨x1,hx1,hm⟩:=bk hm;rcases x1 with x1 | x1
 ·dsimp only at hm;refine se (rg (ru 1 s λa w s=>sq s (cc I (oc (otb (k:=1990) (t I) I) on) (smR (R:=(T2 (Qv (.pointer none)) (Va x1))) (s84 f _ _ hx1.e))) I λa w s=>ru 5 s λa w s=>nl ?_));refine se (R 2 s λa w s=>?_);refine cmf s hm (λhb hm=>?_) λhb hm=>?_
  ·refine R 3 s λa w s=>?_;cases hm;exact rU hD s I I
  ·cases hm
 ·dsimp only at hm;refine se (rg (ru 1 s λa w s=>sqz [1000,1001,1002,1003,1004,1005,1006,1007,1008,1009] hM s (cc I (oc (otb (k:=1990) (t I) I) on) (smR (R:=(Rz (λx:Nat×Value×Value×Value×Value×Value×Value×Value×Value×Value=>T2 (Qv (pb x.1 0)) (Va x1.1)) (λx=>[Mr x.1 [(.int .i64 x1.2.1),x.2.1,x.2.2.1,x.2.2.2.1,x.2.2.2.2.1,x.2.2.2.2.2.1,(.int .i64 x1.2.2.1),x.2.2.2.2.2.2.1,x.2.2.2.2.2.2.2.1,x.2.2.2.2.2.2.2.2.1,x.2.2.2.2.2.2.2.2.2],At x.2.1 (Va x1.2.2.2.1),At x.2.2.1 (Va x1.2.2.2.2.1),Ow 3 x.2.2.2.1 x1.2.2.2.2.2.1,Ow 3 x.2.2.2.2.1 x1.2.2.2.2.2.2.1,Ow 3 x.2.2.2.2.2.1 x1.2.2.2.2.2.2.2.1,Ow 9 x.2.2.2.2.2.2.1 x1.2.2.2.2.2.2.2.2.1,Ow 113 x.2.2.2.2.2.2.2.1 x1.2.2.2.2.2.2.2.2.2.1,Ow 3 x.2.2.2.2.2.2.2.2.1 x1.2.2.2.2.2.2.2.2.2.2.1,Ow 3 x.2.2.2.2.2.2.2.2.2 x1.2.2.2.2.2.2.2.2.2.2.2]))) (s84 f _ _ hx1.e))) (λ_=>I) I I λy2 a w s=>ru 5 s λa w s=>nl ?_));refine se (R 2 s λa w s=>?_);refine cmf s hm (λhb hm=>?_) λhb hm=>?_
  ·refine R 3 s λa w s=>?_;cases hm;exact rU hD s I I
  ·refine R 6 s λa w s=>?_;obtain rfl:=si hm;refine fzk (α:=Int) (k:=1003) hM s I λs=>?_;refine wpIn_ret ?_;exact rn hD s I (rv2 (ro (ta (k:=1003) (t I) I)) (rt I))
def m101 (f:Nat) (v0:Step) (v1:Ah) (v2:Int):Option (Bool):=(m102 f v0).bind λx1=>(idx v1.Steps v2).bind λx2=>(m102 f x2).bind λx3=>some (Ik.toI (Rf x1 x3) != Ik.toI (⟨0⟩:Kd .u64))
theorem s101 (f:Nat) (n0:Nat) (v0:Step) (v1:Ah) (v2:Int) (r:Bool) (hm:m101 f v0 v1 v2=some r):Cg Tryz.prog 101 [TV (Va v0),Pt v1,Qv (pb n0 0)] [Mg n0 v2] (Rz (λx:Unit=>Va r) (λx=>[Mg n0 v2])):=by
 unfold m101 at hm;refine eng func101 kr_ I ntmps101 I I λM W a hM hD s=>?_;refine ntb (d:=0) 1990 s I I λs=>?_;refine R 2 s λa w s=>?_;obtain ⟨x1,hx1,hm⟩:=bk hm;obtain ⟨x2,hx2,hm⟩:=bk hm;obtain ⟨x3,hx3,hm⟩:=bk hm;refine se (Ef s (m:=10) (.cons (.cons (.cons (.cons (.cons (.cons (.cons (.cons (.cons (.cons .nil I (ld (t I))) I (cc I (oc (otb (k:=1990) (t I) I) on) (s102 f _ _ hx1.e))) I (fa (f:=Ah.Steps) (t I))) I (ld (t I))) I (lm (K:=1000) (t I) I)) I (ix (t I) (t I) hx2.e)) I (ld (t I))) I (cc I (oc (otb (k:=1990) (t I) I) on) (s102 f _ _ hx3.e))) I (ank (t I) (t I))) I (nek (t I) ckd)) kr_ I I λa w s=>sq s (sa (t I)) I λa w s=>nl ?_);obtain rfl:=si hm;refine wpIn_ret ?_;exact rz [1000] () hM hD s I (rv1 (rt I)) (kc I kn) I
def Ff (f:Nat) (v0:List Step) (v1:Ah) (v2:Int):Nat->Int->Option (Lo (Int) (Int))
 | 0,_=>none
 | n+1,z1=>(bif (decide (z1 < (v0.length:Int))) then (idx v0 z1).bind λx3=>(m101 f x3 v1 v2).bind λx4=>(bif x4 then some (.ret z1) else Ff f v0 v1 v2 n (wr (z1 + 1))) else some (.brk z1))
def m100 (f:Nat) (v0:List Step) (v1:Ah) (v2:Int):Option (Int):=((Ff f v0 v1 v2 f (0:Int)).bind λo2=>match o2 with | .brk o2s=>some (-1:Int) | .ret r=>some r)
theorem s100 (f:Nat) (n0:Value) (n1:Nat) (v0:List Step) (v1:Ah) (v2:Int) (r:Int) (hm:m100 f v0 v1 v2=some r):Cg Tryz.prog 100 [TV (Va v0),Qv (fv 101 [] [n0,(pb n1 0)])] [At n0 (Pt v1),Mg n1 v2] (Rz (λx:Unit=>Va r) (λx=>[At n0 (Pt v1),Mg n1 v2])):=by
 unfold m100 at hm;refine eng func100 kr_ I ntmps100 I I λM W a hM hD s=>?_;refine ntb (d:=0) 1990 s I I λs=>?_;refine R 1 s λa w s=>?_;refine se (R 3 s λa w s=>?_);refine lB hm [0,1,4,7,1000,1001,1990] s (λz1=>[(8,Va z1)]) s.fi (λ_=>I) (λo2 hko2 n z1 a w hm s=>?_) λo2s hm a w s=>?_
 ·unfold Ff at hm;refine R 1 s λa w s=>?_;refine se (cmt s hm (λhb hm=>?_) λhb hm=>?_)
  ·refine se (wpIn_block ?_);refine R 2 s λa w s=>?_;obtain ⟨x3,hx3,hm⟩:=bk hm;obtain ⟨x4,hx4,hm⟩:=bk hm;refine se (rg (ru 5 s λa w s=>cgv [1001] [1001] hM s (t I) I (oc (otb (k:=1990) (t I) I) on) vn (va (k:=1000) I (vq vn)) (s101 f n1 _ _ _ _ hx4.e) (kc I kn) I (λ_=>I) I I I λy5 a w s=>nl ?_));refine cmf s hm (λhb hm=>?_) λhb hm=>?_
   ·refine R 2 s λa w s=>?_;obtain rfl:=si hm;replace hm:=hko2;dsimp only at hm;obtain rfl:=si hm;refine wpIn_ret ?_;exact rz [1000,1001] () hM hD s I (rv1 (rt I)) (k2 I I kn) I
   ·refine R0 2 s λa w s=>?_;exact ⟨_,hm,s.fi⟩
  ·refine wpIn_exit ?_;exact ⟨_,(si hm).symm,s.fi⟩
 ·dsimp only at hm;refine R 1 s λa w s=>?_;obtain rfl:=si hm;refine wpIn_ret ?_;exact rz [1000,1001] () hM hD s I (rv1 (rt I)) (k2 I I kn) I
def Jj (f:Nat) (v0:Ah) (x1:(List Int)×Int) (x2:List Int):Nat->(Int×(List (Int×Int)))->Option (Int×(List (Int×Int)))
 | 0,_=>none
 | n+1,z3=>(bif (decide (z3.1 < (x2.length:Int))) then (idx x2 z3.1).bind λx6=>(idx x1.1 z3.1).bind λx9=>(idx x1.1 z3.1).bind λx10=>(lsl v0.Steps x10 x6).bind λx11=>(m100 f x11 v0 x6).bind λx12=>(app z3.2 ([((wr (x9 + x12)),x6)]:List (Int×Int))).bind λx14=>Jj f v0 x1 x2 n ((wr (z3.1 + 1)),x14) else some (z3.1,z3.2))
def m35 (f:Nat) (v0:Ah):Option ((List (Int×Int))×Int):=(m34 f v0).bind λx1=>(bif (x1.2 != 0) then some (([]:List (Int×Int)),x1.2) else (lsl x1.1 (1:Int) (x1.1.length:Int)).bind λx2=>(Jj f v0 x1 x2 f ((0:Int),([]:List (Int×Int)))).bind λo4s=>some (o4s.2,(0:Int)))
theorem s35 (f:Nat) (v0:Ah) (r:(List (Int×Int))×Int) (hm:m35 f v0=some r):Sp Tryz.prog 35 [TV (Va v0)] (T2 (Va r.1) (Va r.2)):=by
 unfold m35 at hm;refine ens func35 kr_ I ntmps35 I I λM W a hM hD s=>?_;refine ntb (d:=0) 1990 s I I λs=>?_;refine R 3 s λa w s=>?_;obtain ⟨x1,hx1,hm⟩:=bk hm;refine se (rg (ru 1 s λa w s=>sq s (cc I (oc (otb (k:=1990) (t I) I) on) (s34 f _ _ hx1.e)) I λa w s=>ru 5 s λa w s=>nl ?_));refine se (R 2 s λa w s=>?_);refine cmf s hm (λhb hm=>?_) λhb hm=>?_
 ·refine R 3 s λa w s=>?_;obtain rfl:=si hm;refine wpIn_ret ?_;exact rn hD s I (rv2 (ro (qns (α:=Int×Int) (t I))) (rt I))
 ·refine R 1 s λa w s=>?_;refine se ?_;obtain ⟨x2,hx2,hm⟩:=bk hm;refine se (rg (ru 1 s λa w s=>sq s (ll1 (t I) ci hx2.e) I λa w s=>ru 2 s λa w s=>nl ?_));refine Gc (α:=Int×Int) (d:=6) 1000 177 s I I λc5 s=>?_;refine lA1 hm [0,1,2,3,4,5,19,20,1990] s (λz3 z3c0=>[(6,Qv z3c0),(21,Va z3.1),(1000,Ow 177 z3c0 z3.2)]) ⟨c5,s.fi⟩ (λ_=>I) (λo4s hko4 n z3 a w hm s=>?_) λo4s hm a w s=>?_
  ·obtain ⟨z3c0,s⟩:=s;unfold Jj at hm;refine R 1 s λa w s=>?_;refine se (cmt s hm (λhb hm=>?_) λhb hm=>?_)
   ·refine se (wpIn_block ?_);refine se (rg (ru 1 s λa w s=>iB s hm λx6 hm a w s=>ru 1 s λa w s=>sqb 1001 s (al (z:=(0:Int))) I I λb7 a w s=>ru 1 s λa w s=>sw (K:=1001) s (t I) I (t I) I λw s=>nl ?_));refine nmk (d:=1) 1002 s I I λc8 s=>?_;obtain ⟨x9,hx9,hm⟩:=bk hm;obtain ⟨x10,hx10,hm⟩:=bk hm;obtain ⟨x11,hx11,hm⟩:=bk hm;obtain ⟨x12,hx12,hm⟩:=bk hm;refine se (Bn [(4,Va x1.1),(7,Va z3.1)] [4,5,6,7,8,9,10,11,12] [30,31,32,33,34,35,36,37,38] [] [28,27,26] [29,28,27,26] [(13,[]),(14,[29,28,27,26]),(15,[])] s (.skip (.skip (.skip (.cons (.cons (.cons (.cons (.cons (.cons (.cons (.cons (.cons (.late (.late (.late (.late .nil I I (mv (t I))) I I (mv (t I))) I I (ix (t I) (t I) hx9.e)) I I (ld (t I))) I I (fa (f:=Ah.Steps) (ta (k:=1002) (t I) I))) I I (ld (t I))) I I (mv (t I))) I I (mv (t I))) I I (ix (t I) (t I) hx10.e)) I I (ld (t I))) I I (lm (K:=1001) (t I) I)) I I (ll2 (t I) (t I) (t I) hx11.e)) I I (mkf I I qn (qc (t I) (qc (t I) qn)))) I) I) I) kr_ kr_ I I (sw1 I (sw1 I sw0)) I (by decide) I I ?_);refine ⟨⟨λ_=>I,I,.inr ⟨(sw1 I (sw1 I sw0)),sb0,(sn2 I (sn2 I (sn2 I sn0)))⟩⟩,by kernel_rfl,_,I,λΨ a w s=>cgv [1002,1001] [1002,1001] hM s qf I (oc (otb (k:=1990) (t I) I) (oc (t I) on)) vn vn (s100 f c8 b7 _ _ _ _ hx12.e) (k2 I I kn) I (λ_=>I) I I I λy13 a w s=>nl ?_⟩;refine nxt Ψ s ?_;refine ⟨⟨λ_=>I,I,.inr ⟨(sw1 I (sw1 I sw0)),sb0,(sn2 I (sn2 I (sn2 I sn0)))⟩⟩,by kernel_rfl,_,I,λΨ a w s=>sq s (ad (t I) (t I)) I λa w s=>nl ?_⟩;refine nxt Ψ s ?_;refine ⟨⟨λ_=>I,I,.inl I⟩,by kernel_rfl,_,I,λΨ a w s=>sq s (sa (t I)) I λa w s=>nl ?_⟩;refine nxt Ψ s ?_;refine ⟨⟨λ_=>I,I,.inl I⟩,λa w s=>?_⟩;replace s:St M W 49 [(0,Va v0),(1,Qv c8),(2,Qv nz),(3,Va ((0:Int))),(4,Va x1.1),(5,Va x1.2),(6,Qv z3c0),(7,Va z3.1),(8,Qv (pb b7 0)),(9,Va ((wr (x9 + x12)))),(19,Va x2),(20,Va ((x2.length:Int))),(21,Va z3.1),(1002,At c8 (Pt v0)),(1000,Ow 177 z3c0 z3.2),(1001,Mg b7 x6),(1990,TbT)] a w:=s.pick [0,1,2,3,4,5,6,7,8,9,19,20,21,1002,1000,1001,1990];obtain ⟨x14,hx14,hm⟩:=bk hm;refine rg (ru 3 s λa w s=>sq s (bly (e:=3) (len:=2) (z:=[(.int .i64 0),(.int .i64 0)]) (cs:=[(.int .i64 (wr (x9 + x12))),(.int .i64 x6)]) I (cd1 (iq (t I)) (ocr I) (cd1 (iq (t I)) (ocr I) cd0)) kr_ kr_ kr_ I) I λa w s=>sq s (bsv (o1 (qad (y:=((wr (x9 + x12)),x6)) (t I) rpA2 I) o0) I I kr_) I λa w s=>apd (α:=Int×Int) (k:=1000) s (t I) I (t I) hx14.e I I λc15 a w s=>ru 1 s λa w s=>nl ?_);refine R0 2 s λa w s=>?_;replace s:=tv (d:=1) s (ta (k:=1002) (t I) I);exact ⟨_,hm,⟨c15,s.fi⟩⟩
   ·refine wpIn_exit ?_;obtain rfl:=si hm;exact ⟨z3c0,s.fi⟩
  ·obtain ⟨o4sc0,s⟩:=s;refine R 3 s λa w s=>?_;obtain rfl:=si hm;refine fzk (α:=Int×Int) (k:=1000) hM s I λs=>?_;refine wpIn_ret ?_;exact rn hD s I (rv2 (ro (ta (k:=1000) (t I) I)) (rt I))
def Ji (f:Nat) (v0:Ah) (v1:List (Int×Int)):Nat->(Int×Int)->Option (Lo (Int×Int) (Int×Int))
 | 0,_=>none
 | n+1,z2=>(bif (decide (z2.2 < (v1.length:Int))) then (idx v1 z2.2).bind λx4=>(bif ((decide ((if x4.2 < x4.1 then x4.2 else x4.1) < 0)) || (decide ((if x4.2 > x4.1 then x4.2 else x4.1)>=(v0.Steps.length:Int)))) then some (.ret ((0:Int),(2:Int))) else (bif ((decide (x4.1>=x4.2)) || ((decide (z2.2 > 0)) && (decide (x4.1 < z2.1)))) then some (.ret ((0:Int),(9:Int))) else (idx v0.Steps x4.1).bind λx6=>(m102 f x6).bind λx7=>(idx v0.Steps x4.2).bind λx8=>(m102 f x8).bind λx9=>(bif (Ik.toI (Rf x7 x9) == Ik.toI (⟨0⟩:Kd .u64)) then some (.ret ((0:Int),(15:Int))) else Ji f v0 v1 n (x4.2,(wr (z2.2 + 1)))))) else some (.brk (z2.1,z2.2)))
def m36 (f:Nat) (v0:Ah) (v1:List (Int×Int)):Option (Int×Int):=(m90 f v0).bind λx1=>(bif (x1 != 0) then some ((0:Int),x1) else (bif (decide ((v1.length:Int) > (v0.Steps.length:Int))) then some ((0:Int),(5:Int)) else ((Ji f v0 v1 f ((0:Int),(0:Int))).bind λo3=>match o3 with | .brk o3s=>some ((wr ((v1.length:Int) + 1)),(0:Int)) | .ret r=>some r)))
theorem s36 (f:Nat) (v0:Ah) (v1:List (Int×Int)) (r:Int×Int) (hm:m36 f v0 v1=some r):Sp Tryz.prog 36 [TV (Va v0),Va v1] (T2 (Va r.1) (Va r.2)):=by
 unfold m36 at hm;refine ens func36 kr_ I ntmps36 I I λM W a hM hD s=>?_;refine ntb (d:=0) 1990 s I I λs=>?_;refine R 3 s λa w s=>?_;refine se (se (rg (ru 1 s λa w s=>cB s hm (s90 f _) λx1 hm a w s=>ru 1 s λa w s=>nl ?_)));refine R 2 s λa w s=>?_;refine cmf s hm (λhb hm=>?_) λhb hm=>?_
 ·refine R 3 s λa w s=>?_;cases hm;exact rU hD s I I
 ·refine se (R 6 s λa w s=>?_);refine cmf s hm (λhb hm=>?_) λhb hm=>?_
  ·refine R 2 s λa w s=>?_;cases hm;exact rU hD s I I
  ·refine R 1 s λa w s=>?_;refine se (R 3 s λa w s=>?_);refine lB hm [0,1,2,4,5,6,21,22,1990] s (λz2=>[(7,Va z2.1),(23,Va z2.2)]) s.fi (λ_=>I) (λo3 hko3 n z2 a w hm s=>?_) λo3s hm a w s=>?_
   ·unfold Ji at hm;refine R 1 s λa w s=>?_;refine se (cmt s hm (λhb hm=>?_) λhb hm=>?_)
    ·refine se (wpIn_block ?_);refine se (rg (ru 1 s λa w s=>iB s hm λx4 hm a w s=>ru 1 s λa w s=>aR 1000 s λb5 a w s=>ru 1 s λa w s=>sra (K:=1000) (m:=[(.int .i64 x4.1),(.int .i64 x4.2)]) (cs':=[(.int .i64 x4.1),(.int .i64 x4.2)]) s (t I) I (vaq2 (t I)) kr_ I I I λw s=>nl ?_));refine se (wpIn_block ?_);refine se (rg (sq s (iax (e:=3) (len:=2) (j:=0) (t I) ci kr_ kr_ kr_) I λa w s=>ru 1 s λa w s=>sq s (iax (e:=3) (len:=2) (j:=1) (t I) ci kr_ kr_ kr_) I λa w s=>ru 1 s λa w s=>sq s (mn (qi (t I)) (qi (t I))) I λa w s=>ru 2 s λa w s=>sg s I I (λhb=>(iax (e:=3) (len:=2) (j:=0) (t I) ci kr_ kr_ kr_)) I λa w s=>ru 1 s λa w s=>sg s I I (λhb=>(iax (e:=3) (len:=2) (j:=1) (t I) ci kr_ kr_ kr_)) I λa w s=>ru 1 s λa w s=>sg s I I (λhb=>(mx (qi (tg I hb)) (qi (tg I hb)))) I λa w s=>ru 6 s λa w s=>nl ?_));refine cM s hm (λhb hm=>?_) λhb hm=>?_
     ·refine R 2 s λa w s=>?_;obtain rfl:=si hm;replace hm:=hko3;dsimp only at hm;cases hm;exact rU hD s I I
     ·refine se (rg (sq s (iax (e:=3) (len:=2) (j:=0) (t I) ci kr_ kr_ kr_) I λa w s=>ru 1 s λa w s=>sq s (iax (e:=3) (len:=2) (j:=1) (t I) ci kr_ kr_ kr_) I λa w s=>ru 1 s λa w s=>sq s (ge (qi (t I)) (qi (t I))) I λa w s=>ru 4 s λa w s=>sn s I I (λhb hc=>(iax (e:=3) (len:=2) (j:=0) (t I) ci kr_ kr_ kr_)) I λa w s=>ru 2 s λa w s=>sn s I I (λhb hc=>(lt (qi (tg I (g2 hb hc))) (tg I (g2 hb hc)))) I λa w s=>ru 3 s λa w s=>nl ?_));refine cM s hm (λhb hm=>?_) λhb hm=>?_
      ·refine R 2 s λa w s=>?_;obtain rfl:=si hm;replace hm:=hko3;dsimp only at hm;cases hm;exact rU hD s I I
      ·obtain ⟨x6,hx6,hm⟩:=bk hm;obtain ⟨x7,hx7,hm⟩:=bk hm;obtain ⟨x8,hx8,hm⟩:=bk hm;obtain ⟨x9,hx9,hm⟩:=bk hm;refine se (Ef s (m:=16) (.cons (.cons (.cons (.cons (.cons (.cons (.cons (.cons (.cons (.cons (.cons (.cons (.cons (.cons (.cons (.cons .nil I (fa (f:=Ah.Steps) (t I))) I (ld (t I))) I (iax (e:=3) (len:=2) (j:=0) (t I) ci kr_ kr_ kr_)) I (lrc (K:=1000) Int (t I) I I I I)) I (ix (t I) (qi (t I)) hx6.e)) I (ld (t I))) I (cc I (oc (otb (k:=1990) (t I) I) on) (s102 f _ _ hx7.e))) I (fa (f:=Ah.Steps) (t I))) I (ld (t I))) I (iax (e:=3) (len:=2) (j:=1) (t I) ci kr_ kr_ kr_)) I (lrc (K:=1000) Int (t I) I I I I)) I (ix (t I) (qi (t I)) hx8.e)) I (ld (t I))) I (cc I (oc (otb (k:=1990) (t I) I) on) (s102 f _ _ hx9.e))) I (ank (t I) (t I))) I (eqk (t I) ckd)) kr_ I I λa w s=>sq s (sa (t I)) I λa w s=>nl ?_);refine cmf s hm (λhb hm=>?_) λhb hm=>?_
       ·refine R 2 s λa w s=>?_;obtain rfl:=si hm;replace hm:=hko3;dsimp only at hm;cases hm;exact rU hD s I I
       ·refine rg (sq s (iax (e:=3) (len:=2) (j:=1) (t I) ci kr_ kr_ kr_) I λa w s=>ru 2 s λa w s=>nl ?_);refine R0 2 s λa w s=>?_;replace s:=tv (d:=7) s (qi (t I));exact ⟨_,hm,s.fi⟩
    ·refine wpIn_exit ?_;exact ⟨_,(si hm).symm,s.fi⟩
   ·dsimp only at hm;refine R 5 s λa w s=>?_;cases hm;exact rU hD s I I
def Fx (x1:Int×Int×Int×(List Step)×(List Int)×(List Int)×(List Int)×(List Int)×(List ByteArray)×(List Ae)×(List Int)×(List Int)):Nat->(Int×Int×Int)->Option (Int×Int×Int)
 | 0,_=>none
 | n+1,z3=>(bif (decide (z3.2.2 < (x1.2.2.2.2.2.2.2.2.2.1.length:Int))) then (idx x1.2.2.2.2.2.2.2.2.2.1 z3.2.2).bind λx5=>(bif (x5.Kind == 1) then some ((wr (z3.1 + 1)),z3.2.1) else (bif (x5.Kind == 2) then some (wr (z3.2.1 + 1)) else some z3.2.1).bind λz8=>some (z3.1,z8)).bind λz7=>Fx x1 n (z7.1,z7.2,(wr (z3.2.2 + 1))) else some (z3.1,z3.2.1,z3.2.2))
def m37 (f:Nat) (v0:Ah):Option (Int×Int×Int):=(m84 f v0).bind λx1=>match x1 with | .inl x1=>(bif (x1 != 0) then some ((0:Int),(0:Int),x1) else none) | .inr x1=>(bif (x1.1 != 0) then some ((0:Int),(0:Int),x1.1) else (Fx x1 f ((0:Int),(0:Int),(0:Int))).bind λo4s=>some (o4s.1,o4s.2.1,(0:Int)))
theorem s37 (f:Nat) (v0:Ah) (r:Int×Int×Int) (hm:m37 f v0=some r):Sp Tryz.prog 37 [TV (Va v0)] (T3 (Va r.1) (Va r.2.1) (Va r.2.2)):=by
 unfold m37 at hm;refine ens func37 kr_ I ntmps37 I I λM W a hM hD s=>?_;refine ntb (d:=0) 1990 s I I λs=>?_;refine se (rg (sq s (bx (t I)) I λa w s=>sq s (sa ci) I λa w s=>sq s (sa ci) I λa w s=>sq s (sa ci) I λa w s=>nl ?_));obtain ⟨x1,hx1,hm⟩:=bs hm;rcases x1 with x1 | x1
 ·dsimp only at hm;refine se (rg (sq s (ld (t I)) I λa w s=>sq s (cc I (oc (otb (k:=1990) (t I) I) on) (smR (R:=(T2 (Qv (.pointer none)) (Va x1))) (s84 f _ _ hx1))) I λa w s=>sq s (mve (t I)) I λa w s=>sq s (Pn.x20 (t I)) I λa w s=>sq s (Pn.x21 (t I)) I λa w s=>sq s (saq (t I)) I λa w s=>sq s (sa (t I)) I λa w s=>nl ?_));refine se (se (rg (sq s (mv (t I)) I λa w s=>sq s (ne (t I) ci) I λa w s=>nl ?_)));refine cm s I hm (λhb hm=>?_) (λhb hm=>?_)
  ·refine se (rg (sq s (mv (t I)) I λa w s=>sq s (sa ci) I λa w s=>sq s (sa ci) I λa w s=>sq s (sa (t I)) I λa w s=>nl ?_));obtain rfl:=si hm;refine wpIn_ret ?_;exact rn hD s I (rv3 (rt I) (rt I) (rt I))
  ·refine wpIn_skip ?_;cases hm
 ·dsimp only at hm;refine se (rg (sq s (ld (t I)) I λa w s=>sqz [1000,1001,1002,1003,1004,1005,1006,1007,1008,1009] hM s (cc I (oc (otb (k:=1990) (t I) I) on) (smR (R:=(Rz (λx:Nat×Value×Value×Value×Value×Value×Value×Value×Value×Value=>T2 (Qv (pb x.1 0)) (Va x1.1)) (λx=>[Mr x.1 [(.int .i64 x1.2.1),x.2.1,x.2.2.1,x.2.2.2.1,x.2.2.2.2.1,x.2.2.2.2.2.1,(.int .i64 x1.2.2.1),x.2.2.2.2.2.2.1,x.2.2.2.2.2.2.2.1,x.2.2.2.2.2.2.2.2.1,x.2.2.2.2.2.2.2.2.2],At x.2.1 (Va x1.2.2.2.1),At x.2.2.1 (Va x1.2.2.2.2.1),Ow 3 x.2.2.2.1 x1.2.2.2.2.2.1,Ow 3 x.2.2.2.2.1 x1.2.2.2.2.2.2.1,Ow 3 x.2.2.2.2.2.1 x1.2.2.2.2.2.2.2.1,Ow 9 x.2.2.2.2.2.2.1 x1.2.2.2.2.2.2.2.2.1,Ow 113 x.2.2.2.2.2.2.2.1 x1.2.2.2.2.2.2.2.2.2.1,Ow 3 x.2.2.2.2.2.2.2.2.1 x1.2.2.2.2.2.2.2.2.2.2.1,Ow 3 x.2.2.2.2.2.2.2.2.2 x1.2.2.2.2.2.2.2.2.2.2.2]))) (s84 f _ _ hx1))) (λ_=>I) I I λy2 a w s=>sq s (mve (t I)) I λa w s=>sq s (Pn.x20 (t I)) I λa w s=>sq s (Pn.x21 (t I)) I λa w s=>sq s (saq (t I)) I λa w s=>sq s (sa (t I)) I λa w s=>nl ?_));refine se (se (rg (sq s (mv (t I)) I λa w s=>sq s (ne (t I) ci) I λa w s=>nl ?_)));refine cm s I hm (λhb hm=>?_) (λhb hm=>?_)
  ·refine se (rg (sq s (mv (t I)) I λa w s=>sq s (sa ci) I λa w s=>sq s (sa ci) I λa w s=>sq s (sa (t I)) I λa w s=>nl ?_));obtain rfl:=si hm;refine wpIn_ret ?_;exact rn hD s I (rv3 (rt I) (rt I) (rt I))
  ·refine wpIn_skip (se (rg (sq s (sa ci) I λa w s=>sq s (sa ci) I λa w s=>nl ?_)));refine se (se (rg (sq s (mvq (t I)) I λa w s=>sq s (nkq (t I)) I λa w s=>sq s (fm_ (off:=6) (m:=4) (q:=6) (t I) kr_ I) I λa w s=>sq s (fm_ (off:=2) (m:=0) (q:=8) (t I) kr_ I) I λa w s=>sq s (lrc (K:=1000) (List Ae) (t I) I I I I) I λa w s=>sq s (lnq (α:=Ae) (k:=1007) (t I) I) I λa w s=>sq s (mv ci) I λa w s=>nl ?_)));obtain ⟨o4s,hoo4,hko4⟩:=bs hm;refine cpI (λa w=>St M W 42 [(0,Va v0),(1,Pt v0),(2,Va ((0:Int))),(3,Va ((0:Int))),(4,Va ((0:Int))),(5,Qv (pb y2.1 0)),(6,Va x1.1),(7,Va o4s.1),(8,Va o4s.2.1),(23,Qv y2.2.2.2.2.2.2.2.1),(24,Va ((x1.2.2.2.2.2.2.2.2.2.1.length:Int))),(25,Va o4s.2.2),(1000,Mr y2.1 [(.int .i64 x1.2.1),y2.2.1,y2.2.2.1,y2.2.2.2.1,y2.2.2.2.2.1,y2.2.2.2.2.2.1,(.int .i64 x1.2.2.1),y2.2.2.2.2.2.2.1,y2.2.2.2.2.2.2.2.1,y2.2.2.2.2.2.2.2.2.1,y2.2.2.2.2.2.2.2.2.2]),(1001,At y2.2.1 (Va x1.2.2.2.1)),(1002,At y2.2.2.1 (Va x1.2.2.2.2.1)),(1003,Ow 3 y2.2.2.2.1 x1.2.2.2.2.2.1),(1004,Ow 3 y2.2.2.2.2.1 x1.2.2.2.2.2.2.1),(1005,Ow 3 y2.2.2.2.2.2.1 x1.2.2.2.2.2.2.2.1),(1006,Ow 9 y2.2.2.2.2.2.2.1 x1.2.2.2.2.2.2.2.2.1),(1007,Ow 113 y2.2.2.2.2.2.2.2.1 x1.2.2.2.2.2.2.2.2.2.1),(1008,Ow 3 y2.2.2.2.2.2.2.2.2.1 x1.2.2.2.2.2.2.2.2.2.2.1),(1009,Ow 3 y2.2.2.2.2.2.2.2.2.2 x1.2.2.2.2.2.2.2.2.2.2.2),(1990,TbT)] a w) ?_ λa w s=>?_
   ·refine wpIn_block (loI (λn z3=>Fx x1 n z3) o4s (λz3 a w=>St M W 42 [(0,Va v0),(1,Pt v0),(2,Va ((0:Int))),(3,Va ((0:Int))),(4,Va ((0:Int))),(5,Qv (pb y2.1 0)),(6,Va x1.1),(7,Va z3.1),(8,Va z3.2.1),(23,Qv y2.2.2.2.2.2.2.2.1),(24,Va ((x1.2.2.2.2.2.2.2.2.2.1.length:Int))),(25,Va z3.2.2),(1000,Mr y2.1 [(.int .i64 x1.2.1),y2.2.1,y2.2.2.1,y2.2.2.2.1,y2.2.2.2.2.1,y2.2.2.2.2.2.1,(.int .i64 x1.2.2.1),y2.2.2.2.2.2.2.1,y2.2.2.2.2.2.2.2.1,y2.2.2.2.2.2.2.2.2.1,y2.2.2.2.2.2.2.2.2.2]),(1001,At y2.2.1 (Va x1.2.2.2.1)),(1002,At y2.2.2.1 (Va x1.2.2.2.2.1)),(1003,Ow 3 y2.2.2.2.1 x1.2.2.2.2.2.1),(1004,Ow 3 y2.2.2.2.2.1 x1.2.2.2.2.2.2.1),(1005,Ow 3 y2.2.2.2.2.2.1 x1.2.2.2.2.2.2.2.1),(1006,Ow 9 y2.2.2.2.2.2.2.1 x1.2.2.2.2.2.2.2.2.1),(1007,Ow 113 y2.2.2.2.2.2.2.2.1 x1.2.2.2.2.2.2.2.2.2.1),(1008,Ow 3 y2.2.2.2.2.2.2.2.2.1 x1.2.2.2.2.2.2.2.2.2.2.1),(1009,Ow 3 y2.2.2.2.2.2.2.2.2.2 x1.2.2.2.2.2.2.2.2.2.2.2),(1990,TbT)] a w) f ((0:Int),(0:Int),(0:Int)) (s.pick [0,1,2,3,4,5,6,7,8,23,24,25,1000,1001,1002,1003,1004,1005,1006,1007,1008,1009,1990]) hoo4 (λ_=>I) λn z3 a w hm s=>?_);replace hm:Fx x1 (n + 1) z3=some o4s:=hm;unfold Fx at hm;refine se (rg (sq s (lt (t I) (t I)) I λa w s=>nl ?_));refine se (cm s I hm (λhb hm=>?_) (λhb hm=>?_))
    ·refine wpIn_skip (se ?_);refine wpIn_block ?_;obtain ⟨x5,hx5,hm⟩:=bs hm;refine se (rg (sq s (ixq (α:=Ae) (k:=1007) (t I) I (t I) hx5) I λa w s=>sq s (lq (k:=1007) (t I) I (Dz hx5)) I λa w s=>sqr 1010 s (alr (cs:=[(.string ByteArray.empty),(.int .i64 0),(.int .i64 0),(.int .i64 0),nz,(.int .i64 0),(.int .i64 0),nz,(.int .i64 0),(.bool false)]) (z:=.agg #[(.string ByteArray.empty),(.int .i64 0),(.int .i64 0),(.int .i64 0),nz,(.int .i64 0),(.int .i64 0),nz,(.int .i64 0),(.bool false)]) kr_ I I) I I λb6 a w s=>swd (K:=1010) s (t I) I (t I) I λw s=>nl ?_));refine se (rg (sq s (fm_ (off:=1) (m:=0) (q:=1) (t I) kr_ I) I λa w s=>sq s (lf (K:=1010) (f:=Ae.Kind) (t I) I) I λa w s=>nl ?_));refine wpIn_block (se (rg (sq s (eq (t I) ci) I λa w s=>sq s (sa (t I)) I λa w s=>nl ?_)));obtain ⟨z7,hz7,hkz7⟩:=bs hm;refine cpI (λa w=>St M W 42 [(0,Va v0),(1,Pt v0),(2,Va ((0:Int))),(3,Va ((0:Int))),(4,Va ((0:Int))),(5,Qv (pb y2.1 0)),(6,Va x1.1),(7,Va z7.1),(8,Va z7.2),(10,Qv (pb b6 0)),(23,Qv y2.2.2.2.2.2.2.2.1),(24,Va ((x1.2.2.2.2.2.2.2.2.2.1.length:Int))),(25,Va z3.2.2),(30,Va x5.Kind),(1000,Mr y2.1 [(.int .i64 x1.2.1),y2.2.1,y2.2.2.1,y2.2.2.2.1,y2.2.2.2.2.1,y2.2.2.2.2.2.1,(.int .i64 x1.2.2.1),y2.2.2.2.2.2.2.1,y2.2.2.2.2.2.2.2.1,y2.2.2.2.2.2.2.2.2.1,y2.2.2.2.2.2.2.2.2.2]),(1001,At y2.2.1 (Va x1.2.2.2.1)),(1002,At y2.2.2.1 (Va x1.2.2.2.2.1)),(1003,Ow 3 y2.2.2.2.1 x1.2.2.2.2.2.1),(1004,Ow 3 y2.2.2.2.2.1 x1.2.2.2.2.2.2.1),(1005,Ow 3 y2.2.2.2.2.2.1 x1.2.2.2.2.2.2.2.1),(1006,Ow 9 y2.2.2.2.2.2.2.1 x1.2.2.2.2.2.2.2.2.1),(1007,Ow 113 y2.2.2.2.2.2.2.2.1 x1.2.2.2.2.2.2.2.2.2.1),(1008,Ow 3 y2.2.2.2.2.2.2.2.2.1 x1.2.2.2.2.2.2.2.2.2.2.1),(1009,Ow 3 y2.2.2.2.2.2.2.2.2.2 x1.2.2.2.2.2.2.2.2.2.2.2),(1010,Mg b6 x5),(1990,TbT)] a w) ?_ λa w s=>?_
     ·refine cm s I hz7 (λhb hm=>?_) (λhb hm=>?_)
      ·refine rg (sq s (mv (t I)) I λa w s=>sq s (ad (t I) ci) I λa w s=>sq s (sa (t I)) I λa w s=>nl ?_);obtain rfl:=si hm;exact s.pick [0,1,2,3,4,5,6,7,8,10,23,24,25,30,1000,1001,1002,1003,1004,1005,1006,1007,1008,1009,1010,1990]
      ·refine se (rg (sq s (eq (t I) ci) I λa w s=>sq s (sa (t I)) I λa w s=>nl ?_));obtain ⟨z8,hz8,hkz8⟩:=bs hm;refine cpI (λa w=>St M W 42 [(0,Va v0),(1,Pt v0),(2,Va ((0:Int))),(3,Va ((0:Int))),(4,Va ((0:Int))),(5,Qv (pb y2.1 0)),(6,Va x1.1),(7,Va z3.1),(8,Va z8),(10,Qv (pb b6 0)),(23,Qv y2.2.2.2.2.2.2.2.1),(24,Va ((x1.2.2.2.2.2.2.2.2.2.1.length:Int))),(25,Va z3.2.2),(30,Va x5.Kind),(1000,Mr y2.1 [(.int .i64 x1.2.1),y2.2.1,y2.2.2.1,y2.2.2.2.1,y2.2.2.2.2.1,y2.2.2.2.2.2.1,(.int .i64 x1.2.2.1),y2.2.2.2.2.2.2.1,y2.2.2.2.2.2.2.2.1,y2.2.2.2.2.2.2.2.2.1,y2.2.2.2.2.2.2.2.2.2]),(1001,At y2.2.1 (Va x1.2.2.2.1)),(1002,At y2.2.2.1 (Va x1.2.2.2.2.1)),(1003,Ow 3 y2.2.2.2.1 x1.2.2.2.2.2.1),(1004,Ow 3 y2.2.2.2.2.1 x1.2.2.2.2.2.2.1),(1005,Ow 3 y2.2.2.2.2.2.1 x1.2.2.2.2.2.2.2.1),(1006,Ow 9 y2.2.2.2.2.2.2.1 x1.2.2.2.2.2.2.2.2.1),(1007,Ow 113 y2.2.2.2.2.2.2.2.1 x1.2.2.2.2.2.2.2.2.2.1),(1008,Ow 3 y2.2.2.2.2.2.2.2.2.1 x1.2.2.2.2.2.2.2.2.2.2.1),(1009,Ow 3 y2.2.2.2.2.2.2.2.2.2 x1.2.2.2.2.2.2.2.2.2.2.2),(1010,Mg b6 x5),(1990,TbT)] a w) ?_ λa w s=>?_
       ·refine cm s I hz8 (λhb hm=>?_) (λhb hm=>?_)
        ·refine rg (sq s (mv (t I)) I λa w s=>sq s (ad (t I) ci) I λa w s=>sq s (sa (t I)) I λa w s=>nl ?_);obtain rfl:=si hm;exact s.pick [0,1,2,3,4,5,6,7,8,10,23,24,25,30,1000,1001,1002,1003,1004,1005,1006,1007,1008,1009,1010,1990]
        ·refine wpIn_skip ?_;obtain rfl:=si hm;exact s.pick [0,1,2,3,4,5,6,7,8,10,23,24,25,30,1000,1001,1002,1003,1004,1005,1006,1007,1008,1009,1010,1990]
       ·replace hm:=hkz8;obtain rfl:=si hm;exact s.pick [0,1,2,3,4,5,6,7,8,10,23,24,25,30,1000,1001,1002,1003,1004,1005,1006,1007,1008,1009,1010,1990]
     ·replace hm:=hkz7;refine rg (sq s (ad (t I) ci) I λa w s=>sq s (mv (t I)) I λa w s=>nl ?_);exact ⟨_,hm,s.pick [0,1,2,3,4,5,6,7,8,23,24,25,1000,1001,1002,1003,1004,1005,1006,1007,1008,1009,1990]⟩
    ·refine wpIn_exit ?_;obtain rfl:=si hm;exact s.pick [0,1,2,3,4,5,6,7,8,23,24,25,1000,1001,1002,1003,1004,1005,1006,1007,1008,1009,1990]
   ·replace hm:=hko4;refine se (rg (sq s (mv (t I)) I λa w s=>sq s (mv (t I)) I λa w s=>sq s (sa (t I)) I λa w s=>sq s (sa (t I)) I λa w s=>sq s (sa ci) I λa w s=>nl ?_));obtain rfl:=si hm;refine wpIn_ret ?_;exact rn hD s I (rv3 (rt I) (rt I) (rt I))
def Lq (v0:Ah):Nat->(Int×Int)->Option (Int×Int)
 | 0,_=>none
 | n+1,z12=>(bif (decide (z12.2 < (v0.Steps.length:Int))) then (idx v0.Steps z12.2).bind λx14=>(bif (decide (x14.Wait > 0)) then some (wr (z12.1 + 1)) else some z12.1).bind λz16=>Lq v0 n (z16,(wr (z12.2 + 1))) else some (z12.1,z12.2))
def m6 (f:Nat) (v0:Ah):Option (Bool):=(m19 f v0 (16:Int)).bind λx1=>(bif (!x1) then some true else (m32 f v0).bind λx2=>(nem x2).bind λx3=>some false).bind λr4=>(bif r4 then (m20 f).bind λx5=>some x5 else (m33 f v0).bind λx7=>(bif (x7.2 != 0) then bif (x7.2 == 5) then ((m20 f).bind λx8=>some (bif (x7.2 == 5) then x8 else false)) else (some false) else (m34 f v0).bind λx8=>(m35 f v0).bind λx9=>(m36 f v0 x9.1).bind λx10=>(m37 f v0).bind λx11=>(bif ((((wr ((wr ((wr (x8.2 + x9.2)) + x10.2)) + x11.2.2)) != 0) || ((x7.1.length:Int) != (x8.1.length:Int))) || (x10.1 != (x8.1.length:Int))) then some false else (Lq v0 f ((0:Int),(0:Int))).bind λo13s=>bif ((x11.2.1 == o13s.1) && ((x11.1 == x10.1) || ((x10.1 == 2) && (x11.1 == 1)))) then ((m20 f).bind λx17=>some (bif ((x11.2.1 == o13s.1) && ((x11.1 == x10.1) || ((x10.1 == 2) && (x11.1 == 1)))) then x17 else false)) else (some false))))
theorem s6 (f:Nat) (v0:Ah) (r:Bool) (hm:m6 f v0=some r):Sp Tryz.prog 6 [TV (Va v0)] (Va r):=by
 unfold m6 at hm;refine ens func6 kr_ I ntmps6 I I λM W a hM hD s=>?_;refine ntb (d:=0) 1990 s I I λs=>?_;refine R 2 s λa w s=>?_;refine se ?_;obtain ⟨x1,hx1,hm⟩:=bk hm;obtain ⟨r4,hr4,hm⟩:=bs hm;have gr4:=gF hr4;have er4:=gT hr4;obtain ⟨x2,hx2,gr4⟩:=gk gr4;obtain ⟨x3,hx3,gr4⟩:=gk gr4;have:=pko gr4 er4;refine se (rg (ru 6 s λa w s=>sg s I I (λhb=>(eqnn (e:=3) (tg I hb) cq kr_ (hx3.h hb))) I λa w s=>ru 1 s λa w s=>nl ?_));refine cmf s hm (λhb hm=>?_) λhb hm=>?_
 ·obtain ⟨x5,hx5,hm⟩:=bk hm;refine se (rg (cgv [1990] [1990] hM s qf I on vn vn (s20 f _ hx5.e) (kc I kn) I (λ_=>I) I I I λy6 a w s=>ru 1 s λa w s=>nl ?_));cases hm;exact rT hD s I I
 ·obtain ⟨x7,hx7,hm⟩:=bk hm;refine se (rg (ru 1 s λa w s=>sq s (cc I (oc (otb (k:=1990) (t I) I) on) (s33 f _ _ hx7.e)) I λa w s=>ru 5 s λa w s=>nl ?_));refine se (R 2 s λa w s=>?_);refine cmf s hm (λhb hm=>?_) λhb hm=>?_
  ·rcases bfc hm with ⟨hb0,hm⟩ | ⟨hb0,hm⟩
   ·obtain ⟨x8,hx8,hm⟩:=bk hm;refine se (rg (ru 3 s λa w s=>gon s I I hb0 <| cgv [1990] [1990] hM s qf I on vn vn (s20 f _ hx8.e) (kc I kn) I (λ_=>I) I I I λy9 a w s=>sq s (pk (t I) (t I) cb) I λa w s=>ru 1 s λa w s=>nl ?_));cases hm;exact rT hD s I I
   ·refine se (rg (ru 3 s λa w s=>Kj s I I hb0 I λa w s=>sq s (pkF (t I) hb0 cb) I λa w s=>ru 1 s λa w s=>nl ?_));cases hm;exact rT hD s I I
  ·obtain ⟨x8,hx8,hm⟩:=bk hm;refine se (rg (ru 1 s λa w s=>sq s (cc I (oc (otb (k:=1990) (t I) I) on) (s34 f _ _ hx8.e)) I λa w s=>ru 5 s λa w s=>nl ?_));obtain ⟨x9,hx9,hm⟩:=bk hm;refine se (rg (ru 1 s λa w s=>sq s (cc I (oc (otb (k:=1990) (t I) I) on) (s35 f _ _ hx9.e)) I λa w s=>ru 5 s λa w s=>nl ?_));obtain ⟨x10,hx10,hm⟩:=bk hm;refine se (rg (ru 2 s λa w s=>sq s (cc I (oc (otb (k:=1990) (t I) I) (oc (t I) on)) (s36 f _ _ _ hx10.e)) I λa w s=>ru 5 s λa w s=>nl ?_));obtain ⟨x11,hx11,hm⟩:=bk hm;refine se (rg (ru 1 s λa w s=>sq s (cc I (oc (otb (k:=1990) (t I) I) on) (s37 f _ _ hx11.e)) I λa w s=>ru 7 s λa w s=>nl ?_));refine se (R 21 s λa w s=>?_);refine cmf s hm (λhb hm=>?_) λhb hm=>?_
   ·refine R 1 s λa w s=>?_;cases hm;exact rT hD s I I
   ·refine R 1 s λa w s=>?_;refine se (R 4 s λa w s=>?_);refine lA hm [0,1,2,3,4,5,6,7,8,9,10,11,12,81,82,1990] s (λz12=>[(13,Va z12.1),(83,Va z12.2)]) s.fi (λ_=>I) (λo13s hko13 n z12 a w hm s=>?_) λo13s hm a w s=>?_
    ·unfold Lq at hm;refine R 1 s λa w s=>?_;refine se (cmt s hm (λhb hm=>?_) λhb hm=>?_)
     ·refine se (wpIn_block ?_);refine se (rg (iB s hm λx14 hm a w s=>ru 1 s λa w s=>aR 1000 s λb15 a w s=>sW s I λw s=>nl ?_));refine R 3 s λa w s=>?_;obtain ⟨z16,hz16,hkz16⟩:=bs hm;refine cP [0,1,2,3,4,5,6,7,8,9,10,11,12,15,81,82,83,1000,1990] s [(13,Va z16)] ?_ λa w s=>?_
      ·refine cm s I hz16 (λhb hm=>?_) (λhb hm=>?_)
       ·refine R0 3 s λa w s=>?_;obtain rfl:=si hm;exact s.fi
       ·refine wpIn_skip ?_;obtain rfl:=si hm;exact s.fi
      ·replace hm:=hkz16;refine R0 2 s λa w s=>?_;exact ⟨_,hm,s.fi⟩
     ·refine wpIn_exit ?_;obtain rfl:=si hm;exact s.fi
    ·rcases bfc hm with ⟨hb0,hm⟩ | ⟨hb0,hm⟩
     ·obtain ⟨x17,hx17,hm⟩:=bk hm;refine se (rg (ru 13 s λa w s=>sn s I I (λhb hc=>(pagP (tg I (g2 hb hc)) I (λh=>g2 (g2 hb hc) h))) I λa w s=>ru 3 s λa w s=>gon s I I hb0 <| cgv [1990] [1990] hM s qf I on vn vn (s20 f _ hx17.e) (kc I kn) I (λ_=>I) I I I λy18 a w s=>sq s (pk (t I) (t I) cb) I λa w s=>ru 1 s λa w s=>nl ?_));cases hm;exact rT hD s I I
     ·refine se (rg (ru 13 s λa w s=>sn s I I (λhb hc=>(pagP (tg I (g2 hb hc)) I (λh=>g2 (g2 hb hc) h))) I λa w s=>ru 3 s λa w s=>Kj s I I hb0 I λa w s=>sq s (pkF (t I) hb0 cb) I λa w s=>ru 1 s λa w s=>nl ?_));cases hm;exact rT hD s I I
end Go.Pn
set_option synthInstance.checkSynthOrder false
set_option synthInstance.maxSize 10000
set_option synthInstance.maxHeartbeats 400000
namespace Go.Pn
open Go Go.RowKit Go.Proofs
end Go.Pn
namespace Go.Pn
theorem Be {x:Int} (h1:-9223372036854775808<=x) (h2:x<=9223372036854775807):wr x=x:=by
 simp only [wr,IntKind.wrap,IntKind.bits,IntKind.signed];simp;omega
theorem Ak {α:Type} {xs:List α} {n:Nat}:idx xs (n:Int)=xs[n]?:=by simp [idx]
end Go.Pn
namespace Go.Pn
open Go
theorem Am {i:Nat} (h:i < 4611686018427387904):wr ((i:Int) + 1)=((i + 1:Nat):Int):=by
 rw [Be om_ om_];rfl
theorem An {i n:Nat}:decide ((i:Int) < (n:Int))=decide (i < n):=by
 simp
def FF:Nat:=100000
end Go.Pn
namespace Go.Pn
theorem lT {i n : Nat} {α : Type} {a b : α} (h : i < n) : (bif decide ((i : Int) < (n : Int)) then a else b) = a := by rw [An, decide_eq_true h]; rfl
theorem lF {i n : Nat} {α : Type} {a b : α} (h : ¬ i < n) : (bif decide ((i : Int) < (n : Int)) then a else b) = b := by rw [An, decide_eq_false h]; rfl
theorem iX {α β : Type} {xs : List α} {i : Nat} {f : α → Option β} (h : i < xs.length) : (idx xs (i : Int)).bind f = f xs[i] := by rw [Ak, List.getElem?_eq_getElem h]; rfl
theorem uF {p : Prop} (h : p := by unfold FF; omega) : p := h
end Go.Pn
namespace Go.Pn
open Go
theorem n0:((0:Nat):Int)=0:=rfl
end Go.Pn
namespace Go.Pn
open Go
theorem Eg {β:Type} {L:Nat->Int->Option (Lo Int β)} {N:Nat} {Q:Nat->Bool} {r:Int->β}
  (h:∀ (n i:Nat),i < N->L (n + 1) (i:Int)=bif Q i then some (.ret (r (i:Int))) else L n ((i + 1:Nat):Int)) (h':∀ (n:Nat),L (n + 1) (N:Int)=some (.brk (N:Int))) :
  ∀ (n i:Nat),i<=N->N - i < n->(∃ k,i<=k/\k < N/\Q k=true/\L n (i:Int)=some (.ret (r (k:Int))))\/(L n (i:Int)=some (.brk (N:Int))/\∀ k,i<=k->k < N->Q k=false)
 | 0,i,_,h=>by omega
 | n + 1,i,h1,h2=>by
  by_cases hi:i < N
  ·rw [h n i hi];cases hq:Q i with
   | true=>exact .inl ⟨i,Nat.le_refl _,hi,hq,rfl⟩
   | false=>
    rw [cf_];rcases Eg h h' n (i + 1) om_ om_ with ⟨k,h3,h4,h5,h6⟩ | ⟨h3,h4⟩
    ·exact .inl ⟨k,by omega,h4,h5,h6⟩
    ·refine .inr ⟨h3,λk hk hk2=>?_⟩;rcases Nat.eq_or_lt_of_le hk with rfl | h5
     ·exact hq
     ·exact h4 k h5 hk2
  ·obtain rfl:i=N:=by omega
   exact .inr ⟨h' n,λk hk hk2=>by omega⟩
end Go.Pn
namespace Go.Pn
open Go
theorem Ob {S σ:Type} {L:Nat->S->Option S} {mk:Nat->σ->S} {N:Nat} {I:Nat->σ->Prop}
  (h:∀ (n i:Nat) s,i < N->I i s->∃ s',I (i + 1) s'/\L (n + 1) (mk i s)=L n (mk (i + 1) s')) (h':∀ (n:Nat) s,I N s->L (n + 1) (mk N s)=some (mk N s)) :
  ∀ (n i:Nat) s,i<=N->N - i < n->I i s->∃ s',I N s'/\L n (mk i s)=some (mk N s')
 | 0,i,_,_,h,_=>by omega
 | n + 1,i,s,h1,h2,hI=>by
  by_cases hi:i < N
  ·obtain ⟨s',h3,h4⟩:=h n i s hi hI;rw [h4];exact Ob h h' n (i + 1) s' om_ om_ h3
  ·obtain rfl:i=N:=by omega
   exact ⟨s,hI,h' n s hI⟩
end Go.Pn
namespace Go.Pn
open Go
theorem Bo {α:Type} {xs ys:List α} (h:xs.length + ys.length<=1073741824):app xs ys=some (xs ++ ys):=if_pos h
end Go.Pn
namespace Go.Pn
open Go
theorem mks_ok {α:Type} {z:α} {n:Nat} (h:n<=1000):mks z (n:Int)=some (List.replicate n z):=by
 unfold mks;rw [if_pos om_,Int.toNat_natCast]
end Go.Pn
namespace Go.Pn
open Go
def lnx (n:Nat):Expr:=⟨1,(n:Int),[]⟩
def Nu (op:Int):List Nat->Expr
 | [n]=>lnx n
 | l=>⟨op,0,l.map lnx⟩
end Go.Pn
namespace Go.Pn
open Go
inductive Sg where
 | gl (j:Nat)
 | tm (k:Nat)
 | sg (k:Nat)
 | pl (a:Nat) (o:Bool)
structure CasD where
 A:Nat
 n:Nat
 G:Nat
 S:Nat->List (Nat×Bool)
 W:Nat->Bool
 g:Nat->Nat
 la:Nat->Nat
 no:Sg->Nat
 ch:Bool
namespace CasD
def L (q:CasD) (x:Sg):Nat:=2 * q.A + 1 + q.no x
def sw (x:Nat×Bool):Nat:=2 * x.1 + x.2.toNat
def en (q:CasD) (k:Nat):List Nat:=if q.W k=true then [q.L (.tm k)] else (q.S k).map sw
def nx (q:CasD) (j:Nat):Nat:=if j + 1 < q.G then j + 1 else 0
def pv (q:CasD) (j:Nat):Nat:=if j=0 then q.G - 1 else j - 1
def bg (q:CasD) (k:Nat):List Nat:=if k=0 then [2 * q.A] else if q.g (k - 1)=q.g k then q.en (k - 1) else []
def at_ (q:CasD) (a:Nat) (o:Bool):List Nat:=(List.range q.n).filter λk=>decide ((a,o)∈q.S k)
end CasD
variable {c:Aa} {q:CasD} {s:Ad} {E:Nat->Int} {V M:Nat->Bool} {T:Nat->Int} {st:Bool}
end Go.Pn
namespace Go.Pn
open Go
variable {c:Aa} {q:CasD} {s:Ad} {E:Nat->Int} {V M:Nat->Bool} {T:Nat->Int} {st:Bool}
theorem CasD.pvl {q:CasD} (h:2<=q.G) {j:Nat} (hj:j < q.G):q.pv j < q.G:=by unfold CasD.pv; split <;> omega
theorem CasD.nxl {q:CasD} (h:2<=q.G) {j:Nat}:q.nx j < q.G:=by unfold CasD.nx; split <;> omega
end Go.Pn
namespace Go.Pn
open Go
def CasD.pos (q:CasD):Nat->Nat->Bool
 | 0,_=>false
 | k + 1,a=>if (a,true)∈q.S k then true else if (a,false)∈q.S k then false else q.pos k a
variable {q:CasD}
theorem Lj {k a:Nat} (ha:∀ o,(a,o) ∉ q.S k):q.pos (k + 1) a=q.pos k a:=by
 show (if (a,true)∈q.S k then true else if (a,false)∈q.S k then false else q.pos k a)=_
 rw [if_neg (ha true),if_neg (ha false)]
end Go.Pn
namespace Go.Pn
open Go
variable {c:Aa} {q:CasD} {s:Ad} {E:Nat->Int} {V M:Nat->Bool} {T:Nat->Int} {st:Bool}
theorem Se {α:Type} {l:List α} {i j:Nat} {x d:α} (hi:i < l.length):(l.set i x).getD j d=if i=j then x else l.getD j d:=by
 rw [List.getD_eq_getElem?_getD,List.getElem?_set];by_cases h:i=j
 ·subst h;rw [if_pos rfl,if_pos rfl,if_pos hi];rfl
 ·rw [if_neg h,if_neg h,List.getD_eq_getElem?_getD]
end Go.Pn
namespace Go.Pn
open Go
namespace Csc
def stp (s:Ah) (k:Nat):Step:=s.Steps.getD k default
def S (s:Ah) (k:Nat):List (Nat×Bool):=(stp s k).Strokes.map λx=>(x.Actuator.toNat,x.Out)
def W (s:Ah) (k:Nat):Bool:=(stp s k).Wait != 0
def rep (s:Ah) (i k:Nat):Bool:=(S s i).any λx=>(S s k).any λy=>x.1 == y.1
def brk (s:Ah) (b k:Nat):Bool:=(List.range k).any λi=>decide (b<=i) && rep s i k
def gb (s:Ah):Nat->Nat×Nat
 | 0=>(0,0)
 | k + 1=>if brk s (gb s k).1 (k + 1)=true then (k + 1,(gb s k).2 + 1) else gb s k
def dl (s:Ah):Nat->List Nat
 | 0=>[0]
 | k + 1=>if brk s (gb s k).1 (k + 1)=true then dl s k ++ [k + 1] else dl s k
def n (s:Ah):Nat:=s.Steps.length
def g (s:Ah) (k:Nat):Nat:=(gb s k).2
def dv (s:Ah):List Nat:=dl s (n s - 1)
def G (s:Ah):Nat:=(dv s).length
def las (s:Ah) (j:Nat):Nat:=if j + 1 < G s then (dv s).getD (j + 1) 0 - 1 else n s - 1
def A (s:Ah):Nat:=s.Actuators.toNat
def cts (s:Ah) (k:Nat):Nat:=((List.range k).filter (W s)).length
def no (s:Ah):Sg->Nat
 | .gl j=>if G s=2 then 1 - j else j
 | .tm k=>G s + cts s k
 | .sg k=>G s + cts s (n s) + k
 | .pl a o=>G s + cts s (n s) + n s + 2 * a + (if o=true then 0 else 1)
def dat (s:Ah):CasD:=⟨A s,n s,G s,S s,W s,g s,las s,no s,false⟩
end Csc
open Csc
variable {s:Ah}
theorem gb_s (k:Nat):gb s (k + 1)=if brk s (gb s k).1 (k + 1)=true then (k + 1,(gb s k).2 + 1) else gb s k:=rfl
theorem dl_s (k:Nat):dl s (k + 1)=if brk s (gb s k).1 (k + 1)=true then dl s k ++ [k + 1] else dl s k:=rfl
theorem g_s (k:Nat):g s (k + 1)=if brk s (gb s k).1 (k + 1)=true then g s k + 1 else g s k:=by
 unfold g; rw [gb_s]; split <;> rfl
theorem Mo:∀ k,(gb s k).1<=k
 | 0=>Nat.le_refl _
 | k + 1=>by
  rw [gb_s];split
  ·exact Nat.le_refl _
  ·have:=Mo k;omega
theorem Lf:∀ k,(dl s k).length=g s k + 1
 | 0=>rfl
 | k + 1=>by
  have:=Lf k;rw [dl_s,g_s];split
  ·rw [List.length_append,this];rfl
  ·exact this
theorem Qx {i:Nat}:∀ {k:Nat},i<=k->∃ t,dl s k=dl s i ++ t
 | 0,h=>by
  obtain rfl:i=0:=by omega
  exact ⟨[],by simp⟩
 | k + 1,h=>by
  rcases Nat.eq_or_lt_of_le h with e | e
  ·subst e;exact ⟨[],by simp⟩
  ·obtain ⟨t,ht⟩:=Qx (i:=i) (k:=k) om_;rw [dl_s];split
   ·exact ⟨t ++ [k + 1],by rw [ht,List.append_assoc]⟩
   ·exact ⟨t,ht⟩
theorem Fh:∀ k,(dl s k)[g s k]?=some (gb s k).1
 | 0=>rfl
 | k + 1=>by
  have h:=Fh k;have hl:=Lf (s:=s) k;rw [dl_s,g_s,gb_s];split
  ·rw [List.getElem?_append_right om_,hl,Nat.sub_self];rfl
  ·exact h
theorem Dc {i:Nat}:∀ {k:Nat},i<=k->g s i<=g s k
 | 0,h=>by
  obtain rfl:i=0:=by omega
  exact Nat.le_refl _
 | k + 1,h=>by
  rcases Nat.eq_or_lt_of_le h with e | e
  ·subst e;exact Nat.le_refl _
  ·have:=Dc (i:=i) (k:=k) om_;rw [g_s];split <;> omega
theorem Nh (k:Nat):g s (k + 1)=g s k\/g s (k + 1)=g s k + 1:=by
 rw [g_s];split
 ·exact .inr rfl
 ·exact .inl rfl
theorem Mn {i:Nat}:∀ {k:Nat},i<=k->g s i=g s k->gb s i=gb s k
 | 0,h,_=>by
  obtain rfl:i=0:=by omega
  rfl
 | k + 1,h,hg=>by
  rcases Nat.eq_or_lt_of_le h with e | e
  ·subst e;rfl
  ·have h1:=Dc (s:=s) (show i<=k by omega);have h2:=Dc (s:=s) (show k<=k + 1 by omega);have h3:=Mn (i:=i) (k:=k) om_ om_;have h4:g s k=g s (k + 1):=by omega
   rw [h3,gb_s];rw [g_s] at h4;by_cases hb:brk s (gb s k).1 (k + 1)=true
   ·rw [if_pos hb] at h4;omega
   ·rw [if_neg hb]
theorem Ta {i k a:Nat} {o o':Bool} (h1:(a,o)∈S s i) (h2:(a,o')∈S s k):rep s i k=true:=by
 unfold rep;rw [List.any_eq_true];refine ⟨_,h1,?_⟩;rw [List.any_eq_true];exact ⟨_,h2,by simp⟩
theorem Qq {i k a:Nat} {o o':Bool} (hik:i < k) (hg:g s i=g s k) (h1:(a,o)∈S s i) (h2:(a,o')∈S s k):False:=by
 obtain ⟨k,rfl⟩:∃ k',k=k' + 1:=⟨k - 1,by omega⟩;have hb:=Mn (s:=s) (show i<=k + 1 by omega) hg;have hk:g s k=g s (k + 1):=by
  have h3:=Dc (s:=s) (show i<=k by omega);have h4:=Dc (s:=s) (show k<=k + 1 by omega);omega
 have hbk:=Mn (s:=s) (show i<=k by omega) om_;have hi:=Mo (s:=s) i;rw [g_s] at hk;by_cases hn:brk s (gb s k).1 (k + 1)=true
 ·rw [if_pos hn] at hk;omega
 ·refine hn ?_;unfold brk;rw [List.any_eq_true];refine ⟨i,List.mem_range.2 hik,?_⟩;rw [Bool.and_eq_true,decide_eq_true_iff];exact ⟨by rw [← hbk];exact hi,Ta h1 h2⟩
theorem Hy {j:Nat}:∀ {k:Nat},j<=g s k->∃ b,(dl s k)[j]?=some b/\b<=k/\g s b=j/\(0 < b->g s (b - 1) + 1=j)/\(j=0->b=0)
 | 0,h=>by
  obtain rfl:j=0:=by have:g s 0=0:=rfl;omega
  exact ⟨0,rfl,Nat.le_refl _,rfl,λh=>by omega,λ_=>rfl⟩
 | k + 1,h=>by
  by_cases hj:j<=g s k
  ·obtain ⟨b,h1,h2,h3,h4,h5⟩:=Hy (k:=k) hj;obtain ⟨t,ht⟩:=Qx (s:=s) (show k<=k + 1 by omega);refine ⟨b,?_,by omega,h3,h4,h5⟩;rw [ht,List.getElem?_append_left (List.getElem?_eq_some_iff.1 h1).1];exact h1
  ·have hs:=Nh (s:=s) k;have hgk:g s (k + 1)=g s k + 1:=by omega
   obtain rfl:j=g s (k + 1):=by omega
   have hgb:(gb s (k + 1)).1=k + 1:=by
    rw [g_s] at hgk;rw [gb_s];by_cases hb:brk s (gb s k).1 (k + 1)=true
    ·rw [if_pos hb]
    ·rw [if_neg hb] at hgk;omega
   refine ⟨k + 1,?_,Nat.le_refl _,rfl,λ_=>by rw [Nat.add_sub_cancel];omega,λh=>by omega⟩;rw [Fh,hgb]
theorem G_eq:G s=g s (n s - 1) + 1:=Lf _
theorem la_ok (h0:0 < n s) {j:Nat} (hj:j < G s):las s j < n s/\g s (las s j)=j/\(las s j + 1 < n s->g s (las s j + 1)=j + 1):=by
 have hG:=G_eq (s:=s);unfold las;by_cases h:j + 1 < G s
 ·rw [if_pos h];obtain ⟨b,h1,h2,h3,h4,h5⟩:=Hy (s:=s) (j:=j + 1) (k:=n s - 1) om_;have hd:(dv s).getD (j + 1) 0=b:=by unfold dv;rw [List.getD_eq_getElem?_getD,h1];rfl
  have hb:0 < b:=by
   rcases Nat.eq_zero_or_pos b with e | e
   ·subst e;have:g s 0=0:=rfl;omega
   ·exact e
  rw [hd];have:=h4 hb;refine ⟨by omega,by omega,λ_=>?_⟩;rw [Nat.sub_add_cancel hb];exact h3
 ·rw [if_neg h];refine ⟨by omega,by omega,λh=>by omega⟩
structure Sqc (s:Ah):Prop where
 a0:1<=s.Actuators
 a6:s.Actuators<=6
 n0:0 < n s
 ne:∀ k,k < n s->(stp s k).Strokes≠[]
 ac:∀ k,k < n s->∀ x∈(stp s k).Strokes,0<=x.Actuator/\x.Actuator < s.Actuators
 w0:∀ k,k < n s->0<=(stp s k).Wait
 fits:∀ k,k < n s->∀ a o,(a,o)∈S s k->(dat s).pos k a=!o
 back:∀ a,(dat s).pos (n s) a=false
 mv:∀ a,a < A s->∃ k o,k < n s/\(a,o)∈S s k
theorem Sqc.g2 (h:Sqc s):2<=G s:=by
 have hG:=G_eq (s:=s);rcases Nat.lt_or_ge (G s) 2 with h2 | h2
 ·exfalso;obtain ⟨k,o,hk,ha⟩:=h.mv 0 (by have:=h.a0;unfold A;omega);revert ha;generalize (0:Nat)=a;intro ha;have h0:∀ i,i < n s->g s i=0:=λi hi=>by have:=Dc (s:=s) (show i<=n s - 1 by omega);omega
  -- the sequence of a single group
  have key:∀ d,k + d < n s->(dat s).pos (k + d + 1) a=o:=by
   intro d
   induction d with
   | zero=>
    intro hd;show (if (a,true)∈S s k then true else if (a,false)∈S s k then false else (dat s).pos k a)=o
    have hf:=h.fits k hk a o ha;cases o with
    | true=>rw [if_pos ha]
    | false=>rw [if_neg (λe=>by have:=h.fits k hk a true e;rw [hf] at this;cases this),if_pos ha]
   | succ d ih=>
    intro hd;have h1:=ih om_;have hno:∀ o',(a,o') ∉ (dat s).S (k + d + 1):=λo' ho=>Qq (s:=s) (show k < k + d + 1 by omega) (by rw [h0 _ hk,h0 _ om_]) ha ho;rw [show k + (d + 1) + 1=(k + d + 1) + 1 by omega,Lj hno];exact h1
  have h3:=key (n s - 1 - k) om_;rw [show k + (n s - 1 - k) + 1=n s by omega,h.back] at h3;have key2:∀ d,d<=k->(dat s).pos (k - d) a=!o:=by
   intro d
   induction d with
   | zero=>intro _;exact h.fits k hk a o ha
   | succ d ih=>
    intro hd;have h1:=ih om_;have hno:∀ o',(a,o') ∉ (dat s).S (k - (d + 1)):=λo' ho=>Qq (s:=s) (show k - (d + 1) < k by omega) (by rw [h0 _ hk,h0 _ om_]) ho ha;rw [show k - d=k - (d + 1) + 1 by omega,Lj hno] at h1;exact h1
  have h4:=key2 k (Nat.le_refl _);rw [Nat.sub_self] at h4;have h5:(dat s).pos 0 a=false:=rfl;rw [h5] at h4;cases o
  ·cases h4
  ·cases h3
 ·exact h2
end Go.Pn
namespace Go.Pn
open Go
open Csc
variable {s:Ah}
theorem Hv {α:Type} {f h:Nat->α}:∀ {n:Nat},((List.range n).flatMap λa=>[f a,h a]).length=2 * n
 | 0=>rfl
 | n + 1=>by rw [List.range_succ,List.flatMap_append,List.length_append,Hv];simp;omega
abbrev zxp:Expr:=⟨0,0,[]⟩
namespace Csc
def sgG (N:Sg->ByteArray) (s:Ah):List Ae:=
 if G s=2 then [⟨N (.gl 1),1,Nu 3 ((dat s).en (las s 0)),Nu 3 ((dat s).en (las s 1)),0,false⟩,⟨N (.gl 0),0,⟨2,0,[lnx ((dat s).L (.gl 1))]⟩,zxp,0,false⟩]
 else (List.range (G s)).map λj=>⟨N (.gl j),1,Nu 3 ((dat s).L (.gl ((dat s).pv j)) :: (dat s).en (las s ((dat s).pv j))),lnx ((dat s).L (.gl ((dat s).nx j))),0,decide (j=0)⟩
def sT (N:Sg->ByteArray) (s:Ah) (k:Nat):Ae:=⟨N (.tm k),2,Nu 3 ((dat s).L (.gl (g s k)) :: (S s k).map CasD.sw),zxp,(stp s k).Wait,false⟩
def sS (N:Sg->ByteArray) (s:Ah) (k:Nat):Ae:=⟨N (.sg k),0,Nu 3 ((dat s).L (.gl (g s k)) :: (dat s).bg k),zxp,0,false⟩
def sP (N:Sg->ByteArray) (s:Ah) (o:Bool) (a:Nat):Ae:=⟨N (.pl a o),0,Nu 4 (((dat s).at_ a o).map λk=>(dat s).L (.sg k)),zxp,0,false⟩
def sgs (N:Sg->ByteArray) (s:Ah):List Ae:=sgG N s ++ (((List.range (n s)).filter (W s)).map (sT N s) ++ ((List.range (n s)).map (sS N s) ++ (List.range (A s)).flatMap λa=>[sP N s true a,sP N s false a]))
end Csc
variable {N:Sg->ByteArray} {i:ByteArray}
theorem Jo:(sgG N s).length=G s:=by
 unfold sgG;split
 ·rename_i h;rw [h];rfl
 ·rw [List.length_map,List.length_range]
theorem sgs_len:(sgs N s).length=G s + cts s (n s) + n s + 2 * A s:=by
 unfold sgs;rw [List.length_append,List.length_append,List.length_append,Jo,List.length_map,List.length_map,List.length_range,Hv];show G s + (cts s (n s) + (n s + 2 * A s))=_;omega
end Go.Pn
namespace Go.Pn
open Go
open Csc
theorem chkI {L:Nat->Int->Option (Lo Int Int)} {N:Nat} {P:Nat->Prop}
  (h:∀ (n i:Nat),i < N->(∃ e,e≠0/\L (n + 1) (i:Int)=some (.ret e))\/(P i/\L (n + 1) (i:Int)=L n ((i + 1:Nat):Int))) (h':∀ n,L (n + 1) (N:Int)=some (.brk (N:Int))) :
  ∀ (n i:Nat),i<=N->N - i < n->(∃ e,e≠0/\L n (i:Int)=some (.ret e))\/(L n (i:Int)=some (.brk (N:Int))/\∀ k,i<=k->k < N->P k)
 | 0,i,_,h=>by omega
 | n + 1,i,h1,h2=>by
  by_cases hi:i < N
  ·rcases h n i hi with h3 | ⟨h3,h4⟩
   ·exact .inl h3
   ·rw [h4];rcases chkI h h' n (i + 1) om_ om_ with h5 | ⟨h5,h6⟩
    ·exact .inl h5
    ·refine .inr ⟨h5,λk h7 h8=>?_⟩;rcases Nat.eq_or_lt_of_le h7 with e | e
     ·subst e;exact h3
     ·exact h6 k e h8
  ·obtain rfl:i=N:=by omega
   exact .inr ⟨h' n,λk h3 h4=>by omega⟩
structure Stk (x:Step):Prop where
 ne:x.Strokes≠[]
 le:x.Strokes.length<=6
 ac:∀ y∈x.Strokes,0<=y.Actuator/\y.Actuator < 6
 srt:∀ (i:Nat) y z,x.Strokes[i]?=some y->x.Strokes[i + 1]?=some z->y.Actuator < z.Actuator
 w:0<=x.Wait/\x.Wait<=1000000
theorem Qe (x:Step):∃ e,m123 FF x=some e/\(e=0->Stk x):=by
 unfold m123;by_cases h0:x.Strokes=[]
 ·rw [h0];exact ⟨13,rfl,λh=>by omega⟩
 have hl:0 < x.Strokes.length:=List.length_pos_iff.2 h0;rw [show ((x.Strokes.length:Int) == 0)=false by rw [beq_eq_false_iff_ne];omega,cf_];by_cases h6:x.Strokes.length > 6
 ·rw [dt_ om_,ct_];exact ⟨5,rfl,λh=>by omega⟩
 rw [df_ om_,cf_];have h:=chkI (L:=Ck FF x) (N:=x.Strokes.length) (P:=λi=>∀ y,x.Strokes[i]?=some y->(0<=y.Actuator/\y.Actuator < 6)/\∀ j z,i=j + 1->x.Strokes[j]?=some z->z.Actuator < y.Actuator) (λn i hi=>by
  have hx:=gE_ hi;rw [Ck,An,dt_ hi,ct_,Ak,hx,ob_];unfold m203;rw [ob_];by_cases ha:0<=x.Strokes[i].Actuator/\x.Strokes[i].Actuator < 6
  ·rw [dt_ (show x.Strokes[i].Actuator>=0 from ha.1),dt_ ha.2,Bool.and_true,Bool.not_true,cf_];cases i with
   | zero=>
    rw [show decide (((0:Nat):Int) > 0)=false by rfl,cf_,ob_,cf_,cf_,ob_,cf_,Am om_];refine .inr ⟨λy hy=>?_,rfl⟩;obtain rfl:=Option.some.inj hy;exact ⟨ha,λj z hj=>by omega⟩
   | succ i=>
    have hz:=gE_ (show i < x.Strokes.length by omega);have hw:wr (((i + 1:Nat):Int) - 1)=(i:Int):=by rw [Be om_ om_];omega
    rw [dt_ (by omega:((i + 1:Nat):Int) > 0),ct_,hw,Ak,hz];simp only [ob_,ct_];by_cases he:x.Strokes[i + 1].Actuator=x.Strokes[i].Actuator
    ·rw [show (x.Strokes[i + 1].Actuator == x.Strokes[i].Actuator)=true by simpa using he,ct_];exact .inl ⟨7,by omega,rfl⟩
    ·rw [show (x.Strokes[i + 1].Actuator == x.Strokes[i].Actuator)=false by simpa using he,cf_];by_cases hl:x.Strokes[i + 1].Actuator < x.Strokes[i].Actuator
     ·rw [dt_ hl,ct_];exact .inl ⟨9,by omega,rfl⟩
     ·rw [df_ hl,cf_,Am om_];refine .inr ⟨λy hy=>?_,rfl⟩;obtain rfl:=Option.some.inj hy;refine ⟨ha,λj z hj hz'=>?_⟩;obtain rfl:j=i:=by omega
      rw [hz] at hz';obtain rfl:=Option.some.inj hz';omega
  ·have:(decide (x.Strokes[i].Actuator>=0) && decide (x.Strokes[i].Actuator < 6))=false:=by
    rw [Bool.and_eq_false_iff,decide_eq_false_iff_not,decide_eq_false_iff_not];omega
   rw [this,Bool.not_false,ct_];exact .inl ⟨2,by omega,rfl⟩) (λn=>by
  rw [Ck,An,df_ om_,cf_]) FF 0 om_ uF
 rw [n0] at h;rcases h with ⟨e,he,h⟩ | ⟨h,hP⟩
 ·rw [h];exact ⟨e,rfl,λh=>absurd h he⟩
 ·rw [h,ob_];dsimp only;unfold m204;rw [ob_];by_cases hw:0<=x.Wait/\x.Wait<=1000000
  ·rw [dt_ (show x.Wait>=0 from hw.1),dt_ hw.2];refine ⟨0,rfl,λ_=>⟨h0,by omega,λy hy=>?_,λi y z hy hz=>?_,hw⟩⟩
   ·obtain ⟨i,hi⟩:=List.getElem?_of_mem hy;exact (hP i (Nat.zero_le _) (List.getElem?_eq_some_iff.1 hi).1 y hi).1
   ·exact (hP (i + 1) (Nat.zero_le _) (List.getElem?_eq_some_iff.1 hz).1 z hz).2 i y rfl hy
  ·have:(decide (x.Wait>=0) && decide (x.Wait<=1000000))=false:=by
    rw [Bool.and_eq_false_iff,decide_eq_false_iff_not,decide_eq_false_iff_not];omega
   rw [this];exact ⟨2,rfl,λh=>by omega⟩
theorem Stk.asc {x:Step} (h:Stk x) {i j:Nat} {y z:Ab} (hij:i < j) (hy:x.Strokes[i]?=some y) (hz:x.Strokes[j]?=some z):y.Actuator < z.Actuator:=by
 induction j generalizing z with
 | zero=>omega
 | succ j ih=>
  have hj:=(List.getElem?_eq_some_iff.1 hz).1;have hw:=gE_ (show j < x.Strokes.length by omega);have h1:=h.srt j _ z hw hz;rcases Nat.eq_or_lt_of_le (show i<=j by omega) with e | e
  ·subst e;rw [hw] at hy;obtain rfl:=Option.some.inj hy;exact h1
  ·have:=ih e hw;omega
def enf (x:Step) (i:Nat) (v:Bool) (a:Nat):Bool:=match (x.Strokes.take i).find? (λy=>y.Actuator.toNat == a) with | some y=>y.Out | none=>v
theorem Nw {x:Step} {l:List Bool} (h:Stk x) (hl:l.length<=1000) (hA:∀ y∈x.Strokes,y.Actuator < l.length):∃ r,m125 FF x l=some r/\r.length=l.length/\∀ a,a < l.length->r.getD a false=enf x x.Strokes.length (l.getD a false) a:=by
 have h6:=h.le;unfold m125;rw [Bo so_,ob_,List.nil_append];obtain ⟨v,⟨hv1,hv⟩,hh⟩:=Ob (L:=Ci x) (mk:=λi (v:List Bool)=>((i:Int),v)) (N:=x.Strokes.length) (I:=λi v=>v.length=l.length/\∀ a,a < l.length->v.getD a false=enf x i (l.getD a false) a) (λn i v hi hI=>by
  have hx:=gE_ hi;have hac:=h.ac _ (List.getElem_mem hi);have hlt:=hA _ (List.getElem_mem hi);have hid:idx v x.Strokes[i].Actuator=v[x.Strokes[i].Actuator.toNat]?:=by
   rw [show x.Strokes[i].Actuator=((x.Strokes[i].Actuator.toNat:Nat):Int) by omega,Ak];rfl
  have hlt':x.Strokes[i].Actuator.toNat < v.length:=by rw [hI.1];omega
  rw [Ci];dsimp only;rw [An,dt_ hi,ct_,Ak,hx,ob_,ob_,hid,gE_ hlt',ob_,Am om_];refine ⟨_,⟨(List.length_set ..).trans hI.1,λa ha=>?_⟩,rfl⟩;rw [Se hlt'];unfold enf;rw [List.take_add_one,hx];simp only [Option.toList_some];rw [List.find?_append];by_cases e:x.Strokes[i].Actuator.toNat=a
  ·rw [if_pos e];have hno:(x.Strokes.take i).find? (λy=>y.Actuator.toNat == a)=none:=by
    rw [List.find?_eq_none];intro y hy;obtain ⟨j,hj⟩:=List.getElem?_of_mem hy;have hj2:=(List.getElem?_eq_some_iff.1 hj).1;rw [List.length_take] at hj2;rw [List.getElem?_take_of_lt om_] at hj;have h1:=h.asc (show j < i by omega) hj hx;have h2:=h.ac y (List.mem_of_getElem? hj);simp;omega
   rw [hno];simp [e]
  ·rw [if_neg e,hI.2 a ha];have:[x.Strokes[i]].find? (λy=>y.Actuator.toNat == a)=none:=by simp [e]
   rw [this,Option.or_none];rfl) (λn v _=>by
  rw [Ci];dsimp only;rw [An,df_ om_,cf_]) FF 0 l om_ uF ⟨rfl,λa _=>by unfold enf;simp⟩
 try dsimp only at hh
 rw [n0] at hh;rw [hh];exact ⟨v,rfl,hv1,hv⟩
theorem Qw {s:Ah} {k a:Nat} (h:Stk (stp s k)):enf (stp s k) (stp s k).Strokes.length ((dat s).pos k a) a=(dat s).pos (k + 1) a:=by
 unfold enf;rw [List.take_length];show _=if (a,true)∈S s k then true else if (a,false)∈S s k then false else (dat s).pos k a
 cases hf:(stp s k).Strokes.find? (λy=>y.Actuator.toNat == a) with
 | none=>
  rw [List.find?_eq_none] at hf;have hno:∀ o,(a,o) ∉ S s k:=λo ho=>by
   obtain ⟨y,hy,he⟩:=List.mem_map.1 ho;have:=hf y hy;simp at this;exact this (Prod.mk.inj he).1
  rw [if_neg (hno true),if_neg (hno false)]
 | some y=>
  have hy:=List.mem_of_find?_eq_some hf;have ha:y.Actuator.toNat=a:=by have:=List.find?_some hf;simpa using this
  have hm:(a,y.Out)∈S s k:=List.mem_map.2 ⟨y,hy,by rw [ha]⟩;have huniq:∀ o,(a,o)∈S s k->o=y.Out:=λo ho=>by
   obtain ⟨z,hz,he⟩:=List.mem_map.1 ho;obtain ⟨he1,he2⟩:=Prod.mk.inj he;obtain ⟨i,hi⟩:=List.getElem?_of_mem hy;obtain ⟨j,hj⟩:=List.getElem?_of_mem hz;have h1:=h.ac y hy;have h2:=h.ac z hz;rcases Nat.lt_trichotomy i j with h3 | h3 | h3
   ·have:=h.asc h3 hi hj;omega
   ·subst h3;rw [hi] at hj;rw [Option.some.inj hj];exact he2.symm
   ·have:=h.asc h3 hj hi;omega
  cases ho:y.Out with
  | true=>rw [ho] at hm;rw [if_pos hm];exact ho
  | false=>
   rw [ho] at hm huniq;rw [if_neg (λe=>by have:=huniq true e;cases this),if_pos hm];exact ho
end Go.Pn
namespace Go.Pn
open Go
open Csc
variable {s:Ah}
theorem Kz {v:List Bool} {z:Int} (h0:0<=z) (h:z < v.length):idx v z=some (v.getD z.toNat false):=by
 have h1:z.toNat < v.length:=by omega
 have h2:idx v z=v[z.toNat]?:=by
  have:=Ak (xs:=v) (n:=z.toNat);rw [show ((z.toNat:Nat):Int)=z by omega] at this;exact this
 rw [h2,gE_ h1,List.getD_eq_getElem?_getD,gE_ h1];rfl
theorem Qd {x:Step} {l:List Bool} (h:Stk x) (hl:l.length<=1000):∃ b,m124 FF x l=some b/\(b=true->∀ y∈x.Strokes,y.Actuator < l.length/\l.getD y.Actuator.toNat false=!y.Out):=by
 have h6:=h.le;have hh:=Eg (L:=Cj x l) (N:=x.Strokes.length) (Q:=λi=>match x.Strokes[i]? with | some y=>decide (y.Actuator>=(l.length:Int)) || (l.getD y.Actuator.toNat false == y.Out) | none=>false) (r:=λ_=>false) (λn i hi=>by
  have hx:=gE_ hi;have hac:=h.ac _ (List.getElem_mem hi);rw [Cj,An,dt_ hi,ct_,Ak,hx,ob_];dsimp only;by_cases hg:x.Strokes[i].Actuator>=(l.length:Int)
  ·rw [dt_ hg,ct_,ob_,ct_];rfl
  ·rw [df_ hg,cf_,Kz hac.1 om_,ob_,ob_,Bool.false_or,Am om_]) (λn=>by
  rw [Cj,An,df_ om_,cf_]) FF 0 om_ uF
 rw [n0] at hh;unfold m124;rcases hh with ⟨k,_,_,_,hh⟩ | ⟨hh,hq⟩
 ·rw [hh];exact ⟨false,rfl,λh=>by cases h⟩
 ·rw [hh];refine ⟨true,rfl,λ_ y hy=>?_⟩;obtain ⟨i,hi⟩:=List.getElem?_of_mem hy;have:=hq i (Nat.zero_le _) (List.getElem?_eq_some_iff.1 hi).1;rw [hi] at this;dsimp only at this;rw [Bool.or_eq_false_iff,decide_eq_false_iff_not] at this;refine ⟨by omega,?_⟩;have h2:=this.2;cases e:l.getD y.Actuator.toNat false <;> cases e2:y.Out <;> rw [e,e2] at h2 <;> first | rfl | cases h2
structure Gd4 (s:Ah) (k:Nat):Prop where
 st:Stk (stp s k)
 lt:∀ y∈(stp s k).Strokes,y.Actuator < s.Actuators
 ft:∀ a o,(a,o)∈S s k->(dat s).pos k a=!o
theorem Au {k:Nat} (hk:k < n s):s.Steps[k]?=some (stp s k):=by
 unfold stp;rw [List.getD_eq_getElem?_getD,gE_ hk];rfl
theorem Gn (h1:1<=s.Actuators) (h6:s.Actuators<=6) (hn:n s<=64):∀ (m i:Nat) (l:List Bool),i<=n s->n s - i < m->l.length=A s->(∀ a,a < A s->l.getD a false=(dat s).pos i a) ->
  (∃ e,e≠0/\Fv FF s m (l,(i:Int))=some (.ret e))\/(∃ r,Fv FF s m (l,(i:Int))=some (.brk (r,(n s:Int)))/\r.length=A s/\(∀ a,a < A s->r.getD a false=(dat s).pos (n s) a)/\∀ k,i<=k->k < n s->Gd4 s k)
 | 0,i,l,_,h,_,_=>by omega
 | m + 1,i,l,hi1,hi2,hl,hp=>by
  have hA:((A s:Nat):Int)=s.Actuators:=by unfold A;omega
  rw [Fv];dsimp only;by_cases hi:i < n s
  ·have hx:=Au hi;rw [show decide ((i:Int) < (s.Steps.length:Int))=true from dt_ (by unfold n at hi;omega),ct_,Ak,hx,ob_];obtain ⟨e,he,hst⟩:=Qe (stp s i);rw [he,ob_];by_cases h0:e=0
   ·subst h0;have hS:=hst rfl;have h6':=hS.le;rw [zf_,cf_];have hh:=Eg (L:=Fu s (stp s i)) (N:=(stp s i).Strokes.length) (Q:=λj=>match (stp s i).Strokes[j]? with | some y=>decide (y.Actuator>=s.Actuators) | none=>false) (r:=λ_=>6) (λn' j hj=>by
     have hx:=gE_ hj;rw [Fu,An,dt_ hj,ct_,Ak,hx,ob_,Am om_]) (λn'=>by
     rw [Fu,An,df_ om_,cf_]) FF 0 om_ uF
    rw [n0] at hh;rcases hh with ⟨k,_,_,_,hh⟩ | ⟨hh,hq⟩
    ·rw [hh];exact .inl ⟨6,by omega,rfl⟩
    ·rw [hh,ob_];dsimp only;have hlt:∀ y∈(stp s i).Strokes,y.Actuator < s.Actuators:=λy hy=>by
      obtain ⟨j,hj⟩:=List.getElem?_of_mem hy;have:=hq j (Nat.zero_le _) (List.getElem?_eq_some_iff.1 hj).1;rw [hj] at this;have:=of_decide_eq_false this;omega
     obtain ⟨b,hb,hbt⟩:=Qd (l:=l) hS om_;rw [hb,ob_];cases b with
     | false=>rw [nf_,ct_];exact .inl ⟨14,by omega,rfl⟩
     | true=>
      have hft:=hbt rfl;obtain ⟨r,hr,hrl,hrg⟩:=Nw (l:=l) hS om_ (λy hy=>(hft y hy).1);rw [nt_,cf_,hr,ob_,Am om_];have hG:Gd4 s i:=⟨hS,hlt,λa o ho=>by
       obtain ⟨y,hy,he⟩:=List.mem_map.1 ho;obtain ⟨he1,he2⟩:=Prod.mk.inj he;have h3:=hft y hy;have h4:=hS.ac y hy;rw [← hp a om_,← he1,← he2];exact h3.2⟩
      rcases Gn h1 h6 hn m (i + 1) r om_ om_ om_ (λa ha=>by
       rw [hrg a om_,hp a ha];exact Qw hS) with h5 | ⟨r',g1,g2,g3,g4⟩
      ·exact .inl h5
      ·refine .inr ⟨r',g1,g2,g3,λk hk1 hk2=>?_⟩;rcases Nat.eq_or_lt_of_le hk1 with e | e
       ·subst e;exact hG
       ·exact g4 k e hk2
   ·rw [show (e != 0)=true by simpa using h0,ct_];exact .inl ⟨e,h0,rfl⟩
  ·obtain rfl:i=n s:=by omega
   rw [show decide (((n s:Nat):Int) < (s.Steps.length:Int))=false from df_ (by unfold n;omega),cf_];exact .inr ⟨l,rfl,hl,hp,λk _ _=>by omega⟩
theorem Rv (h1:1<=s.Actuators) (h6:s.Actuators<=6) (hn:n s<=64):∃ e,m51 FF s=some e/\(e=0->(∀ k,k < n s->Gd4 s k)/\∀ a,a < A s->(dat s).pos (n s) a=false):=by
 have hA:((A s:Nat):Int)=s.Actuators:=by unfold A;omega
 have hA6:A s<=6:=by omega
 unfold m51;rw [← hA,mks_ok om_,ob_];rcases Gn h1 h6 hn FF 0 (List.replicate (A s) false) om_ uF Bv (λa ha=>by
  rw [List.getD_eq_getElem?_getD,List.getElem?_replicate,if_pos ha];rfl) with ⟨e,he,h⟩ | ⟨r,h,g2,g3,g4⟩
 ·rw [n0] at h;rw [h];exact ⟨e,rfl,λh=>absurd h he⟩
 ·rw [n0] at h;rw [h,ob_];dsimp only;have hh:=Eg (L:=Fp s (r,(n s:Int))) (N:=A s) (Q:=λj=>r.getD j false) (r:=λ_=>9) (λn' j hj=>by
   rw [Fp];rw [show decide ((j:Int) < s.Actuators)=true from dt_ om_,ct_];dsimp only;rw [Ak,gE_ om_,ob_,List.getD_eq_getElem?_getD,gE_ om_,Option.getD_some,Am om_]) (λn'=>by
   rw [Fp,show decide (((A s:Nat):Int) < s.Actuators)=false from df_ om_,cf_]) FF 0 om_ uF
  rw [n0] at hh;rcases hh with ⟨k,_,_,_,hh⟩ | ⟨hh,hq⟩
  ·rw [hh];exact ⟨9,rfl,λh=>by omega⟩
  ·rw [hh];exact ⟨0,rfl,λ_=>⟨λk hk=>g4 k (Nat.zero_le _) hk,λa ha=>by rw [← g3 a ha];exact hq a (Nat.zero_le _) ha⟩⟩
theorem Hr {x:Step} {v:Int} (h:Stk x):∃ w,m126 FF x v=some w/\(w != 0)=x.Strokes.any λy=>y.Actuator == v:=by
 have h6:=h.le;have hh:=Eg (L:=Ch x v) (N:=x.Strokes.length) (Q:=λi=>match x.Strokes[i]? with | some y=>y.Actuator == v | none=>false) (r:=λi=>match x.Strokes[i.toNat]? with | some y=>if y.Out=true then 1 else -1 | none=>1) (λn i hi=>by
  have hx:=gE_ hi;rw [Ch,An,dt_ hi,ct_,Ak,hx,ob_];dsimp only;rw [Int.toNat_natCast,hx];cases x.Strokes[i].Actuator == v with
  | true=>
   rw [ct_,ct_,ob_];dsimp only;cases x.Strokes[i].Out <;> rfl
  | false=>rw [cf_,cf_,Am om_]) (λn=>by
  rw [Ch,An,df_ om_,cf_]) FF 0 om_ uF
 rw [n0] at hh;unfold m126;rcases hh with ⟨k,_,hk,hq,hh⟩ | ⟨hh,hq⟩
 ·have hx:=gE_ hk;rw [hh];refine ⟨_,rfl,?_⟩;rw [Int.toNat_natCast,hx];rw [hx] at hq;dsimp only at hq ⊢;have:(x.Strokes.any λy=>y.Actuator == v)=true:=List.any_eq_true.2 ⟨_,List.getElem_mem hk,hq⟩;rw [this];cases x.Strokes[k].Out <;> rfl
 ·rw [hh];refine ⟨0,rfl,?_⟩;have:(x.Strokes.any λy=>y.Actuator == v)=false:=by
   rw [List.any_eq_false];intro y hy;obtain ⟨i,hi⟩:=List.getElem?_of_mem hy;have:=hq i (Nat.zero_le _) (List.getElem?_eq_some_iff.1 hi).1;rw [hi] at this;simpa using this
  rw [this];rfl
theorem Ru (hn:n s<=64) (hG:∀ k,k < n s->Gd4 s k) (v:Int):∃ b,m52 FF s v=some b/\(b=true->∃ k y,k < n s/\y∈(stp s k).Strokes/\y.Actuator=v):=by
 have hh:=Eg (L:=Fn FF s v) (N:=n s) (Q:=λi=>(stp s i).Strokes.any λy=>y.Actuator == v) (r:=λ_=>true) (λm i hi=>by
  obtain ⟨w,hw,hw2⟩:=Hr (v:=v) (hG i hi).st;rw [Fn,show decide ((i:Int) < (s.Steps.length:Int))=true from dt_ (by unfold n at hi;omega),ct_,Ak,Au hi,ob_,hw,ob_,hw2,Am om_]) (λm=>by
  rw [Fn,show decide (((n s:Nat):Int) < (s.Steps.length:Int))=false from df_ (by unfold n;omega),cf_]) FF 0 om_ uF
 rw [n0] at hh;unfold m52;rcases hh with ⟨k,_,hk,hq,hh⟩ | ⟨hh,_⟩
 ·rw [hh];refine ⟨true,rfl,λ_=>?_⟩;obtain ⟨y,hy,hv⟩:=List.any_eq_true.1 hq;exact ⟨k,y,hk,hy,by simpa using hv⟩
 ·rw [hh];exact ⟨false,rfl,λh=>by cases h⟩
theorem Sd (s:Ah):∃ e,m10 FF s=some e/\(e=0->Sqc s/\n s<=64/\∀ k,k < n s->Stk (stp s k)):=by
 unfold m10;by_cases hA:1<=s.Actuators/\s.Actuators<=6
 ·rw [df_ (show ¬ s.Actuators < 1 by omega),df_ (show ¬ s.Actuators > 6 by omega),Bool.or_false,cf_];by_cases h0:s.Steps.length=0
  ·rw [show ((s.Steps.length:Int) == 0)=true by rw [beq_iff_eq];omega,ct_];exact ⟨13,rfl,λh=>by omega⟩
  rw [show ((s.Steps.length:Int) == 0)=false by rw [beq_eq_false_iff_ne];omega,cf_];by_cases h64:s.Steps.length > 64
  ·rw [dt_ (show (s.Steps.length:Int) > 64 by omega),ct_];exact ⟨5,rfl,λh=>by omega⟩
  rw [df_ (show ¬ (s.Steps.length:Int) > 64 by omega),cf_];have hn:n s<=64:=by unfold n;omega
  obtain ⟨e,he,hst⟩:=Rv hA.1 hA.2 hn;rw [he,ob_];by_cases h0':e=0
  ·subst h0';obtain ⟨hG,hB⟩:=hst rfl;rw [zf_,cf_];have hAc:((A s:Nat):Int)=s.Actuators:=by unfold A;omega
   have hh:=chkI (L:=Ga FF s) (N:=A s) (P:=λi=>∃ k y,k < n s/\y∈(stp s k).Strokes/\y.Actuator=(i:Int)) (λm i hi=>by
    obtain ⟨b,hb,hb2⟩:=Ru hn hG (i:Int);rw [Ga,show decide ((i:Int) < s.Actuators)=true from dt_ om_,ct_,hb,ob_];cases b with
    | false=>exact .inl ⟨13,by omega,rfl⟩
    | true=>rw [Bool.not_true,cf_,Am om_];exact .inr ⟨hb2 rfl,rfl⟩) (λm=>by
    rw [Ga,show decide (((A s:Nat):Int) < s.Actuators)=false from df_ om_,cf_]) FF 0 om_ uF
   rw [n0] at hh;rcases hh with ⟨e,he,hh⟩ | ⟨hh,hP⟩
   ·rw [hh];exact ⟨e,rfl,λh=>absurd h he⟩
   ·rw [hh];refine ⟨0,rfl,λ_=>⟨⟨hA.1,hA.2,by unfold n;omega,λk hk=>(hG k hk).st.ne,λk hk y hy=>⟨((hG k hk).st.ac y hy).1,(hG k hk).lt y hy⟩,λk hk=>(hG k hk).st.w.1,λk hk=>(hG k hk).ft,λa=>?_,?_⟩,hn,λk hk=>(hG k hk).st⟩⟩
    ·by_cases ha:a < A s
     ·exact hB a ha
     ·have:∀ k,k<=n s->(dat s).pos k a=false:=by
       intro k
       induction k with
       | zero=>intro _;rfl
       | succ k ih=>
        intro hk;rw [Lj (λo ho=>by
         obtain ⟨y,hy,he⟩:=List.mem_map.1 ho;have h1:=(hG k om_).lt y hy;have h2:=((hG k om_).st.ac y hy).1;have h3:=(Prod.mk.inj he).1;omega)]
        exact ih om_
      exact this _ (Nat.le_refl _)
    ·intro a ha;obtain ⟨k,y,hk,hy,hv⟩:=hP a (Nat.zero_le _) ha;exact ⟨k,y.Out,hk,List.mem_map.2 ⟨y,hy,by rw [hv];rfl⟩⟩
  ·rw [show (e != 0)=true by simpa using h0',ct_];exact ⟨e,rfl,λh=>absurd h h0'⟩
 ·have:(decide (s.Actuators < 1) || decide (s.Actuators > 6))=true:=by
   rw [Bool.or_eq_true,decide_eq_true_iff,decide_eq_true_iff];omega
  rw [this,ct_];exact ⟨2,rfl,λh=>by omega⟩
end Go.Pn
namespace Go.Pn
open Go
open Csc
variable {s:Ah}
theorem bldI {α:Type} {L:Nat->Int×List α->Option (Int×List α)} {N:Nat} {f:Nat->List α} {acc0:List α} (hN:N<=1000) (hf:∀ i,i < N->(f i).length<=100) (h0:acc0.length<=1000000)
  (h:∀ (n i:Nat) acc,i < N->acc.length<=2000000/\acc.length<=acc0.length + 100 * N->L (n + 1) ((i:Int),acc)=L n (((i + 1:Nat):Int),acc ++ f i)) (h':∀ n acc,L (n + 1) ((N:Int),acc)=some ((N:Int),acc)):L FF ((0:Int),acc0)=some ((N:Int),acc0 ++ (List.range N).flatMap f):=by
 have hlen:∀ i,i<=N->((List.range i).flatMap f).length<=100 * i:=by
  intro i
  induction i with
  | zero=>intro _;simp
  | succ i ih=>
   intro hi;rw [List.range_succ,List.flatMap_append,List.length_append];have h1:=ih om_;have h2:=hf i om_;simp only [List.flatMap_cons,List.flatMap_nil,List.append_nil];omega
 obtain ⟨v,hv,hh⟩:=Ob (L:=L) (mk:=λi (v:List α)=>((i:Int),v)) (N:=N) (I:=λi v=>v=acc0 ++ (List.range i).flatMap f) (λn i v hi hI=>by
  subst hI;refine ⟨_,?_,h n i _ hi (by rw [List.length_append];have:=hlen i om_;omega)⟩;rw [List.range_succ,List.flatMap_append,List.append_assoc];simp) (λn v _=>h' n v) FF 0 acc0 om_ uF Bv
 try dsimp only at hh
 rw [n0] at hh;rw [hh,hv]
theorem Qr {α:Type} {f:Nat->α} {N:Nat}:((List.range N).flatMap λi=>[f i])=(List.range N).map f:=(List.map_eq_flatMap ..).symm
theorem fm_if {α:Type} {f:Nat->α} {p:Nat->Bool}:∀ {N:Nat},((List.range N).flatMap λi=>if p i=true then [f i] else [])=((List.range N).filter p).map f
 | 0=>rfl
 | N + 1=>by
  rw [List.range_succ,List.flatMap_append,List.filter_append,List.map_append,fm_if];cases h:p N <;> simp [h]
def nbr (p:UInt8) (k:Nat):ByteArray:=if k < 10 then ⟨#[p,UInt8.ofNat (48 + k)]⟩ else ⟨#[p,UInt8.ofNat (48 + k / 10),UInt8.ofNat (48 + k % 10)]⟩
def nmS:Sg->ByteArray
 | .gl j=>nbr 103 j
 | .tm k=>nbr 119 k
 | .sg k=>nbr 115 k
 | .pl a o=>⟨#[UInt8.ofNat (97 + a),if o=true then 112 else 109]⟩
theorem abc_tab:((List.range 6).all λa=>decide (((ssl (⟨#[97,98,99,100,101,102]⟩:ByteArray) (a:Int) (wr ((a:Int) + 1))).bind λx=>cat x (⟨#[112]⟩:ByteArray))=some (nmS (.pl a true))) && decide (((ssl (⟨#[97,98,99,100,101,102]⟩:ByteArray) (a:Int) (wr ((a:Int) + 1))).bind λx=>cat x (⟨#[109]⟩:ByteArray))=some (nmS (.pl a false))))=true:=by kernel_rfl
theorem Nr {a:Nat} (h:a < 6) (o:Bool):∃ x,ssl (⟨#[97,98,99,100,101,102]⟩:ByteArray) (a:Int) (wr ((a:Int) + 1))=some x/\(bif o then cat x (⟨#[112]⟩:ByteArray) else cat x (⟨#[109]⟩:ByteArray))=some (nmS (.pl a o)):=by
 have h1:=List.all_eq_true.1 abc_tab a (List.mem_range.2 h);rw [Bool.and_eq_true,decide_eq_true_iff,decide_eq_true_iff] at h1;obtain ⟨x,hx,h2⟩:=Option.bind_eq_some_iff.1 h1.1;obtain ⟨x',hx',h3⟩:=Option.bind_eq_some_iff.1 h1.2;rw [hx] at hx';obtain rfl:=Option.some.inj hx';exact ⟨x,hx,by cases o <;> assumption⟩
structure Sq4 (s:Ah):Prop where
 q:Sqc s
 n:n s<=64
 st:∀ k,k < Csc.n s->Stk (stp s k)
theorem Sq4.A6 (h:Sq4 s):A s<=6:=by have:=h.q.a6;unfold A;omega
theorem Sq4.Ac (h:Sq4 s):s.Actuators=((A s:Nat):Int):=by have:=h.q.a0;unfold A;omega
theorem Sq4.G64 (h:Sq4 s):G s<=Csc.n s:=by
 have h0:=h.q.n0;have:∀ k,g s k<=k:=by
  intro k
  induction k with
  | zero=>exact Nat.le_refl _
  | succ k ih=>rcases Nh (s:=s) k with e | e <;> omega
 rw [G_eq];have:=this (Csc.n s - 1);omega
theorem Hz {k:Nat}:cts s k<=k:=by
 unfold cts;have:=List.length_filter_le (W s) (List.range k);rw [List.length_range] at this;exact this
theorem cts_s (k:Nat):cts s (k + 1)=cts s k + (if W s k=true then 1 else 0):=by
 unfold cts;rw [List.range_succ,List.filter_append,List.length_append];cases h:W s k <;> simp [h]
theorem Rs (h:Sq4 s) {i k:Nat} (hi:i < Csc.n s) (hk:k < Csc.n s):m98 FF s (i:Int) (k:Int)=some (rep s i k):=by
 have hA:=h.A6;have hh:=Eg (L:=Jg FF s (i:Int) (k:Int)) (N:=A s) (Q:=λa=>((stp s i).Strokes.any λy=>y.Actuator == (a:Int)) && ((stp s k).Strokes.any λy=>y.Actuator == (a:Int))) (r:=λ_=>true) (λm a ha=>by
  obtain ⟨w,hw,hw2⟩:=Hr (v:=(a:Int)) (h.st i hi);obtain ⟨w',hw',hw2'⟩:=Hr (v:=(a:Int)) (h.st k hk);rw [Jg,show decide ((a:Int) < s.Actuators)=true from dt_ (by rw [h.Ac];omega),ct_,Ak,Au hi,ob_,hw,ob_,hw2,Am om_];cases (stp s i).Strokes.any λy=>y.Actuator == (a:Int) with
  | false=>rfl
  | true=>
   rw [ct_,Ak,Au hk,ob_,hw',ob_,hw2'];rfl) (λm=>by
  rw [Jg,show decide (((A s:Nat):Int) < s.Actuators)=false from df_ (by rw [h.Ac];omega),cf_]) FF 0 om_ uF
 rw [n0] at hh;unfold m98;rcases hh with ⟨a,_,ha,hq,hh⟩ | ⟨hh,hq⟩
 ·rw [hh,ob_];dsimp only;rw [Bool.and_eq_true,List.any_eq_true,List.any_eq_true] at hq;obtain ⟨⟨y,hy,hy2⟩,z,hz,hz2⟩:=hq;have e1:y.Actuator=(a:Int):=by simpa using hy2
  have e2:z.Actuator=(a:Int):=by simpa using hz2
  rw [Ta (s:=s) (i:=i) (k:=k) (a:=a) (o:=y.Out) (o':=z.Out) (List.mem_map.2 ⟨y,hy,by rw [e1];rfl⟩) (List.mem_map.2 ⟨z,hz,by rw [e2];rfl⟩)]
 ·rw [hh,ob_];dsimp only;have:rep s i k=false:=by
   unfold rep;rw [List.any_eq_false];rintro ⟨a,o⟩ hx hc;rw [List.any_eq_true] at hc;obtain ⟨⟨a',o'⟩,hx',he⟩:=hc;obtain rfl:a=a':=by simpa using he
   obtain ⟨y,hy,hy2⟩:=List.mem_map.1 hx;obtain ⟨z,hz,hz2⟩:=List.mem_map.1 hx';have a1:=h.q.ac i hi y hy;have a2:=h.q.ac k hk z hz;have b1:=(Prod.mk.inj hy2).1;have b2:=(Prod.mk.inj hz2).1;have hac:=h.Ac;have:=hq a (Nat.zero_le _) om_;rw [Bool.and_eq_false_iff,List.any_eq_false,List.any_eq_false] at this;rcases this with h3 | h3
   ·exact h3 y hy (by rw [beq_iff_eq];omega)
   ·exact h3 z hz (by rw [beq_iff_eq];omega)
  rw [this]
theorem Gv (h:Sq4 s) {k:Nat} (hk:k < Csc.n s) {l:List Int} (hl:l.length<=1000) (z2:Int×List Int) (hz:z2.1=(k:Int)):∀ (m i:Nat),i<=k->k - i < m->∃ z,Ks FF s z2 m ((i:Int),l)=some (z,if ((List.range k).any λj=>decide (i<=j) && rep s j k)=true then l ++ [(k:Int)] else l)
 | 0,i,_,h=>by omega
 | m + 1,i,h1,h2=>by
  have hn:=h.n;rw [Ks];dsimp only;rw [hz];by_cases hi:i < k
  ·rw [An,dt_ hi,ct_,Rs h om_ hk,ob_];cases hr:rep s i k with
   | true=>
    rw [ct_,Bo so_,ob_];have:((List.range k).any λj=>decide (i<=j) && rep s j k)=true:=List.any_eq_true.2 ⟨i,List.mem_range.2 hi,by rw [hr];simp⟩;rw [if_pos this];exact ⟨_,rfl⟩
   | false=>
    rw [cf_,Am om_];obtain ⟨z,hz'⟩:=Gv h hk hl z2 hz m (i + 1) om_ om_;have e:((List.range k).any λj=>decide (i<=j) && rep s j k)=((List.range k).any λj=>decide (i + 1<=j) && rep s j k):=by
     rw [Bool.eq_iff_iff,List.any_eq_true,List.any_eq_true];constructor
     ·rintro ⟨j,hj,hp⟩;rw [Bool.and_eq_true,decide_eq_true_iff] at hp;refine ⟨j,hj,?_⟩;rw [Bool.and_eq_true,decide_eq_true_iff];have:j≠i:=λe=>by subst e;rw [hr] at hp;cases hp.2
      exact ⟨by omega,hp.2⟩
     ·rintro ⟨j,hj,hp⟩;rw [Bool.and_eq_true,decide_eq_true_iff] at hp;refine ⟨j,hj,?_⟩;rw [Bool.and_eq_true,decide_eq_true_iff];exact ⟨by omega,hp.2⟩
    rw [e];exact ⟨z,hz'⟩
  ·rw [An,df_ hi,cf_];have:((List.range k).any λj=>decide (i<=j) && rep s j k)=false:=by
    rw [List.any_eq_false];intro j hj;have:=List.mem_range.1 hj;rw [df_ om_];simp
   rw [this,if_neg (by decide)];exact ⟨_,rfl⟩
def cin (l:List Nat):List Int:=l.map λx=>((x:Nat):Int)
theorem Ca {l:List Nat} {i:Nat}:(cin l)[i]?=(l[i]?).map λx=>((x:Nat):Int):=List.getElem?_map ..
theorem Sc (h:Sq4 s):m32 FF s=some (cin (dv s)):=by
 have hn:=h.n;have h0:=h.q.n0;unfold m32;have key:∀ (m k:Nat),1<=k->k<=Csc.n s->Csc.n s - k < m->Kt FF s m ((k:Int),cin (dl s (k - 1)))=some ((Csc.n s:Int),cin (dv s)):=by
  intro m
  induction m with
  | zero=>intro k _ _ h;omega
  | succ m ih=>
   intro k h1 h2 h3;rw [Kt];dsimp only;have hlen:(cin (dl s (k - 1))).length=g s (k - 1) + 1:=by unfold cin;rw [List.length_map,Lf]
   have hgle:g s (k - 1)<=k - 1:=by
    have:∀ k,g s k<=k:=by
     intro k
     induction k with
     | zero=>exact Nat.le_refl _
     | succ k ih=>rcases Nh (s:=s) k with e | e <;> omega
    exact this _
   by_cases hk:k < Csc.n s
   ·have hlast:idx (cin (dl s (k - 1))) (wr (((cin (dl s (k - 1))).length:Int) - 1))=some (((gb s (k - 1)).1:Nat):Int):=by
     rw [hlen,Be om_ om_,show ((g s (k - 1) + 1:Nat):Int) - 1=((g s (k - 1):Nat):Int) by omega,Ak,Ca,Fh];rfl
    have hble:=Mo (s:=s) (k - 1);obtain ⟨z,hz⟩:=Gv h hk (l:=cin (dl s (k - 1))) om_ ((k:Int),cin (dl s (k - 1))) rfl FF (gb s (k - 1)).1 om_ uF;rw [show decide ((k:Int) < (s.Steps.length:Int))=true from dt_ (by unfold Csc.n at hk;omega),ct_,hlast,ob_,hz,ob_,Am om_];have:=ih (k + 1) om_ om_ om_;rw [← this];congr 2;obtain ⟨k,rfl⟩:∃ k',k=k' + 1:=⟨k - 1,by omega⟩;rw [Nat.add_sub_cancel,Nat.add_sub_cancel,dl_s];show (if brk s (gb s k).1 (k + 1)=true then _ else _)=_
    split
    ·unfold cin;rw [List.map_append];rfl
    ·rfl
   ·obtain rfl:k=Csc.n s:=by omega
    rw [show decide (((Csc.n s:Nat):Int) < (s.Steps.length:Int))=false from df_ (by unfold Csc.n;omega),cf_];rfl
 have:=key FF 1 (Nat.le_refl _) om_ uF;rw [show ((1:Int),([(0:Int)]:List Int))=(((1:Nat):Int),cin (dl s (1 - 1))) from rfl,this];rfl
end Go.Pn
namespace Go.Pn
open Go
open Csc
variable {s:Ah}
theorem L_eq {x:Sg}:(dat s).L x=2 * A s + 1 + no s x:=rfl
theorem cin_len {l:List Nat}:(cin l).length=l.length:=List.length_map ..
theorem Cq:(cin (dv s)).length=G s:=cin_len
def lnz (s:Ah):List Nat:=(List.range (G s)).map λj=>(dat s).L (.gl j)
theorem Jw {j:Nat} (hj:j < G s):(cin (lnz s))[j]?=some (((dat s).L (.gl j):Nat):Int):=by
 rw [Ca];unfold lnz;rw [List.getElem?_map,List.getElem?_range hj];rfl
theorem dv_le {i k:Nat} (hi:i < G s) (hk:k < n s):∃ b,(dv s)[i]?=some b/\(b<=k↔i<=g s k)/\(i=g s k->b=(gb s k).1)/\b < n s:=by
 have hG:=G_eq (s:=s);obtain ⟨b,h1,h2,h3,_,_⟩:=Hy (s:=s) (j:=i) (k:=n s - 1) om_;obtain ⟨t,ht⟩:=Qx (s:=s) (show k<=n s - 1 by omega);have key:∀ b',(dl s k)[i]?=some b'->b'=b:=λb' hb'=>by
  rw [ht,List.getElem?_append_left (List.getElem?_eq_some_iff.1 hb').1,hb'] at h1;exact Option.some.inj h1
 refine ⟨b,h1,⟨λhb=>?_,λhg=>?_⟩,λe=>?_,by omega⟩
 ·have:=Dc (s:=s) hb;omega
 ·obtain ⟨b',h4,h5,_⟩:=Hy (s:=s) (j:=i) (k:=k) hg;rw [← key b' h4];exact h5
 ·subst e;exact (key _ (Fh k)).symm
theorem g_lt (h:Sq4 s) {k:Nat} (hk:k < n s):g s k < G s:=by
 have:=Dc (s:=s) (show k<=n s - 1 by omega);rw [G_eq];omega
theorem Sv {k:Nat}:W s k=true↔(stp s k).Wait≠0:=by unfold W;simp
def tms (s:Ah):List Int:=(List.range (n s)).map λk=>if W s k=true then (((dat s).L (.tm k):Nat):Int) else -1
theorem tms_get {k:Nat} (hk:k < n s):(tms s)[k]?=some (if W s k=true then (((dat s).L (.tm k):Nat):Int) else -1):=by
 unfold tms;rw [List.getElem?_map,List.getElem?_range hk];rfl
theorem map_rg {α β:Type} {l:List α} {d:α} {f:α->β}:((List.range l.length).map λi=>f (l.getD i d))=l.map f:=by
 refine List.ext_getElem Bv λi h1 h2=>?_;rw [List.getElem_map,List.getElem_map,List.getElem_range,List.getD_eq_getElem?_getD,gE_ (by simpa using h2)];rfl
theorem Li {a b:Nat} (h:0 < b):rem (a:Int) (b:Int)=some ((a % b:Nat):Int):=by
 unfold rem;rw [if_neg om_,Int.tmod_eq_emod_of_nonneg om_];congr 1
theorem Nc (h:Sq4 s) {j:Nat} (hj:j < G s):las s j < n s:=(la_ok h.q.n0 hj).1
end Go.Pn
namespace Go.Pn
open Go
open Csc
variable {s:Ah}
def sts (s:Ah):List Nat:=(List.range (n s)).map λk=>(dat s).L (.sg k)
theorem sts_get {k:Nat} (hk:k < n s):(cin (sts s))[k]?=some (((dat s).L (.sg k):Nat):Int):=by
 rw [Ca];unfold sts;rw [List.getElem?_map,List.getElem?_range hk];rfl
theorem So {k:Nat} (hk:k < n s):decide ((k:Int) < (s.Steps.length:Int))=true:=dt_ (by unfold n at hk;omega)
theorem Sk:decide (((n s:Nat):Int) < (s.Steps.length:Int))=false:=df_ (by unfold n;omega)
theorem Tk (h:Sq4 s) {k:Nat} (hk:k < n s):((S s k).map CasD.sw).length<=6:=by
 rw [List.length_map];show ((stp s k).Strokes.map _).length<=6;rw [List.length_map];exact (h.st k hk).le
theorem Tf (h:Sq4 s) {k:Nat} (hk:k < n s):((dat s).en k).length<=6:=by
 unfold CasD.en;split
 ·simp
 ·exact Tk h hk
theorem Ng {k:Nat} (hk:0 < k):(gb s k).1=k↔g s (k - 1)≠g s k:=by
 obtain ⟨k,rfl⟩:∃ k',k=k' + 1:=⟨k - 1,by omega⟩;have hb:=Mo (s:=s) k;rw [Nat.add_sub_cancel,gb_s,g_s];by_cases h:brk s (gb s k).1 (k + 1)=true
 ·rw [if_pos h,if_pos h];exact ⟨λ_=>by omega,λ_=>rfl⟩
 ·rw [if_neg h,if_neg h];exact ⟨λe=>by omega,λe=>absurd rfl e⟩
end Go.Pn
namespace Go.Pn
open Go
theorem forG {S σ R:Type} {L:Nat->S->R} {mk:Nat->σ->S} {N:Nat} {I:Nat->σ->Prop} {E:σ->R}
  (h:∀ (n i:Nat) s,i < N->I i s->∃ s',I (i + 1) s'/\L (n + 1) (mk i s)=L n (mk (i + 1) s')) (h':∀ (n:Nat) s,I N s->L (n + 1) (mk N s)=E s) :
  ∀ (n i:Nat) s,i<=N->N - i < n->I i s->∃ s',I N s'/\L n (mk i s)=E s'
 | 0,i,_,_,h,_=>by omega
 | n + 1,i,s,h1,h2,hI=>by
  by_cases hi:i < N
  ·obtain ⟨s',h3,h4⟩:=h n i s hi hI;rw [h4];exact forG h h' n (i + 1) s' om_ om_ h3
  ·obtain rfl:i=N:=by omega
   exact ⟨s,hI,h' n s hI⟩
end Go.Pn
namespace Go.Pn
open Go
open Csc
variable {s:Ah}
theorem Pr {l:List Bool} (hl:l.length<=1000) (h:∀ b∈l,b=true):m171 FF l false=some false:=by
 have hh:=Eg (L:=Em l false) (N:=l.length) (Q:=λi=>match l[i]? with | some b=>false == b | none=>false) (r:=λi=>i) (λn i hi=>by
  have hx:=gE_ hi;rw [Em,An,dt_ hi,ct_,Ak,hx,ob_,Am om_]) (λn=>by
  rw [Em,An,df_ om_,cf_]) FF 0 om_ uF
 rw [n0] at hh;unfold m171 m239;rcases hh with ⟨k,_,hk,hq,_⟩ | ⟨hh,_⟩
 ·exfalso;rw [gE_ hk] at hq;dsimp only at hq;rw [h _ (List.getElem_mem hk)] at hq;cases hq
 ·rw [hh];rfl
theorem Pm {x:Step} (h:Stk x):m238 FF x=some 0:=by
 have h6:=h.le;have h0:0 < x.Strokes.length:=List.length_pos_iff.2 h.ne;unfold m238;rw [show ((x.Strokes.length:Int) == 0)=false by rw [beq_eq_false_iff_ne];omega,cf_,df_ om_,cf_];obtain ⟨v,_,hh⟩:=forG (L:=En FF x) (mk:=λi (v:Int)=>(v,(i:Int))) (N:=x.Strokes.length) (E:=λv=>some (.brk (v,(x.Strokes.length:Int)))) (I:=λi v=>(i=0/\v=-1)\/∃ j y,i=j + 1/\x.Strokes[j]?=some y/\v=y.Actuator) (λn i v hi hI=>by
  have hx:=gE_ hi;have ha:=h.ac _ (List.getElem_mem hi);have hlt:v < x.Strokes[i].Actuator:=by
   rcases hI with ⟨_,rfl⟩ | ⟨j,y,rfl,hy,rfl⟩
   ·omega
   ·exact h.srt j _ _ hy hx
  refine ⟨x.Strokes[i].Actuator,.inr ⟨i,_,rfl,hx,rfl⟩,?_⟩;rw [En];dsimp only;rw [An,dt_ hi,ct_,Ak,hx,ob_];unfold m291;rw [ob_,dt_ (show x.Strokes[i].Actuator>=0 from ha.1),dt_ ha.2,Bool.and_true,Bool.not_true,cf_,show (x.Strokes[i].Actuator == v)=false by rw [beq_eq_false_iff_ne];omega,cf_,df_ om_,cf_,Am om_]) (λn v _=>by
  rw [En];dsimp only;rw [An,df_ om_,cf_]) FF 0 (-1) om_ uF (.inl ⟨rfl,rfl⟩)
 try dsimp only at hh
 rw [n0] at hh;rw [hh,ob_];dsimp only;rw [df_ (by have:=h.w;omega),df_ (by have:=h.w;omega)];rfl
structure Endz (s:Ah) (z:Ar6) (k:Nat):Prop where
 l:z.l.length=6
 p:∀ a,a < A s->z.at_ a=(dat s).pos k a
 o:∀ a,A s<=a->z.at_ a=false
theorem Ki {a:Int} (h0:0<=a) (h:a < 6):idx (List.range 6) a=some a.toNat:=by
 rw [show a=((a.toNat:Nat):Int) by omega,Ak,List.getElem?_range om_,Int.toNat_natCast]
theorem Tb {z:Ar6} {j a:Nat} {v:Bool} (hj:j < z.l.length):(z.put j v).at_ a=if a=j then v else z.at_ a:=by
 unfold Ar6.put Ar6.at_;dsimp only;rw [List.getD_eq_getElem?_getD,List.getElem?_set];by_cases h:j=a
 ·subst h;rw [if_pos rfl,if_pos rfl,if_pos hj];rfl
 ·rw [if_neg h,if_neg (λe=>h e.symm),List.getD_eq_getElem?_getD]
theorem enf_s {x:Step} {i:Nat} (hi:i < x.Strokes.length) (h:Stk x) (v:Bool) (a:Nat):enf x (i + 1) v a=if a=x.Strokes[i].Actuator.toNat then x.Strokes[i].Out else enf x i v a:=by
 unfold enf;rw [List.take_add_one,gE_ hi,List.find?_append];by_cases ha:a=x.Strokes[i].Actuator.toNat
 ·rw [if_pos ha];have hn:(x.Strokes.take i).find? (λy=>y.Actuator.toNat == a)=none:=by
   rw [List.find?_eq_none];intro y hy he;obtain ⟨j,hj⟩:=List.getElem?_of_mem hy;rw [List.getElem?_take] at hj;split at hj
   ·rename_i hji;have h1:=h.asc hji hj (gE_ hi);have h2:=h.ac y (List.mem_of_getElem? hj);have h3:=h.ac _ (List.getElem_mem hi);have:y.Actuator.toNat=a:=by simpa using he
    omega
   ·cases hj
  rw [hn];simp [ha]
 ·rw [if_neg ha];have:([x.Strokes[i]].find? λy=>y.Actuator.toNat == a)=none:=by
   rw [List.find?_eq_none];intro y hy;obtain rfl:=List.mem_singleton.1 hy;simpa using λe:x.Strokes[i].Actuator.toNat=a=>ha e.symm
  show (match ((x.Strokes.take i).find? λy=>y.Actuator.toNat == a).or ([x.Strokes[i]].find? λy=>y.Actuator.toNat == a) with | some y=>y.Out | none=>v)=_
  rw [this,Option.or_none] <;> rfl
theorem Ps {x:Step} {z:Ar6} (h:Stk x) (hz:z.l.length=6):∃ r,m170 FF z x=some r/\r.l.length=6/\∀ a,r.at_ a=enf x x.Strokes.length (z.at_ a) a:=by
 have h6:=h.le;unfold m170;obtain ⟨v,hv,hh⟩:=Ob (L:=Er x) (mk:=λi (v:Ar6)=>((i:Int),v)) (N:=x.Strokes.length) (I:=λi v=>v.l.length=6/\∀ a,v.at_ a=enf x i (z.at_ a) a) (λn i v hi hI=>by
  have hx:=gE_ hi;have ha:=h.ac _ (List.getElem_mem hi);refine ⟨v.put x.Strokes[i].Actuator.toNat x.Strokes[i].Out,⟨by unfold Ar6.put;rw [List.length_set];exact hI.1,λa=>?_⟩,?_⟩
  ·rw [Tb (by rw [hI.1];omega),enf_s hi h,hI.2 a]
  ·rw [Er];dsimp only;rw [An,dt_ hi,ct_,Ak,hx,ob_,Ki ha.1 ha.2,ob_,Am om_]) (λn v _=>by
  rw [Er];dsimp only;rw [An,df_ om_,cf_]) FF 0 z om_ uF ⟨hz,λa=>rfl⟩
 try dsimp only at hh
 rw [n0] at hh;rw [hh];exact ⟨v,rfl,hv.1,hv.2⟩
theorem Endz.next (h:Sq4 s) {k:Nat} (hk:k < n s) {z:Ar6} (hz:Endz s z k):∃ r,m170 FF z (stp s k)=some r/\Endz s r (k + 1):=by
 obtain ⟨r,h1,h2,h3⟩:=Ps (h.st k hk) hz.l;refine ⟨r,h1,h2,λa ha=>?_,λa ha=>?_⟩
 ·rw [h3,hz.p a ha];exact Qw (h.st k hk)
 ·rw [h3,hz.o a ha];unfold enf;split
  ·rename_i y hy;exfalso;have h4:=List.mem_of_find?_eq_some hy;have h5:=List.find?_some hy;have h6:=h.q.ac k hk y (List.mem_of_mem_take h4);have h7:=h.Ac;have:y.Actuator.toNat=a:=by simpa using h5
   omega
  ·rfl
theorem Endz.ini:Endz s Ar6.z 0:=⟨rfl,λa _=>by
  unfold Ar6.at_ Ar6.z; rw [List.getD_eq_getElem?_getD,List.getElem?_replicate]; split <;> rfl,λa _=>by
  unfold Ar6.at_ Ar6.z; rw [List.getD_eq_getElem?_getD,List.getElem?_replicate]; split <;> rfl⟩
theorem Pu (h:Sq4 s) {k:Nat} (hk:k < n s) {z:Ar6} (hz:Endz s z k):m169 FF s (stp s k) z=some 0:=by
 have hS:=h.st k hk;have h6:=hS.le;have hac:=h.Ac;have e1:=Eg (L:=Eu s (stp s k)) (N:=(stp s k).Strokes.length) (Q:=λ_=>false) (r:=λ_=>6) (λm i hi=>by
  have ha:=h.q.ac k hk _ (List.getElem_mem hi);rw [Eu,An,dt_ hi,ct_,Ak,gE_ hi,ob_,df_ om_,cf_,Am om_];rfl) (λm=>by
  rw [Eu,An,df_ om_,cf_]) FF 0 om_ uF
 have e2:=Eg (L:=Et (stp s k) z) (N:=(stp s k).Strokes.length) (Q:=λ_=>false) (r:=λ_=>14) (λm i hi=>by
  have ha:=h.q.ac k hk _ (List.getElem_mem hi);have ha6:=hS.ac _ (List.getElem_mem hi);have hft:=h.q.fits k hk (stp s k).Strokes[i].Actuator.toNat (stp s k).Strokes[i].Out (List.mem_map.2 ⟨_,List.getElem_mem hi,rfl⟩);rw [Et,An,dt_ hi,ct_,Ak,gE_ hi,ob_,Ki ha.1 ha6.2,ob_,hz.p _ om_,hft];rw [show ((!(stp s k).Strokes[i].Out) == (stp s k).Strokes[i].Out)=false by cases (stp s k).Strokes[i].Out <;> rfl,cf_,Am om_]; rfl) (λm=>by
  rw [Et,An,df_ om_,cf_]) FF 0 om_ uF
 rw [n0] at e1 e2;unfold m169;rw [Pm hS,ob_,zf_,cf_];rcases e1 with ⟨_,_,_,hq,_⟩ | ⟨e1,_⟩
 ·cases hq
 rw [e1,ob_];dsimp only;rcases e2 with ⟨_,_,_,hq,_⟩ | ⟨e2,_⟩
 ·cases hq
 rw [e2];rfl
def mvd (s:Ah) (k a:Nat):Bool:=(List.range k).any λi=>(S s i).any λx=>x.1 == a
theorem Lp {x:Step} {z:Ar6} (h:Stk x) (hz:z.l.length=6):∃ r,Gm x FF ((0:Int),z)=some ((x.Strokes.length:Int),r)/\r.l.length=6/\∀ a,r.at_ a=(z.at_ a || x.Strokes.any λy=>y.Actuator.toNat == a):=by
 have h6:=h.le;obtain ⟨v,hv,hh⟩:=Ob (L:=Gm x) (mk:=λi (v:Ar6)=>((i:Int),v)) (N:=x.Strokes.length) (I:=λi v=>v.l.length=6/\∀ a,v.at_ a=(z.at_ a || (x.Strokes.take i).any λy=>y.Actuator.toNat == a)) (λn i v hi hI=>by
  have hx:=gE_ hi;have ha:=h.ac _ (List.getElem_mem hi);refine ⟨v.put x.Strokes[i].Actuator.toNat true,⟨by unfold Ar6.put;rw [List.length_set];exact hI.1,λa=>?_⟩,?_⟩
  ·rw [Tb (by rw [hI.1];omega),hI.2 a,List.take_add_one,hx];simp only [Option.toList_some,List.any_append,List.any_cons,List.any_nil,Bool.or_false];by_cases e:a=x.Strokes[i].Actuator.toNat
   ·rw [if_pos e,← e];simp
   ·rw [if_neg e,show (x.Strokes[i].Actuator.toNat == a)=false by simpa using λh=>e h.symm,Bool.or_false]
  ·rw [Gm];dsimp only;rw [An,dt_ hi,ct_,Ak,hx,ob_,Ki ha.1 ha.2,ob_,Am om_]) (λn v _=>by
  rw [Gm];dsimp only;rw [An,df_ om_,cf_]) FF 0 z om_ uF ⟨hz,λa=>by simp⟩
 try dsimp only at hh
 rw [n0] at hh;refine ⟨v,hh,hv.1,λa=>?_⟩;rw [hv.2 a,List.take_length]
theorem Jr (h:Sq4 s):m90 FF s=some 0:=by
 have hn:=h.n;have h0:=h.q.n0;have hA6:=h.A6;have hac:=h.Ac;have a0:=h.q.a0;have hns:s.Steps.length=n s:=rfl;unfold m90;rw [df_ om_,df_ om_,Bool.or_false,cf_,show ((s.Steps.length:Int) == 0)=false by rw [beq_eq_false_iff_ne];omega,cf_,df_ om_,cf_];obtain ⟨v,hv,hh⟩:=forG (L:=Jh FF s) (mk:=λi (v:Ar6×Ar6)=>((i:Int),v.1,v.2)) (N:=n s) (E:=λv=>some (.brk ((n s:Int),v.1,v.2))) (I:=λi v=>Endz s v.1 i/\v.2.l.length=6/\∀ a,v.2.at_ a=mvd s i a) (λm i v hi hI=>by
  obtain ⟨r,h1,h2⟩:=hI.1.next h hi;obtain ⟨r',h3,h4,h5⟩:=Lp (h.st i hi) hI.2.1;refine ⟨(r,r'),⟨h2,h4,λa=>?_⟩,?_⟩
  ·dsimp only;rw [h5,hI.2.2 a];unfold mvd;rw [List.range_succ,List.any_append];simp only [List.any_cons,List.any_nil,Bool.or_false];congr 1;unfold S;rw [List.any_map];rfl
  ·rw [Jh];dsimp only;rw [show decide ((i:Int) < (s.Steps.length:Int))=true from dt_ om_,ct_,Ak,Au hi,ob_,Pu h hi hI.1,ob_,zf_,cf_,h1,ob_,h3,ob_,Am om_]) (λm v _=>by
  rw [Jh];dsimp only;rw [show decide (((n s:Nat):Int) < (s.Steps.length:Int))=false from df_ om_,cf_]) FF 0 (Ar6.z,Ar6.z) om_ uF ⟨Endz.ini,rfl,λa=>by
  unfold mvd Ar6.at_ Ar6.z; rw [List.getD_eq_getElem?_getD,List.getElem?_replicate]; split <;> rfl⟩
 try dsimp only at hh
 rw [n0] at hh;rw [hh,ob_];dsimp only;obtain ⟨v1,v2⟩:=v;dsimp only at hv ⊢;have heq:eqqA v1 Ar6.z=true:=by
  unfold eqqA;rw [List.all_eq_true];intro a ha;have h1:v1.at_ a=false:=by
   by_cases h2:a < A s
   ·rw [hv.1.p a h2];exact h.q.back a
   ·exact hv.1.o a om_
  rw [h1];unfold Ar6.at_ Ar6.z;rw [List.getD_eq_getElem?_getD,List.getElem?_replicate]; split <;> rfl
 rw [heq,Bool.not_true,cf_];unfold lsl;rw [if_pos ⟨by omega,by omega,by rw [hv.2.1];omega⟩,ob_,Pr so_ (λb hb=>?_),ob_]
 ·rfl
 ·obtain ⟨a,hb⟩:=List.getElem?_of_mem hb;rw [List.getElem?_take] at hb;split at hb
  ·rename_i ha;simp only [Int.toNat_zero,List.drop_zero] at hb;have haA:a < A s:=by omega
   have h2:=hv.2.2 a;unfold Ar6.at_ at h2;rw [List.getD_eq_getElem?_getD,hb] at h2;have h2:b=mvd s (n s) a:=h2;rw [h2];obtain ⟨k,o,hk,hko⟩:=h.q.mv a haA;unfold mvd;rw [List.any_eq_true];refine ⟨k,List.mem_range.2 hk,?_⟩;rw [List.any_eq_true];exact ⟨_,hko,by simp⟩
  ·cases hb
end Go.Pn
namespace Go.Pn
open Go
open Csc
variable {s:Ah}
def km (m:Nat):Kd .u64:=⟨((m:Nat):Int)⟩
def Jc (l:List Ab):Nat:=l.foldl (λm x=>m ||| 2 ^ x.Actuator.toNat) 0
theorem Kq {a:Nat}:∀ (l:List Ab) (m:Nat),(l.foldl (λm x=>m ||| 2 ^ x.Actuator.toNat) m).testBit a=(m.testBit a || l.any λx=>x.Actuator.toNat == a)
 | [],m=>by simp
 | x :: l,m=>by
  rw [List.foldl_cons,Kq l,Nat.testBit_or,List.any_cons,Bool.or_assoc,Nat.testBit_two_pow];rfl
theorem Bx {a:Nat} {l:List Ab}:(Jc l).testBit a=l.any λx=>x.Actuator.toNat == a:=by
 unfold Jc;rw [Kq];simp
theorem Oz {l:List Ab} {x:Ab}:Jc (l ++ [x])=Jc l ||| 2 ^ x.Actuator.toNat:=by
 unfold Jc;rw [List.foldl_append];rfl
theorem Oj {a:Nat} (h:a < 6):2 ^ a < 64:=by
 rcases (show a=0\/a=1\/a=2\/a=3\/a=4\/a=5 by omega) with rfl | rfl | rfl | rfl | rfl | rfl <;> decide
theorem Ou {a b:Nat} (ha:a < 64) (hb:b < 64):a ||| b < 64:=Nat.or_lt_two_pow (n:=6) ha hb
theorem Ei:∀ {l:List Ab},(∀ x∈l,x.Actuator.toNat < 6)->Jc l < 64:=λ{l} h=>by
 unfold Jc;have:∀ (l:List Ab) (m:Nat),m < 64->(∀ x∈l,x.Actuator.toNat < 6)->l.foldl (λm x=>m ||| 2 ^ x.Actuator.toNat) m < 64:=by
  intro l
  induction l with
  | nil=>intro m hm _;exact hm
  | cons x l ih=>
   intro m hm h;rw [List.foldl_cons];exact ih _ (Ou hm (Oj (h x Bv))) λy hy=>h y (by simp [hy])
 exact this l 0 (by decide) h
set_option maxRecDepth 100000 in
theorem bit_tab:((List.range 64).all λa=>(List.range 64).all λb=>((bitO (km a) (km b)).v == ((a ||| b:Nat):Int)) && ((Rf (km a) (km b)).v == ((a &&& b:Nat):Int)))=true:=by kernel_rfl
theorem Np {a b:Nat} (ha:a < 64) (hb:b < 64):bitO (km a) (km b)=km (a ||| b)/\Rf (km a) (km b)=km (a &&& b):=by
 have h1:=List.all_eq_true.1 (List.all_eq_true.1 bit_tab a (List.mem_range.2 ha)) b (List.mem_range.2 hb);rw [Bool.and_eq_true,beq_iff_eq,beq_iff_eq] at h1;have key:∀ (x:Kd .u64) (m:Nat),x.v=((m:Nat):Int)->x=km m:=λx m h=>by cases x;unfold km;congr 1
 exact ⟨key _ _ h1.1,key _ _ h1.2⟩
theorem bitV_km {j:Nat} (h:j < 6):bitV j=km (2 ^ j):=by
 rcases (show j=0\/j=1\/j=2\/j=3\/j=4\/j=5 by omega) with rfl | rfl | rfl | rfl | rfl | rfl <;> rfl
theorem Co {x:Step} (h:Stk x):m102 FF x=some (km (Jc x.Strokes)):=by
 have h6:=h.le;have hall:∀ y∈x.Strokes,y.Actuator.toNat < 6:=λy hy=>by have:=h.ac y hy;omega
 unfold m102;obtain ⟨v,hv,hh⟩:=Ob (L:=Fe x) (mk:=λi (v:Kd .u64)=>(v,(i:Int))) (N:=x.Strokes.length) (I:=λi v=>v=km (Jc (x.Strokes.take i))) (λn i v hi hI=>by
  have hx:=gE_ hi;have ha:=h.ac _ (List.getElem_mem hi);refine ⟨_,?_,by
   rw [Fe];dsimp only;rw [An,dt_ hi,ct_,Ak,hx,ob_,Ki ha.1 ha.2,ob_,Am om_]⟩
  rw [hI,bitV_km om_,(Np (Ei λy hy=>hall y (List.mem_of_mem_take hy)) (Oj om_)).1,List.take_add_one,hx];rw [← Oz];rfl) (λn v _=>by
  rw [Fe];dsimp only;rw [An,df_ om_,cf_]) FF 0 ⟨0⟩ om_ uF rfl
 try dsimp only at hh
 rw [n0] at hh;rw [hh,ob_,hv,List.take_length]
def ovm (s:Ah) (f:Nat):Nat->Nat
 | 0=>0
 | i + 1=>ovm s f i ||| Jc (stp s (f + i)).Strokes
def cfm (s:Ah) (f i:Nat):Bool:=(ovm s f i &&& Jc (stp s (f + i)).Strokes) != 0
theorem Lm {f a:Nat}:∀ {i:Nat},(ovm s f i).testBit a=(List.range i).any λj=>(stp s (f + j)).Strokes.any λx=>x.Actuator.toNat == a
 | 0=>by unfold ovm;simp
 | i + 1=>by
  show (ovm s f i ||| Jc (stp s (f + i)).Strokes).testBit a=_;rw [Nat.testBit_or,Lm,Bx,List.range_succ,List.any_append];simp
theorem Sq4.act6 (h:Sq4 s) {k:Nat} (hk:k < Csc.n s):∀ y∈(stp s k).Strokes,y.Actuator.toNat < 6:=λy hy=>by have:=(h.st k hk).ac y hy;omega
theorem Oo (h:Sq4 s) {f:Nat}:∀ {i:Nat},f + i<=n s->ovm s f i < 64
 | 0,_=>by unfold ovm;decide
 | i + 1,hi=>Ou (Oo h om_) (Ei (h.act6 (k:=f + i) om_))
theorem Jq {i k:Nat}:rep s i k=true↔∃ a,((stp s i).Strokes.any λx=>x.Actuator.toNat == a)=true/\((stp s k).Strokes.any λx=>x.Actuator.toNat == a)=true:=by
 unfold rep;rw [List.any_eq_true];constructor
 ·rintro ⟨⟨a,o⟩,h1,h2⟩;rw [List.any_eq_true] at h2;obtain ⟨⟨a',o'⟩,h3,h4⟩:=h2;obtain rfl:a=a':=by simpa using h4
  obtain ⟨y,hy,e⟩:=List.mem_map.1 h1;obtain ⟨z,hz,e'⟩:=List.mem_map.1 h3;refine ⟨a,List.any_eq_true.2 ⟨y,hy,?_⟩,List.any_eq_true.2 ⟨z,hz,?_⟩⟩
  ·simpa using (Prod.mk.inj e).1
  ·simpa using (Prod.mk.inj e').1
 ·rintro ⟨a,h1,h2⟩;rw [List.any_eq_true] at h1 h2;obtain ⟨y,hy,e⟩:=h1;obtain ⟨z,hz,e'⟩:=h2;refine ⟨_,List.mem_map.2 ⟨y,hy,rfl⟩,?_⟩;rw [List.any_eq_true];refine ⟨_,List.mem_map.2 ⟨z,hz,rfl⟩,?_⟩;have e:y.Actuator.toNat=a:=by simpa using e
  have e':z.Actuator.toNat=a:=by simpa using e'
  simp [e,e']
theorem Oy {m:Nat}:m≠0↔∃ a,m.testBit a=true:=by
 constructor
 ·intro h;refine Classical.byContradiction λhc=>h (Nat.eq_of_testBit_eq λi=>?_);rw [Nat.zero_testBit];cases e:m.testBit i with
  | false=>rfl
  | true=>exact absurd ⟨i,e⟩ hc
 ·rintro ⟨a,h⟩ e;rw [e,Nat.zero_testBit] at h;cases h
theorem and_bit {i k:Nat}:((Jc (stp s i).Strokes &&& Jc (stp s k).Strokes) != 0)=rep s i k:=by
 rw [Bool.eq_iff_iff,Jq,bne_iff_ne,Oy];constructor
 ·rintro ⟨a,h⟩;rw [Nat.testBit_and,Bx,Bx,Bool.and_eq_true] at h;exact ⟨a,h⟩
 ·rintro ⟨a,h⟩;exact ⟨a,by rw [Nat.testBit_and,Bx,Bx,Bool.and_eq_true];exact h⟩
theorem Ms {f i:Nat}:cfm s f i=true↔∃ j,j < i/\rep s (f + j) (f + i)=true:=by
 unfold cfm;rw [bne_iff_ne,Oy];constructor
 ·rintro ⟨a,h⟩;rw [Nat.testBit_and,Lm,Bx,Bool.and_eq_true,List.any_eq_true] at h;obtain ⟨⟨j,hj,h1⟩,h2⟩:=h;exact ⟨j,List.mem_range.1 hj,Jq.2 ⟨a,h1,h2⟩⟩
 ·rintro ⟨j,hj,h⟩;obtain ⟨a,h1,h2⟩:=Jq.1 h;refine ⟨a,?_⟩;rw [Nat.testBit_and,Lm,Bx,Bool.and_eq_true,List.any_eq_true];exact ⟨⟨j,List.mem_range.2 hj,h1⟩,h2⟩
theorem Kx (h:Sq4 s) {f z:Nat} (hf:f + z<=n s):∃ r,m177 FF s (f:Int) (z:Int)=some r/\r.2=!((List.range z).any λi=>cfm s f i):=by
 have hn:=h.n;have hns:s.Steps.length=n s:=rfl;have key:∀ (m i:Nat),i<=z->z - i < m->(∃ x,Eq FF s (f:Int) (z:Int) m (km (ovm s f i),(i:Int))=some (.brk x)/\∀ j,i<=j->j < z->cfm s f j=false)\/(∃ x,Eq FF s (f:Int) (z:Int) m (km (ovm s f i),(i:Int))=some (.ret (x,false))/\∃ j,j < z/\cfm s f j=true):=by
  intro m
  induction m with
  | zero=>intro i _ h;omega
  | succ m ih=>
   intro i h1 h2;rw [Eq];dsimp only;by_cases hi:i < z
   ·have hmod:rem (wr ((f:Int) + (i:Int))) ((s.Steps.length:Int))=some ((f + i:Nat):Int):=by
     rw [Be om_ om_,hns,show (f:Int) + (i:Int)=((f + i:Nat):Int) by omega,Li om_,Nat.mod_eq_of_lt om_]
    rw [An,dt_ hi,ct_,hmod,ob_,Ak,Au om_,ob_,Co (h.st (f + i) om_),ob_,(Np (Oo h (f:=f) (i:=i) om_) (Ei (h.act6 (k:=f + i) om_))).2];have e:(Ik.toI (km (ovm s f i &&& Jc (stp s (f + i)).Strokes)) != Ik.toI (⟨0⟩:Kd .u64))=cfm s f i:=by
     show (((ovm s f i &&& Jc (stp s (f + i)).Strokes:Nat):Int) != 0)=_;unfold cfm;rw [Bool.eq_iff_iff,bne_iff_ne,bne_iff_ne];omega
    rw [e];cases hc:cfm s f i with
    | true=>rw [ct_];exact .inr ⟨_,rfl,i,hi,hc⟩
    | false=>
     rw [cf_,(Np (Oo h (f:=f) (i:=i) om_) (Ei (h.act6 (k:=f + i) om_))).1,Am om_];rcases ih (i + 1) om_ om_ with ⟨x,g1,g2⟩ | g
     ·refine .inl ⟨x,g1,λj hj1 hj2=>?_⟩;rcases Nat.eq_or_lt_of_le hj1 with e | e
      ·subst e;exact hc
      ·exact g2 j e hj2
     ·exact .inr g
   ·rw [An,df_ hi,cf_];exact .inl ⟨_,rfl,λj h3 h4=>by omega⟩
 unfold m177;rcases key FF 0 om_ uF with ⟨x,g1,g2⟩ | ⟨x,g1,g2⟩
 ·rw [n0] at g1;rw [show (⟨0⟩:Kd .u64)=km (ovm s f 0) from rfl,g1];refine ⟨_,rfl,?_⟩;have:((List.range z).any λi=>cfm s f i)=false:=by
   rw [List.any_eq_false];intro j hj;rw [g2 j (Nat.zero_le _) (List.mem_range.1 hj)];decide
  rw [this];rfl
 ·rw [n0] at g1;rw [show (⟨0⟩:Kd .u64)=km (ovm s f 0) from rfl,g1];refine ⟨_,rfl,?_⟩;obtain ⟨j,hj,hc⟩:=g2;have:((List.range z).any λi=>cfm s f i)=true:=List.any_eq_true.2 ⟨j,List.mem_range.2 hj,hc⟩;rw [this];rfl
theorem grp_any {k:Nat}:((List.range (k + 1 - (gb s k).1 + 1)).any λi=>cfm s (gb s k).1 i)=brk s (gb s k).1 (k + 1):=by
 have hb:=Mo (s:=s) k;have hgb:∀ i,(gb s k).1<=i->i<=k->g s i=g s k:=λi h1 h2=>by
  have e1:g s (gb s k).1=g s k:=by
   obtain ⟨b,h3,h4,h5,_⟩:=Hy (s:=s) (j:=g s k) (k:=k) (Nat.le_refl _);rw [Fh] at h3;rw [Option.some.inj h3];exact h5
  have h3:=Dc (s:=s) h1;have h4:=Dc (s:=s) h2;omega
 rw [Bool.eq_iff_iff,List.any_eq_true];unfold brk;rw [List.any_eq_true];constructor
 ·rintro ⟨i,hi,hc⟩;have hi:=List.mem_range.1 hi;obtain ⟨j,hj,hr⟩:=Ms.1 hc;rcases Nat.lt_or_ge i (k + 1 - (gb s k).1) with h1 | h1
  ·exfalso;obtain ⟨a,h2,h3⟩:=Jq.1 hr;rw [List.any_eq_true] at h2 h3;obtain ⟨y,hy,ey⟩:=h2;obtain ⟨w,hw,ew⟩:=h3;refine Qq (s:=s) (i:=(gb s k).1 + j) (k:=(gb s k).1 + i) (a:=a) (o:=y.Out) (o':=w.Out) om_ (by rw [hgb ((gb s k).1 + j) om_ om_,hgb ((gb s k).1 + i) om_ om_]) (List.mem_map.2 ⟨y,hy,?_⟩) (List.mem_map.2 ⟨w,hw,?_⟩)
   ·have:y.Actuator.toNat=a:=by simpa using ey
    rw [this]
   ·have:w.Actuator.toNat=a:=by simpa using ew
    rw [this]
  ·obtain rfl:i=k + 1 - (gb s k).1:=by omega
   refine ⟨(gb s k).1 + j,List.mem_range.2 om_,?_⟩;rw [Bool.and_eq_true,decide_eq_true_iff];rw [show (gb s k).1 + (k + 1 - (gb s k).1)=k + 1 by omega] at hr;exact ⟨by omega,hr⟩
 ·rintro ⟨j,hj,hc⟩;have hj:=List.mem_range.1 hj;rw [Bool.and_eq_true,decide_eq_true_iff] at hc;refine ⟨k + 1 - (gb s k).1,List.mem_range.2 om_,Ms.2 ⟨j - (gb s k).1,by omega,?_⟩⟩;rw [show (gb s k).1 + (j - (gb s k).1)=j by omega,show (gb s k).1 + (k + 1 - (gb s k).1)=k + 1 by omega];exact hc.2
theorem gle (k:Nat):g s k<=k:=by
 induction k with
 | zero=>exact Nat.le_refl _
 | succ k ih=>rcases Nh (s:=s) k with e | e <;> omega
theorem Rr (h:Sq4 s):m99 FF s (0:Int)=some (cin (dv s)):=by
 have hn:=h.n;have h0:=h.q.n0;have hns:s.Steps.length=n s:=rfl;have key:∀ (m k:Nat),k < n s->n s - k < m->∃ a b,Dp FF s (0:Int) m (((k + 1 - (gb s k).1:Nat):Int),((k + 1:Nat):Int),cin (dl s k))=some (a,b,cin (dv s)):=by
  intro m
  induction m with
  | zero=>intro k _ h;omega
  | succ m ih=>
   intro k hk h2;have hb:=Mo (s:=s) k;have hg:=gle (s:=s) k;have hlen:(cin (dl s k)).length=g s k + 1:=by unfold cin;rw [List.length_map,Lf]
   rw [Dp];dsimp only;by_cases hk1:k + 1 < n s
   ·have hlast:idx (cin (dl s k)) (wr (((cin (dl s k)).length:Int) - 1))=some (((gb s k).1:Nat):Int):=by
     rw [hlen,Be om_ om_,show ((g s k + 1:Nat):Int) - 1=((g s k:Nat):Int) by omega,Ak,Ca,Fh];rfl
    obtain ⟨r,hr,hr2⟩:=Kx h (f:=(gb s k).1) (z:=k + 1 - (gb s k).1 + 1) om_;rw [show decide (((k + 1:Nat):Int) < (s.Steps.length:Int))=true from dt_ om_,ct_,hlast,ob_,Am om_,hr,ob_,hr2,grp_any,Bool.not_not];have hd:=dl_s (s:=s) k;have hgb:=gb_s (s:=s) k;cases hbk:brk s (gb s k).1 (k + 1) with
    | true=>
     rw [hbk,if_pos rfl] at hd hgb;rw [ct_,Be (x:=(0:Int) + ((k + 1:Nat):Int)) om_ om_,Bo (by rw [hlen];simp;omega),ob_,ob_];have e1:(gb s (k + 1)).1=k + 1:=by rw [hgb]
     have:=ih (k + 1) hk1 om_;rw [e1,hd,show k + 1 + 1 - (k + 1)=1 by omega] at this;rw [Am om_,show wr ((0:Int) + 1)=((1:Nat):Int) from rfl];unfold cin at this ⊢;rw [List.map_append] at this;rw [show (0:Int) + ((k + 1:Nat):Int)=((k + 1:Nat):Int) by omega];exact this
    | false=>
     rw [hbk,if_neg (by decide)] at hd hgb;rw [cf_,ob_,Am om_,Am om_];have:=ih (k + 1) hk1 om_;rw [hgb,hd] at this;rw [show k + 1 + 1 - (gb s k).1=k + 1 - (gb s k).1 + 1 by omega] at this;exact this
   ·rw [show decide (((k + 1:Nat):Int) < (s.Steps.length:Int))=false from df_ om_,cf_];obtain rfl:k=n s - 1:=by omega
    exact ⟨_,_,rfl⟩
 unfold m99;have first:Dp FF s (0:Int) FF ((0:Int),(0:Int),([(0:Int)]:List Int))=Dp FF s (0:Int) 99999 (((0 + 1 - (gb s 0).1:Nat):Int),((0 + 1:Nat):Int),cin (dl s 0)):=by
  show Dp FF s (0:Int) (99999 + 1) _=_;obtain ⟨r,hr,hr2⟩:=Kx h (f:=0) (z:=1) om_;have hc:cfm s 0 0=false:=by
   cases e:cfm s 0 0 with
   | false=>rfl
   | true=>obtain ⟨j,hj,_⟩:=Ms.1 e;omega
  rw [Dp];dsimp only;rw [show decide ((0:Int) < (s.Steps.length:Int))=true from dt_ om_,ct_];rw [show idx ([(0:Int)]:List Int) (wr (((([(0:Int)]:List Int).length:Nat):Int) - 1))=some (((0:Nat):Int)) from rfl,ob_,show wr ((0:Int) + 1)=((1:Nat):Int) from rfl,hr,ob_,hr2];have h1:((List.range 1).any λi=>cfm s 0 i)=false:=by
   show (cfm s 0 0 || false)=false;rw [hc];rfl
  have e:((((0 + 1 - (gb s 0).1:Nat):Int),((0 + 1:Nat):Int),cin (dl s 0)):Int×Int×List Int)=(((1:Nat):Int),((1:Nat):Int),([(0:Int)]:List Int)):=rfl;rw [h1,Bool.not_false,Bool.not_true,cf_,ob_,e,show wr ((0:Int) + 1)=((1:Nat):Int) from rfl]
 obtain ⟨a,b,hk⟩:=key 99999 0 h0 om_;rw [first,hk];rfl
theorem Js (h:Sq4 s):m34 FF s=some (cin (dv s),0):=by
 unfold m34;rw [Jr h,ob_,zf_,cf_,Rr h];rfl
end Go.Pn

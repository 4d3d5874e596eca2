import Derived.Test.YtohmmpdeoahmmaaGreatDoorDp4
set_option synthInstance.checkSynthOrder false
set_option synthInstance.maxSize 10000
set_option synthInstance.maxHeartbeats 400000
set_option maxRecDepth 100000
set_option maxHeartbeats 0
set_option linter.unusedVariables false
set_option linter.unusedSimpArgs false
set_option linter.defProp false
namespace Go.Pn
open Go Go.RowKit Go.Proofs Go.Proofs.Tryz
theorem s8 (f:Nat) (v0:Ah) (v1:List UInt8) (r:Bool) (hm:m8 f v0 v1=some r):Sp Tryz.prog 8 [TV (Va v0),Va v1] (Va r):=by
 unfold m8 at hm;refine ens func8 kr_ I ntmps8 I I λM W a hM hD s=>?_;refine ntb (d:=0) 1990 s I I λs=>?_;refine se (rg (sq s (bx (t I)) I λa w s=>sq s (sa cb) I λa w s=>nl ?_));refine se ?_;obtain ⟨x1,hx1,hm⟩:=bs hm;obtain ⟨r3,hr3,hm⟩:=bs hm;have gr3:=gF hr3;have er3:=gT hr3;obtain ⟨x2,hx2,gr3⟩:=gx gr3;refine se (rg (sq s (ld (t I)) I λa w s=>sq s (cc I (oc (t I) (oc ci on)) (s19 f _ _ _ hx1)) I λa w s=>sq s (nt (t I)) I λa w s=>sq s (mv (t I)) I λa w s=>sg s I I (λhb=>(fa (f:=Ah.Actuators) (t I))) I λa w s=>sg s I I (λhb=>(ld (tg I hb))) I λa w s=>sg s I I (λhb=>(gt (tg I hb) ci)) I λa w s=>sq s (poP (t I) I) I λa w s=>sq s (mv (t I)) I λa w s=>sg s I I (λhb=>(mv (t I))) I λa w s=>sg s I I (λhb=>(ln (tg I hb))) I λa w s=>sg s I I (λhb=>(gt (tg I hb) ci)) I λa w s=>sq s (poP (t I) I) I λa w s=>sq s (mv (t I)) I λa w s=>sg s I I (λhb=>(fa (f:=Ah.Steps) (t I))) I λa w s=>sg s I I (λhb=>(ld (tg I hb))) I λa w s=>sg s I I (λhb=>(fa (f:=Ah.Steps) (t I))) I λa w s=>sg s I I (λhb=>(ld (tg I hb))) I λa w s=>sg s I I (λhb=>(ln (tg I hb))) I λa w s=>sg s I I (λhb=>(sb (tg I hb) ci)) I λa w s=>sg s I I (λhb=>(ix (tg I hb) (tg I hb) (hx2 hb))) I λa w s=>sg s I I (λhb=>(fa (f:=Step.Wait) (tg I hb))) I λa w s=>sg s I I (λhb=>(ld (tg I hb))) I λa w s=>sg s I I (λhb=>(gt (tg I hb) ci)) I λa w s=>sq s (po (t I) I (λh=>si (gr3 h)) (λh=>(si (er3 h)).symm)) I λa w s=>nl ?_));refine cm s I hm (λhb hm=>?_) (λhb hm=>?_)
 ·obtain ⟨x4,hx4,hm⟩:=bs hm;refine se (rg (sq s (cc I on (s46 f _ hx4)) I λa w s=>sq s (sa (t I)) I λa w s=>nl ?_));obtain rfl:=si hm;refine wpIn_ret ?_;exact rn hD s I (rv1 (rt I))
 ·refine wpIn_skip ?_;obtain ⟨x5,hx5,hm⟩:=bs hm;refine se (rg (sq s (ld (t I)) I λa w s=>sq s (cc I (oc (otb (k:=1990) (t I) I) on) (s21 f _ _ hx5)) I λa w s=>sq s (mve (t I)) I λa w s=>sq s (Pn.x20 (t I)) I λa w s=>sq s (Pn.x21 (t I)) I λa w s=>sqr 1000 s (alr (cs:=[(.int .i64 0),nz,nz,nz,nz]) (z:=.agg #[(.int .i64 0),nz,nz,nz,nz]) kr_ I I) I I λb6 a w s=>swd (K:=1000) s (t I) I (t I) I λw s=>sq s (sa (t I)) I λa w s=>nl ?_));obtain ⟨x7,hx7,hm⟩:=bs hm;refine se (rg (sq s (ld (t I)) I λa w s=>sq s (cc I (oc (t I) on) (s47 f _ _ hx7)) I λa w s=>sq s (mve (t I)) I λa w s=>sq s (Pn.x20 (t I)) I λa w s=>sq s (Pn.x21 (t I)) I λa w s=>sqr 1001 s (alr (cs:=[(.int .i64 0),nz,nz,nz,nz]) (z:=.agg #[(.int .i64 0),nz,nz,nz,nz]) kr_ I I) I I λb8 a w s=>swd (K:=1001) s (t I) I (t I) I λw s=>sq s (sa (t I)) I λa w s=>nl ?_));refine se ?_;obtain ⟨r10,hr10,hm⟩:=bs hm;have gr10:=gF hr10;have er10:=gT hr10;obtain ⟨x9,hx9,gr10⟩:=gx gr10;obtain ⟨r12,hr12,hm⟩:=bs hm;have gr12:=gF hr12;have er12:=gT hr12;obtain ⟨x11,hx11,gr12⟩:=gx gr12;refine se (rg (sq s (mv (t I)) I λa w s=>sq s (mv (t I)) I λa w s=>sq s (ad (t I) (t I)) I λa w s=>sq s (ne (t I) ci) I λa w s=>sq s (mv (t I)) I λa w s=>sg s I I (λhb=>(lm (K:=1000) (t I) I)) I λa w s=>sg s I I (λhb=>(cc I (oc (tg I hb) on) (s22 f _ _ (hx9 hb)))) I λa w s=>sg s I I (λhb=>(ne (tg I hb) ci)) I λa w s=>sq s (po (t I) I (λh=>si (gr10 h)) (λh=>(si (er10 h)).symm)) I λa w s=>sq s (mv (t I)) I λa w s=>sg s I I (λhb=>(lm (K:=1001) (t I) I)) I λa w s=>sg s I I (λhb=>(cc I (oc (tg I hb) on) (s22 f _ _ (hx11 hb)))) I λa w s=>sg s I I (λhb=>(ne (tg I hb) ci)) I λa w s=>sq s (po (t I) I (λh=>si (gr12 h)) (λh=>(si (er12 h)).symm)) I λa w s=>sq s (mv (t I)) I λa w s=>sg s I I (λhb=>(fm_ (off:=1) (m:=0) (q:=1) (t I) kr_ I)) I λa w s=>sg s I I (λhb=>(lf (K:=1000) (f:=Aa.Inputs) (tg I hb) I)) I λa w s=>sg s I I (λhb=>(ln (tg I hb))) I λa w s=>sg s I I (λhb=>(ne (tg I hb) ci)) I λa w s=>sq s (poP (t I) I) I λa w s=>sq s (mv (t I)) I λa w s=>sg s I I (λhb=>(fm_ (off:=1) (m:=0) (q:=1) (t I) kr_ I)) I λa w s=>sg s I I (λhb=>(lf (K:=1001) (f:=Aa.Inputs) (tg I hb) I)) I λa w s=>sg s I I (λhb=>(ln (tg I hb))) I λa w s=>sg s I I (λhb=>(ne (tg I hb) ci)) I λa w s=>sq s (poP (t I) I) I λa w s=>nl ?_));refine cm s I hm (λhb hm=>?_) (λhb hm=>?_)
  ·refine se (rg (sq s (sa cb) I λa w s=>nl ?_));obtain rfl:=si hm;refine wpIn_ret ?_;exact rn hD s I (rv1 (rt I))
  ·refine wpIn_skip ?_;obtain ⟨x13,hx13,hm⟩:=bs hm;refine se (rg (sq s (lm (K:=1000) (t I) I) I λa w s=>sqz [1002,1003,1004,1005,1006,1007,1008,1009,1010,1011] hM s (cc I (oc (t I) on) (s23 f _ _ hx13)) (λ_=>I) I I λy14 a w s=>sq s (mve (t I)) I λa w s=>sq s (Pn.x20 (t I)) I λa w s=>sq s (Pn.x21 (t I)) I λa w s=>sq s (saq (t I)) I λa w s=>sq s (sa (t I)) I λa w s=>nl ?_));obtain ⟨x15,hx15,hm⟩:=bs hm;refine se (rg (sq s (lm (K:=1001) (t I) I) I λa w s=>sqz [1012,1013,1014,1015,1016,1017,1018,1019,1020,1021] hM s (cc I (oc (t I) on) (s23 f _ _ hx15)) (λ_=>I) I I λy16 a w s=>sq s (mve (t I)) I λa w s=>sq s (Pn.x20 (t I)) I λa w s=>sq s (Pn.x21 (t I)) I λa w s=>sq s (saq (t I)) I λa w s=>sq s (sa (t I)) I λa w s=>nl ?_));refine se ?_;rcases bfc hm with ⟨hb0,hm⟩ | ⟨hb0,hm⟩
   ·refine se (rg (sq s (mv (t I)) I λa w s=>sq s (nt (t I)) I λa w s=>sq s (mv (t I)) I λa w s=>sg s I I (λhb=>(mv (t I))) I λa w s=>sg s I I (λhb=>(nt (tg I hb))) I λa w s=>sq s (poP (t I) I) I λa w s=>sq s (mv (t I)) I λa w s=>Ld s I I hb0 I λa w s=>Ld s I I hb0 I λa w s=>Ld s I I hb0 I λa w s=>sq s (pkT (t I) hb0 cb) I λa w s=>sq s (mv (t I)) I λa w s=>Ld s I I I I λa w s=>Ld s I I I I λa w s=>Ld s I I I I λa w s=>sq s (pkT (t I) I cb) I λa w s=>nl ?_));refine cm s I hm (λhb hm=>?_) (λhb hm=>?_)
    ·refine se (rg (sq s (sa cb) I λa w s=>nl ?_));obtain rfl:=si hm;refine wpIn_ret ?_;exact rn hD s I (rv1 (rt I))
    ·cases hm
   ·obtain ⟨x17,hx17,hm⟩:=bs hm;rcases bfc hm with ⟨hb1,hm⟩ | ⟨hb1,hm⟩
    ·refine se (rg (sq s (mv (t I)) I λa w s=>sq s (nt (t I)) I λa w s=>sq s (mv (t I)) I λa w s=>sg s I I (λhb=>(mv (t I))) I λa w s=>sg s I I (λhb=>(nt (tg I hb))) I λa w s=>sq s (poP (t I) I) I λa w s=>sq s (mv (t I)) I λa w s=>gon s I I hb0 <| sq s (mvq (t I)) I λa w s=>gon s I I hb0 <| cgv [1002,1003,1004,1005,1006,1007,1008,1009,1010,1011] [1002,1003,1004,1005,1006,1007,1008,1009,1010,1011,1022] hM s qf I (oc (t I) (oc cb on)) vn vn (s24 f y14.1 y14.2.1 y14.2.2.1 y14.2.2.2.1 y14.2.2.2.2.1 y14.2.2.2.2.2.1 y14.2.2.2.2.2.2.1 y14.2.2.2.2.2.2.2.1 y14.2.2.2.2.2.2.2.2.1 y14.2.2.2.2.2.2.2.2.2 _ _ _ _ _ _ _ _ _ _ _ _ hx17) (k4 I I I I (k4 I I I I (k2 I I kn))) I (λ_=>I) I I I λy18 a w s=>gon s I I hb0 <| sq s (nt (t I)) I λa w s=>sq s (pk (t I) cb (t I)) I λa w s=>sq s (mv (t I)) I λa w s=>Ld s I I hb1 I λa w s=>Ld s I I hb1 I λa w s=>Ld s I I hb1 I λa w s=>sq s (pkT (t I) hb1 cb) I λa w s=>nl ?_));refine cm s I hm (λhb hm=>?_) (λhb hm=>?_)
     ·refine se (rg (sq s (sa cb) I λa w s=>nl ?_));obtain rfl:=si hm;refine wpIn_ret ?_;exact rn hD s I (rv1 (rt I))
     ·cases hm
    ·obtain ⟨x19,hx19,hm⟩:=bs hm;refine se (rg (sq s (mv (t I)) I λa w s=>sq s (nt (t I)) I λa w s=>sq s (mv (t I)) I λa w s=>sg s I I (λhb=>(mv (t I))) I λa w s=>sg s I I (λhb=>(nt (tg I hb))) I λa w s=>sq s (poP (t I) I) I λa w s=>sq s (mv (t I)) I λa w s=>gon s I I hb0 <| sq s (mvq (t I)) I λa w s=>gon s I I hb0 <| cgv [1002,1003,1004,1005,1006,1007,1008,1009,1010,1011] [1002,1003,1004,1005,1006,1007,1008,1009,1010,1011,1022] hM s qf I (oc (t I) (oc cb on)) vn vn (s24 f y14.1 y14.2.1 y14.2.2.1 y14.2.2.2.1 y14.2.2.2.2.1 y14.2.2.2.2.2.1 y14.2.2.2.2.2.2.1 y14.2.2.2.2.2.2.2.1 y14.2.2.2.2.2.2.2.2.1 y14.2.2.2.2.2.2.2.2.2 _ _ _ _ _ _ _ _ _ _ _ _ hx17) (k4 I I I I (k4 I I I I (k2 I I kn))) I (λ_=>I) I I I λy18 a w s=>gon s I I hb0 <| sq s (nt (t I)) I λa w s=>sq s (pk (t I) cb (t I)) I λa w s=>sq s (mv (t I)) I λa w s=>gon s I I hb1 <| sq s (mvq (t I)) I λa w s=>gon s I I hb1 <| cgv [1012,1013,1014,1015,1016,1017,1018,1019,1020,1021] [1012,1013,1014,1015,1016,1017,1018,1019,1020,1021,1023] hM s qf I (oc (t I) (oc cb on)) vn vn (s24 f y16.1 y16.2.1 y16.2.2.1 y16.2.2.2.1 y16.2.2.2.2.1 y16.2.2.2.2.2.1 y16.2.2.2.2.2.2.1 y16.2.2.2.2.2.2.2.1 y16.2.2.2.2.2.2.2.2.1 y16.2.2.2.2.2.2.2.2.2 _ _ _ _ _ _ _ _ _ _ _ _ hx19) (k4 I I I I (k4 I I I I (k2 I I kn))) I (λ_=>I) I I I λy20 a w s=>gon s I I hb1 <| sq s (nt (t I)) I λa w s=>sq s (pk (t I) cb (t I)) I λa w s=>nl ?_));refine cm s I hm (λhb hm=>?_) (λhb hm=>?_)
     ·refine se (rg (sq s (sa cb) I λa w s=>nl ?_));obtain rfl:=si hm;refine wpIn_ret ?_;exact rn hD s I (rv1 (rt I))
     ·refine wpIn_skip (se ?_);refine se (rg (sq s (mv (t I)) I λa w s=>sq s (ln (t I)) I λa w s=>sq s (mv ci) I λa w s=>nl ?_));obtain ⟨o22,hoo22,hko22⟩:=bs hm;refine lcI o22 (λo22s a w=>∃ (o22sc0:Value) (o22sc1:Value) (o22sc2:Value) (o22sc3:Value) (o22sc4:Value) (o22sc5:Value) (o22sc6:Value) (o22sc7:Value) (o22sc8:Value) (o22sc9:Value) (o22sc10:Value) (o22sc11:Value),St M W 250 [(0,Va v0),(1,Va v1),(2,Pt v0),(4,Va false),(5,Qv (pb b6 0)),(6,Va x5.2),(7,Qv (pb b8 0)),(8,Va x7.2),(9,Qv (pb y14.1 0)),(10,Va x13.1),(11,Qv (pb y16.1 0)),(12,Va x15.1),(112,Va v1),(113,Va ((v1.length:Int))),(114,Va o22s.1),(1000,Mg b6 x5.1),(1001,Mg b8 x7.1),(1002,Mr y14.1 [(.int .i64 x17.2.1),y14.2.1,y14.2.2.1,y14.2.2.2.1,y14.2.2.2.2.1,o22sc0,o22sc1,o22sc2,o22sc3,o22sc4,o22sc5]),(1003,At y14.2.1 (Va x13.2.2.1)),(1004,At y14.2.2.1 (Va x13.2.2.2.1)),(1005,At y14.2.2.2.1 (Va x13.2.2.2.2.1)),(1006,At y14.2.2.2.2.1 (Va x13.2.2.2.2.2.1)),(1007,At o22sc0 (Va o22s.2.1)),(1008,At o22sc1 (Va o22s.2.2.1)),(1009,At o22sc2 (Va o22s.2.2.2.1)),(1010,At o22sc3 (Va o22s.2.2.2.2.1)),(1011,At o22sc4 (Va o22s.2.2.2.2.2.1)),(1022,Ow 69 o22sc5 o22s.2.2.2.2.2.2.1),(1012,Mr y16.1 [(.int .i64 x19.2.1),y16.2.1,y16.2.2.1,y16.2.2.2.1,y16.2.2.2.2.1,o22sc6,o22sc7,o22sc8,o22sc9,o22sc10,o22sc11]),(1013,At y16.2.1 (Va x15.2.2.1)),(1014,At y16.2.2.1 (Va x15.2.2.2.1)),(1015,At y16.2.2.2.1 (Va x15.2.2.2.2.1)),(1016,At y16.2.2.2.2.1 (Va x15.2.2.2.2.2.1)),(1017,At o22sc6 (Va o22s.2.2.2.2.2.2.2.1)),(1018,At o22sc7 (Va o22s.2.2.2.2.2.2.2.2.1)),(1019,At o22sc8 (Va o22s.2.2.2.2.2.2.2.2.2.1)),(1020,At o22sc9 (Va o22s.2.2.2.2.2.2.2.2.2.2.1)),(1021,At o22sc10 (Va o22s.2.2.2.2.2.2.2.2.2.2.2.1)),(1023,Ow 69 o22sc11 o22s.2.2.2.2.2.2.2.2.2.2.2.2),(1990,TbT)] a w) ?_ λo22s a w ho s=>?_
      ·refine wpIn_block (loI (λn z21=>Sx f v1 x5 x7 x13 x15 x17 x19 n z21) o22 (λz21 a w=>∃ (z21c0:Value) (z21c1:Value) (z21c2:Value) (z21c3:Value) (z21c4:Value) (z21c5:Value) (z21c6:Value) (z21c7:Value) (z21c8:Value) (z21c9:Value) (z21c10:Value) (z21c11:Value),St M W 250 [(0,Va v0),(1,Va v1),(2,Pt v0),(4,Va false),(5,Qv (pb b6 0)),(6,Va x5.2),(7,Qv (pb b8 0)),(8,Va x7.2),(9,Qv (pb y14.1 0)),(10,Va x13.1),(11,Qv (pb y16.1 0)),(12,Va x15.1),(112,Va v1),(113,Va ((v1.length:Int))),(114,Va z21.1),(1000,Mg b6 x5.1),(1001,Mg b8 x7.1),(1002,Mr y14.1 [(.int .i64 x17.2.1),y14.2.1,y14.2.2.1,y14.2.2.2.1,y14.2.2.2.2.1,z21c0,z21c1,z21c2,z21c3,z21c4,z21c5]),(1003,At y14.2.1 (Va x13.2.2.1)),(1004,At y14.2.2.1 (Va x13.2.2.2.1)),(1005,At y14.2.2.2.1 (Va x13.2.2.2.2.1)),(1006,At y14.2.2.2.2.1 (Va x13.2.2.2.2.2.1)),(1007,At z21c0 (Va z21.2.1)),(1008,At z21c1 (Va z21.2.2.1)),(1009,At z21c2 (Va z21.2.2.2.1)),(1010,At z21c3 (Va z21.2.2.2.2.1)),(1011,At z21c4 (Va z21.2.2.2.2.2.1)),(1022,Ow 69 z21c5 z21.2.2.2.2.2.2.1),(1012,Mr y16.1 [(.int .i64 x19.2.1),y16.2.1,y16.2.2.1,y16.2.2.2.1,y16.2.2.2.2.1,z21c6,z21c7,z21c8,z21c9,z21c10,z21c11]),(1013,At y16.2.1 (Va x15.2.2.1)),(1014,At y16.2.2.1 (Va x15.2.2.2.1)),(1015,At y16.2.2.2.1 (Va x15.2.2.2.2.1)),(1016,At y16.2.2.2.2.1 (Va x15.2.2.2.2.2.1)),(1017,At z21c6 (Va z21.2.2.2.2.2.2.2.1)),(1018,At z21c7 (Va z21.2.2.2.2.2.2.2.2.1)),(1019,At z21c8 (Va z21.2.2.2.2.2.2.2.2.2.1)),(1020,At z21c9 (Va z21.2.2.2.2.2.2.2.2.2.2.1)),(1021,At z21c10 (Va z21.2.2.2.2.2.2.2.2.2.2.2.1)),(1023,Ow 69 z21c11 z21.2.2.2.2.2.2.2.2.2.2.2.2),(1990,TbT)] a w) f ((0:Int),x17.2.2.1,x17.2.2.2.1,x17.2.2.2.2.1,x17.2.2.2.2.2.1,x17.2.2.2.2.2.2.1,x17.2.2.2.2.2.2.2,x19.2.2.1,x19.2.2.2.1,x19.2.2.2.2.1,x19.2.2.2.2.2.1,x19.2.2.2.2.2.2.1,x19.2.2.2.2.2.2.2) ⟨y18.1,y18.2.1,y18.2.2.1,y18.2.2.2.1,y18.2.2.2.2.1,y18.2.2.2.2.2,y20.1,y20.2.1,y20.2.2.1,y20.2.2.2.1,y20.2.2.2.2.1,y20.2.2.2.2.2,s.pick [0,1,2,4,5,6,7,8,9,10,11,12,112,113,114,1000,1001,1002,1003,1004,1005,1006,1007,1008,1009,1010,1011,1022,1012,1013,1014,1015,1016,1017,1018,1019,1020,1021,1023,1990]⟩ hoo22 (λ_=>I) λn z21 a w hm s=>?_);obtain ⟨z21c0,z21c1,z21c2,z21c3,z21c4,z21c5,z21c6,z21c7,z21c8,z21c9,z21c10,z21c11,s⟩:=s;replace hm:Sx f v1 x5 x7 x13 x15 x17 x19 (n + 1) z21=some o22:=hm;unfold Sx at hm;refine se (rg (sq s (lt (t I) (t I)) I λa w s=>nl ?_));refine se (cm s I hm (λhb hm=>?_) (λhb hm=>?_))
       ·refine wpIn_skip (se ?_);refine wpIn_block ?_;obtain ⟨x23,hx23,hm⟩:=bs hm;refine se (rg (sq s (ix (t I) (t I) hx23) I λa w s=>sq s (ld (t I)) I λa w s=>sq s (sa (t I)) I λa w s=>nl ?_));obtain ⟨x24,hx24,hm⟩:=bs hm;refine se (flo3 (m:=6) 7 s (.cons (.cons (.cons (.cons (.cons (.cons .nil I (lm (K:=1000) (t I) I)) I (mvq (t I))) I (nkq (t I))) I (fm_ (off:=5) (m:=4) (q:=5) (t I) kr_ I)) I (lra (K:=1002) (ds:=[z21c0,z21c1,z21c2,z21c3,z21c4]) Ad (t I) I I I I)) I (cc I (oc (t I) (oc (qad (y:=(⟨z21.2.1,z21.2.2.1,z21.2.2.2.1,z21.2.2.2.2.1,z21.2.2.2.2.2.1⟩:Ad)) (t I) (Bi (l:=([z21c0],[z21c1],[z21c2],[z21c3],[z21c4])) (rpz (k:=1007) I) (rpz (k:=1008) I) (rpz (k:=1009) I) (rpz (k:=1010) I) (rpz (k:=1011) I)) I) on)) (s42 f _ _ _ hx24))) kr_ I I λa w s=>opz (d:=124) [1025] s I (λ_=>I) I λy25 s=>sq s (mve (t I)) I λa w s=>d3 s (.cons (.cons (.cons (.cons .nil I (Pn.x20 (t I))) I (Pn.x21 (t I))) I (saq (t I))) I (sa (t I))) I I λa w s=>?_);obtain ⟨x26,hx26,hm⟩:=bs hm;refine se (flo3 (m:=6) 7 s (.cons (.cons (.cons (.cons (.cons (.cons .nil I (lm (K:=1001) (t I) I)) I (mvq (t I))) I (nkq (t I))) I (fm_ (off:=5) (m:=4) (q:=5) (t I) kr_ I)) I (lra (K:=1012) (ds:=[z21c6,z21c7,z21c8,z21c9,z21c10]) Ad (t I) I I I I)) I (cc I (oc (t I) (oc (qad (y:=(⟨z21.2.2.2.2.2.2.2.1,z21.2.2.2.2.2.2.2.2.1,z21.2.2.2.2.2.2.2.2.2.1,z21.2.2.2.2.2.2.2.2.2.2.1,z21.2.2.2.2.2.2.2.2.2.2.2.1⟩:Ad)) (t I) (Bi (l:=([z21c6],[z21c7],[z21c8],[z21c9],[z21c10])) (rpz (k:=1017) I) (rpz (k:=1018) I) (rpz (k:=1019) I) (rpz (k:=1020) I) (rpz (k:=1021) I)) I) on)) (s42 f _ _ _ hx26))) kr_ I I λa w s=>opz (d:=133) [1027] s I (λ_=>I) I λy27 s=>sq s (mve (t I)) I λa w s=>d3 s (.cons (.cons (.cons (.cons .nil I (Pn.x20 (t I))) I (Pn.x21 (t I))) I (saq (t I))) I (sa (t I))) I I λa w s=>?_);refine se ?_;obtain ⟨r29,hr29,hm⟩:=bs hm;have gr29:=gF hr29;have er29:=gT hr29;obtain ⟨x28,hx28,gr29⟩:=gx gr29;obtain ⟨r31,hr31,hm⟩:=bs hm;have gr31:=gF hr31;have er31:=gT hr31;obtain ⟨x30,hx30,gr31⟩:=gx gr31;refine se (Ex s (m:=37) (.cons (.cong (.cong (.cong (.cong (.cong (.cong (.cong (.cong (.cong (.cong (.cong (.cong (.cons (.cons (.cong (.cong (.cong (.cong (.cong (.cong (.cong (.cong (.cong (.cong (.cons (.cons (.cong (.cong (.cong (.cong (.cong (.cons (.cons (.cons (.cons (.cons .nil I (mv (t I))) I (mv (t I))) I (ad (t I) (t I))) I (ne (t I) ci)) I (mv (t I))) I I I (λhb=>(mvq (t I)))) I I I (λhb=>(lnq (α:=Af) (k:=1025) (tg I hb) I))) I I I (λhb=>(mvq (t I)))) I I I (λhb=>(lnq (α:=Af) (k:=1027) (tg I hb) I))) I I I (λhb=>(ne (tg I hb) (tg I hb)))) I (poP (t I) I)) I (mv (t I))) I I I (λhb=>(mvq (t I)))) I I I (λhb=>(nkq (tg I hb)))) I I I (λhb=>(fm_ (off:=10) (m:=0) (q:=10) (tg I hb) kr_ I))) I I I (λhb=>(lrc (K:=1002) (List Ab) (tg I hb) I I I I))) I I I (λhb=>(mvq (t I)))) I I I (λhb=>(nkq (tg I hb)))) I I I (λhb=>(fm_ (off:=10) (m:=0) (q:=10) (tg I hb) kr_ I))) I I I (λhb=>(lrc (K:=1012) (List Ab) (tg I hb) I I I I))) I I I (λhb=>(tfg (k:=1023) fl1 I (tfg (k:=1022) fl1 I (cc I (oc (ta (k:=1022) (tg I hb) I) (oc (ta (k:=1023) (tg I hb) I) on)) (s48 f _ _ _ (hx28 hb))))))) I I I (λhb=>(nt (tg I hb)))) I (po (t I) I (λh=>si (gr29 h)) (λh=>(si (er29 h)).symm))) I (mv (t I))) I I I (λhb=>(mvq (t I)))) I I I (λhb=>(nkq (tg I hb)))) I I I (λhb=>(fm_ (off:=5) (m:=4) (q:=5) (tg I hb) kr_ I))) I I I (λhb=>(fm_ (off:=0) (m:=0) (q:=5) (tg I hb) kr_ I))) I I I (λhb=>(lrc (K:=1002) LH (tg I hb) I I I I))) I I I (λhb=>(mvq (t I)))) I I I (λhb=>(nkq (tg I hb)))) I I I (λhb=>(fm_ (off:=5) (m:=4) (q:=5) (tg I hb) kr_ I))) I I I (λhb=>(fm_ (off:=0) (m:=0) (q:=5) (tg I hb) kr_ I))) I I I (λhb=>(lrc (K:=1012) LH (tg I hb) I I I I))) I I I (λhb=>(cc I (oc (ta (k:=1007) (tg I hb) I) (oc (ta (k:=1017) (tg I hb) I) on)) (s49 f _ _ _ (hx30 hb))))) I I I (λhb=>(nt (tg I hb)))) I (po (t I) I (λh=>si (gr31 h)) (λh=>(si (er31 h)).symm))) kr_ I I λa w s=>nl ?_)
        refine cm s I hm (λhb hm=>?_) (λhb hm=>?_)
        ·refine se (rg (sq s (sa cb) I λa w s=>nl ?_));obtain rfl:=si hm;replace hm:=hko22;dsimp only at hm;obtain rfl:=si hm;refine wpIn_ret ?_;exact rn hD s I (rv1 (rt I))
        ·refine wpIn_skip (se ?_);refine se (rg (sq s (mvq (t I)) I λa w s=>sq s (lnq (α:=Af) (k:=1025) (t I) I) I λa w s=>sq s (mv ci) I λa w s=>nl ?_));obtain ⟨o33,hoo33,hko33⟩:=bs hm;refine lcI o33 (λo33s a w=>St M W 250 [(0,Va v0),(1,Va v1),(2,Pt v0),(4,Va false),(5,Qv (pb b6 0)),(6,Va x5.2),(7,Qv (pb b8 0)),(8,Va x7.2),(9,Qv (pb y14.1 0)),(10,Va x13.1),(11,Qv (pb y16.1 0)),(12,Va x15.1),(14,Va x23),(15,Qv y25),(16,Va x24.1),(17,Qv y27),(18,Va x26.1),(112,Va v1),(113,Va ((v1.length:Int))),(114,Va z21.1),(174,Va ((x24.2.length:Int))),(175,Va o33s),(1000,Mg b6 x5.1),(1001,Mg b8 x7.1),(1002,Mr y14.1 [(.int .i64 x17.2.1),y14.2.1,y14.2.2.1,y14.2.2.2.1,y14.2.2.2.2.1,z21c0,z21c1,z21c2,z21c3,z21c4,z21c5]),(1003,At y14.2.1 (Va x13.2.2.1)),(1004,At y14.2.2.1 (Va x13.2.2.2.1)),(1005,At y14.2.2.2.1 (Va x13.2.2.2.2.1)),(1006,At y14.2.2.2.2.1 (Va x13.2.2.2.2.2.1)),(1007,At z21c0 (Va z21.2.1)),(1008,At z21c1 (Va z21.2.2.1)),(1009,At z21c2 (Va z21.2.2.2.1)),(1010,At z21c3 (Va z21.2.2.2.2.1)),(1011,At z21c4 (Va z21.2.2.2.2.2.1)),(1022,Ow 69 z21c5 z21.2.2.2.2.2.2.1),(1012,Mr y16.1 [(.int .i64 x19.2.1),y16.2.1,y16.2.2.1,y16.2.2.2.1,y16.2.2.2.2.1,z21c6,z21c7,z21c8,z21c9,z21c10,z21c11]),(1013,At y16.2.1 (Va x15.2.2.1)),(1014,At y16.2.2.1 (Va x15.2.2.2.1)),(1015,At y16.2.2.2.1 (Va x15.2.2.2.2.1)),(1016,At y16.2.2.2.2.1 (Va x15.2.2.2.2.2.1)),(1017,At z21c6 (Va z21.2.2.2.2.2.2.2.1)),(1018,At z21c7 (Va z21.2.2.2.2.2.2.2.2.1)),(1019,At z21c8 (Va z21.2.2.2.2.2.2.2.2.2.1)),(1020,At z21c9 (Va z21.2.2.2.2.2.2.2.2.2.2.1)),(1021,At z21c10 (Va z21.2.2.2.2.2.2.2.2.2.2.2.1)),(1023,Ow 69 z21c11 z21.2.2.2.2.2.2.2.2.2.2.2.2),(1025,Ow 86 y25 x24.2),(1027,Ow 86 y27 x26.2),(1990,TbT)] a w) ?_ λo33s a w ho s=>?_
         ·refine wpIn_block (loI (λn z32=>Ql x24 x26 n z32) o33 (λz32 a w=>St M W 250 [(0,Va v0),(1,Va v1),(2,Pt v0),(4,Va false),(5,Qv (pb b6 0)),(6,Va x5.2),(7,Qv (pb b8 0)),(8,Va x7.2),(9,Qv (pb y14.1 0)),(10,Va x13.1),(11,Qv (pb y16.1 0)),(12,Va x15.1),(14,Va x23),(15,Qv y25),(16,Va x24.1),(17,Qv y27),(18,Va x26.1),(112,Va v1),(113,Va ((v1.length:Int))),(114,Va z21.1),(174,Va ((x24.2.length:Int))),(175,Va z32),(1000,Mg b6 x5.1),(1001,Mg b8 x7.1),(1002,Mr y14.1 [(.int .i64 x17.2.1),y14.2.1,y14.2.2.1,y14.2.2.2.1,y14.2.2.2.2.1,z21c0,z21c1,z21c2,z21c3,z21c4,z21c5]),(1003,At y14.2.1 (Va x13.2.2.1)),(1004,At y14.2.2.1 (Va x13.2.2.2.1)),(1005,At y14.2.2.2.1 (Va x13.2.2.2.2.1)),(1006,At y14.2.2.2.2.1 (Va x13.2.2.2.2.2.1)),(1007,At z21c0 (Va z21.2.1)),(1008,At z21c1 (Va z21.2.2.1)),(1009,At z21c2 (Va z21.2.2.2.1)),(1010,At z21c3 (Va z21.2.2.2.2.1)),(1011,At z21c4 (Va z21.2.2.2.2.2.1)),(1022,Ow 69 z21c5 z21.2.2.2.2.2.2.1),(1012,Mr y16.1 [(.int .i64 x19.2.1),y16.2.1,y16.2.2.1,y16.2.2.2.1,y16.2.2.2.2.1,z21c6,z21c7,z21c8,z21c9,z21c10,z21c11]),(1013,At y16.2.1 (Va x15.2.2.1)),(1014,At y16.2.2.1 (Va x15.2.2.2.1)),(1015,At y16.2.2.2.1 (Va x15.2.2.2.2.1)),(1016,At y16.2.2.2.2.1 (Va x15.2.2.2.2.2.1)),(1017,At z21c6 (Va z21.2.2.2.2.2.2.2.1)),(1018,At z21c7 (Va z21.2.2.2.2.2.2.2.2.1)),(1019,At z21c8 (Va z21.2.2.2.2.2.2.2.2.2.1)),(1020,At z21c9 (Va z21.2.2.2.2.2.2.2.2.2.2.1)),(1021,At z21c10 (Va z21.2.2.2.2.2.2.2.2.2.2.2.1)),(1023,Ow 69 z21c11 z21.2.2.2.2.2.2.2.2.2.2.2.2),(1025,Ow 86 y25 x24.2),(1027,Ow 86 y27 x26.2),(1990,TbT)] a w) f (0:Int) (s.pick [0,1,2,4,5,6,7,8,9,10,11,12,14,15,16,17,18,112,113,114,174,175,1000,1001,1002,1003,1004,1005,1006,1007,1008,1009,1010,1011,1022,1012,1013,1014,1015,1016,1017,1018,1019,1020,1021,1023,1025,1027,1990]) hoo33 (λ_=>I) λn z32 a w hm s=>?_);replace hm:Ql x24 x26 (n + 1) z32=some o33:=hm;unfold Ql at hm;refine se (rg (sq s (lt (t I) (t I)) I λa w s=>nl ?_));refine se (cm s I hm (λhb hm=>?_) (λhb hm=>?_))
          ·refine wpIn_skip (se ?_);refine wpIn_block (se (rg (sq s (mv (t I)) I λa w s=>sq s (sa (t I)) I λa w s=>nl ?_)));obtain ⟨x34,hx34,hm⟩:=bs hm;obtain ⟨x35,hx35,hm⟩:=bs hm;obtain ⟨r40,hr40,hm⟩:=bs hm;have gr40:=gF hr40;have er40:=gT hr40;obtain ⟨x36,hx36,gr40⟩:=gx gr40;obtain ⟨r39,hr39,gr40⟩:=gx gr40;have gr39:=gT2 hr39;have er39:=gF1 hr39;obtain ⟨x37,hx37,gr39⟩:=gx gr39;obtain ⟨x38,hx38,gr39⟩:=gx gr39;refine se (Ex s (m:=32) (.cons (.cong (.cont (.cont (.cont (.cont (.cont (.cont (.cont (.cont (.cont (.cont (.cont (.cong (.cong (.cong (.cong (.cong (.cong (.cong (.cons (.cons (.cons (.cons (.cons (.cons (.cons (.cons (.cons (.cons (.cons (.cons .nil I (mvq (t I))) I (mv (t I))) I (ixq (α:=Af) (k:=1025) (t I) I (t I) hx34)) I (fmq (fo:=0) (m:=0) (t I) kr_)) I (lqf (k:=1025) (f:=Af.Kind) (t I) I (Cj hx34))) I (mvq (t I))) I (mv (t I))) I (ixq (α:=Af) (k:=1027) (t I) I (t I) hx35)) I (fmq (fo:=0) (m:=0) (t I) kr_)) I (lqf (k:=1027) (f:=Af.Kind) (t I) I (Cj hx35))) I (ne (t I) (t I))) I (mv (t I))) I I I (λhb=>(mvq (t I)))) I I I (λhb=>(mv (t I)))) I I I (λhb=>(ixq (α:=Af) (k:=1025) (tg I hb) I (tg I hb) (hx36 hb)))) I I I (λhb=>(fmq (fo:=0) (m:=0) (tg I hb) kr_))) I I I (λhb=>(lqf (k:=1025) (f:=Af.Kind) (tg I hb) I (Cj (hx36 hb))))) I I I (λhb=>(eq (tg I hb) ci))) I I I (λhb=>(mv (tg I hb)))) I I I (λhb hc=>(mvq (t I)))) I I I (λhb hc=>(mv (t I)))) I I I (λhb hc=>(ixq (α:=Af) (k:=1025) (tg I (g2 hb hc)) I (tg I (g2 hb hc)) (hx37 (g2 hb hc))))) I I I (λhb hc=>(fmq (fo:=1) (m:=0) (tg I (g2 hb hc)) kr_))) I I I (λhb hc=>(lqf (k:=1025) (f:=Af.Index) (tg I (g2 hb hc)) I (Cj (hx37 (g2 hb hc)))))) I I I (λhb hc=>(mvq (t I)))) I I I (λhb hc=>(mv (t I)))) I I I (λhb hc=>(ixq (α:=Af) (k:=1027) (tg I (g2 hb hc)) I (tg I (g2 hb hc)) (hx38 (g2 hb hc))))) I I I (λhb hc=>(fmq (fo:=1) (m:=0) (tg I (g2 hb hc)) kr_))) I I I (λhb hc=>(lqf (k:=1027) (f:=Af.Index) (tg I (g2 hb hc)) I (Cj (hx38 (g2 hb hc)))))) I I I (λhb hc=>(ne (tg I (g2 hb hc)) (tg I (g2 hb hc))))) I I I (λhb=>(pag (tg I hb) I (λh=>g2 hb h) (λh=>si (gr39 (g2 hb h))) (λh=>(si (er39 hb h)).symm)))) I (po (t I) I (λh=>si (gr40 h)) (λh=>(si (er40 h)).symm))) kr_ I I λa w s=>nl ?_);refine cm s I hm (λhb hm=>?_) (λhb hm=>?_)
           ·refine se (rg (sq s (sa cb) I λa w s=>nl ?_));obtain rfl:=si hm;replace hm:=hko33;dsimp only at hm;obtain rfl:=si hm;replace hm:=hko22;dsimp only at hm;obtain rfl:=si hm;refine wpIn_ret ?_;exact rn hD s I (rv1 (rt I))
           ·refine wpIn_skip (rg (sq s (ad (t I) ci) I λa w s=>sq s (mv (t I)) I λa w s=>nl ?_));exact ⟨_,hm,s.pick [0,1,2,4,5,6,7,8,9,10,11,12,14,15,16,17,18,112,113,114,174,175,1000,1001,1002,1003,1004,1005,1006,1007,1008,1009,1010,1011,1022,1012,1013,1014,1015,1016,1017,1018,1019,1020,1021,1023,1025,1027,1990]⟩
          ·refine wpIn_exit ?_;exact ⟨_,(si hm).symm,s.pick [0,1,2,4,5,6,7,8,9,10,11,12,14,15,16,17,18,112,113,114,174,175,1000,1001,1002,1003,1004,1005,1006,1007,1008,1009,1010,1011,1022,1012,1013,1014,1015,1016,1017,1018,1019,1020,1021,1023,1025,1027,1990]⟩
         ·subst ho;replace hm:=hko33;dsimp only at hm;obtain ⟨x41,hx41,hm⟩:=bs hm;refine se (rg (sq s (mvq (t I)) I λa w s=>sq s (mv (t I)) I λa w s=>cgv [1002,1003,1004,1005,1006,1007,1008,1009,1010,1011,1022] [1002,1003,1004,1005,1006,1007,1008,1009,1010,1011,1022] hM s qf I (oc (t I) (oc (t I) on)) vn vn (s25 f y14.1 y14.2.1 y14.2.2.1 y14.2.2.2.1 y14.2.2.2.2.1 z21c0 z21c1 z21c2 z21c3 z21c4 z21c5 _ _ _ _ _ _ _ _ _ _ _ _ _ hx41) (k4 I I I I (k4 I I I I (k2 I I (kc I kn)))) I (λ_=>I) I I I λy42 a w s=>sq s (mve (t I)) I λa w s=>sq s (Pn.x20 (t I)) I λa w s=>sq s (Pn.x21 (t I)) I λa w s=>sq s (sa (t I)) I λa w s=>sq s (sa (t I)) I λa w s=>nl ?_));obtain ⟨x43,hx43,hm⟩:=bs hm;refine se (rg (sq s (mvq (t I)) I λa w s=>sq s (mv (t I)) I λa w s=>cgv [1012,1013,1014,1015,1016,1017,1018,1019,1020,1021,1023] [1012,1013,1014,1015,1016,1017,1018,1019,1020,1021,1023] hM s qf I (oc (t I) (oc (t I) on)) vn vn (s25 f y16.1 y16.2.1 y16.2.2.1 y16.2.2.2.1 y16.2.2.2.2.1 z21c6 z21c7 z21c8 z21c9 z21c10 z21c11 _ _ _ _ _ _ _ _ _ _ _ _ _ hx43) (k4 I I I I (k4 I I I I (k2 I I (kc I kn)))) I (λ_=>I) I I I λy44 a w s=>sq s (mve (t I)) I λa w s=>sq s (Pn.x20 (t I)) I λa w s=>sq s (Pn.x21 (t I)) I λa w s=>sq s (sa (t I)) I λa w s=>sq s (sa (t I)) I λa w s=>nl ?_));refine se (rg (sq s (mv (t I)) I λa w s=>sq s (nt (t I)) I λa w s=>sq s (mv (t I)) I λa w s=>sg s I I (λhb=>(mv (t I))) I λa w s=>sg s I I (λhb=>(nt (tg I hb))) I λa w s=>sq s (poP (t I) I) I λa w s=>sq s (mv (t I)) I λa w s=>sg s I I (λhb=>(mv (t I))) I λa w s=>sg s I I (λhb=>(nt (tg I hb))) I λa w s=>sq s (poP (t I) I) I λa w s=>sq s (mv (t I)) I λa w s=>sg s I I (λhb=>(mv (t I))) I λa w s=>sg s I I (λhb=>(nt (tg I hb))) I λa w s=>sq s (poP (t I) I) I λa w s=>nl ?_));refine cm s I hm (λhb hm=>?_) (λhb hm=>?_)
          ·refine se (rg (sq s (sa cb) I λa w s=>nl ?_));obtain rfl:=si hm;replace hm:=hko22;dsimp only at hm;obtain rfl:=si hm;refine wpIn_ret ?_;exact rn hD s I (rv1 (rt I))
          ·refine wpIn_skip (rg (sq s (ad (t I) ci) I λa w s=>sq s (mv (t I)) I λa w s=>nl ?_));exact ⟨_,hm,⟨y42.1,y42.2.1,y42.2.2.1,y42.2.2.2.1,y42.2.2.2.2.1,y42.2.2.2.2.2,y44.1,y44.2.1,y44.2.2.1,y44.2.2.2.1,y44.2.2.2.2.1,y44.2.2.2.2.2,s.pick [0,1,2,4,5,6,7,8,9,10,11,12,112,113,114,1000,1001,1002,1003,1004,1005,1006,1007,1008,1009,1010,1011,1022,1012,1013,1014,1015,1016,1017,1018,1019,1020,1021,1023,1990]⟩⟩
       ·refine wpIn_exit ?_;exact ⟨_,(si hm).symm,⟨z21c0,z21c1,z21c2,z21c3,z21c4,z21c5,z21c6,z21c7,z21c8,z21c9,z21c10,z21c11,s.pick [0,1,2,4,5,6,7,8,9,10,11,12,112,113,114,1000,1001,1002,1003,1004,1005,1006,1007,1008,1009,1010,1011,1022,1012,1013,1014,1015,1016,1017,1018,1019,1020,1021,1023,1990]⟩⟩
      ·obtain ⟨o22sc0,o22sc1,o22sc2,o22sc3,o22sc4,o22sc5,o22sc6,o22sc7,o22sc8,o22sc9,o22sc10,o22sc11,s⟩:=s;subst ho;replace hm:=hko22;dsimp only at hm;obtain ⟨x45,hx45,hm⟩:=bs hm;obtain ⟨r47,hr47,hm⟩:=bs hm;have gr47:=gT hr47;have er47:=gF hr47;obtain ⟨x46,hx46,gr47⟩:=gx gr47;refine se (Ex s (m:=12) (.cons (.cong (.cons (.cons (.cons (.cons (.cons (.cons (.cons (.cons (.cons (.cons .nil I (mvq (t I))) I (nkq (t I))) I (fm_ (off:=10) (m:=0) (q:=10) (t I) kr_ I)) I (lrc (K:=1002) (List Ab) (t I) I I I I)) I (mvq (t I))) I (nkq (t I))) I (fm_ (off:=10) (m:=0) (q:=10) (t I) kr_ I)) I (lrc (K:=1012) (List Ab) (t I) I I I I)) I (tfg (k:=1023) fl1 I (tfg (k:=1022) fl1 I (cc I (oc (ta (k:=1022) (t I) I) (oc (ta (k:=1023) (t I) I) on)) (s48 f _ _ _ hx45))))) I (mv (t I))) I I I (λhb=>(cc I on (s46 f _ (hx46 hb))))) I (pa (t I) I (λh=>si (gr47 h)) (λh=>(si (er47 h)).symm))) kr_ I I λa w s=>sq s (sa (t I)) I λa w s=>nl ?_);obtain rfl:=si hm;refine wpIn_ret ?_;exact rn hD s I (rv1 (rt I))
end Go.Pn
set_option synthInstance.checkSynthOrder false
set_option synthInstance.maxSize 10000
set_option synthInstance.maxHeartbeats 400000
namespace Go.Pn
open Go Go.RowKit Go.Proofs
end Go.Pn
namespace Go.Pn
theorem Ao {x:Int} (h1:-9223372036854775808<=x) (h2:x<=9223372036854775807):wr x=x:=by
 simp only [wr,IntKind.wrap,IntKind.bits,IntKind.signed];simp;omega
theorem Aj {α:Type} {xs:List α} {n:Nat}:idx xs (n:Int)=xs[n]?:=by simp [idx]
theorem Ph {α:Type} {xs:List α} {i:Int} (h0:0<=i) (h:i < xs.length):∃ x,idx xs i=some x/\x∈xs:=by
 have h1:i.toNat < xs.length:=by omega
 exact ⟨xs[i.toNat],by simp [idx,h0,h1],GN h1⟩
end Go.Pn
namespace Go.Pn
open Go
theorem Am {i:Nat} (h:i < 4611686018427387904):wr ((i:Int) + 1)=((i + 1:Nat):Int):=by
 rw [Ao om_ om_];rfl
theorem Ak {i n:Nat}:decide ((i:Int) < (n:Int))=decide (i < n):=by
 simp
def FF:Nat:=100000
def bad (n:Nat) (k:Int):Bool:=decide (k < 0) || decide (k>=(n:Int))
end Go.Pn
namespace Go.Pn
theorem lT {i n : Nat} {α : Type} {a b : α} (h : i < n) : (bif decide ((i : Int) < (n : Int)) then a else b) = a := by rw [Ak, decide_eq_true h]; rfl
theorem lF {i n : Nat} {α : Type} {a b : α} (h : ¬ i < n) : (bif decide ((i : Int) < (n : Int)) then a else b) = b := by rw [Ak, decide_eq_false h]; rfl
theorem iX {α β : Type} {xs : List α} {i : Nat} {f : α → Option β} (h : i < xs.length) : (idx xs (i : Int)).bind f = f xs[i] := by rw [Aj, HC h]; rfl
theorem uF {p : Prop} (h : p := by unfold FF; omega) : p := h
end Go.Pn
namespace Go.Pn
open Go
theorem Hz {κ β:Type} {eqb:κ->κ->Bool} {k:κ}:∀ {m:List (κ×β)} {i:Nat},Dj eqb k m (i + 1)=(Dj eqb k m i).map λq=>(q.1 + 1,q.2)
 | [],_=>rfl
 | (k',y) :: m,i=>by
  unfold Dj;split
  ·rfl
  ·exact Hz
theorem Lj {κ ν:Type} {eqb:κ->κ->Bool} {m:List (κ×ν)} {k k':κ} {y:ν}:mat eqb ((k',y) :: m) k=if eqb k k' then some y else mat eqb m k:=by
 unfold mat
 rw [Dj];split
 ·rfl
 ·rw [Hz,Option.map_map];rfl
theorem AH {κ ν:Type} {eqb:κ->κ->Bool} {m:List (κ×ν)} {k k':κ} {y z:ν}:DJ eqb ((k',z) :: m) k y=if eqb k k' then (k',y) :: m else (k',z) :: DJ eqb m k y:=by
 unfold DJ;rw [Dj];by_cases h:eqb k k'=true
 ·rw [if_pos h,if_pos h];rfl
 ·rw [if_neg h,if_neg h,Hz];cases Dj eqb k m 0 with
  | none=>rfl
  | some q=>rfl
end Go.Pn
namespace Go.Pn
open Go
theorem Up {α:Type} {p:α->Bool} {x:α} {l:List α}:(x :: l).findIdx? p=if p x then some 0 else (l.findIdx? p).map (· + 1):=by
 rw [List.findIdx?_cons]
end Go.Pn
namespace Go.Pn
open Go
theorem DG {α β:Type} {L:Nat->Int->Option (Lo Int β)} {xs:List α} {p:Int->α->Option Bool} {q:α->Bool} {r:Int->β}
  (h:∀ n z,L (n + 1) z=(bif decide (z < (xs.length:Int)) then (idx xs z).bind λx=>(p z x).bind λb=>bif b then some (.ret (r z)) else L n (wr (z + 1)) else some (.brk z)))
  (hl:xs.length < 4611686018427387904) (hq:∀ (i:Nat) x,xs[i]?=some x->p i x=some (q x)) :
  ∀ (n i:Nat),i<=xs.length->xs.length - i < n->L n i=match (xs.drop i).findIdx? q with
   | some j=>some (.ret (r ((i + j:Nat):Int)))
   | none=>some (.brk (xs.length:Int))
 | 0,i,_,h=>by omega
 | n + 1,i,h1,h2=>by
  rw [h];by_cases hi:i < xs.length
  ·have hx:xs[i]?=some xs[i]:=gE_ hi;rw [Ak,dt_ hi,ct_,Aj,hx,ob_,hq i _ hx,ob_,HK hi,Up];cases q xs[i] with
   | true=>rfl
   | false=>
    rw [cf_,Am om_,DG h hl hq n (i + 1) om_ om_,if_neg As];cases (xs.drop (i + 1)).findIdx? q with
    | none=>rfl
    | some j=>
     show some (Lo.ret (r ((i + 1 + j:Nat):Int)))=some (Lo.ret (r ((i + (j + 1):Nat):Int)));rw [show i + 1 + j=i + (j + 1) by omega]
  ·rw [Ak,df_ hi,cf_,G6 om_];have:i=xs.length:=by omega
   subst this;rfl
theorem eqls {α:Type} [BEq α] [LawfulBEq α] {L:Nat->Int->Option (Lo Int Bool)} {xs ys:List α}
  (h:∀ n z,L (n + 1) z=(bif decide (z < (xs.length:Int)) then (idx xs z).bind λx=>(idx ys z).bind λy=>bif x != y then some (.ret false) else L n (wr (z + 1)) else some (.brk z)))
  (hl:xs.length < 4611686018427387904) (he:xs.length=ys.length) :
  ∀ (n i:Nat),i<=xs.length->xs.length - i < n->L n i=if xs.drop i == ys.drop i then some (.brk (xs.length:Int)) else some (.ret false)
 | 0,i,_,h=>by omega
 | n + 1,i,h1,h2=>by
  rw [h];by_cases hi:i < xs.length
  ·have hi2:i < ys.length:=by omega
   rw [Ak,dt_ hi,ct_,Aj,gE_ hi,ob_,Aj,gE_ hi2,ob_,HK hi,HK hi2];by_cases hx:xs[i]=ys[i]
   ·rw [show (xs[i] != ys[i])=false by simp [hx],cf_,Am om_,eqls h hl he n (i + 1) om_ om_];rw [List.cons_beq_cons,show (xs[i] == ys[i])=true by simpa using hx,H0]
   ·rw [show (xs[i] != ys[i])=true by simp [hx],ct_];simp [hx]
  ·rw [Ak,df_ hi,cf_,G6 om_,G6 om_];have:i=xs.length:=by omega
   subst this;simp
theorem eqls0 {α:Type} [BEq α] [LawfulBEq α] {L:Nat->Int->Option (Lo Int Bool)} {xs ys:List α} {f:Nat}
  (h:∀ n z,L (n + 1) z=(bif decide (z < (xs.length:Int)) then (idx xs z).bind λx=>(idx ys z).bind λy=>bif x != y then some (.ret false) else L n (wr (z + 1)) else some (.brk z)))
  (hl:xs.length < 4611686018427387904) (hf:xs.length < f) :
  (bif ((xs.length:Int) != (ys.length:Int)) then some false else ((L f (0:Int)).bind λo2=>match o2 with | .brk o2s=>some true | .ret r=>some r))=some (xs == ys):=by
 by_cases he:xs.length=ys.length
 ·rw [show ((xs.length:Int) != (ys.length:Int))=false by simp [he],cf_];have:=eqls h hl he f 0 om_ om_;have h0:((0:Nat):Int)=0:=rfl;rw [h0,HT,HT] at this;rw [this];cases xs == ys <;> rfl
 ·rw [show ((xs.length:Int) != (ys.length:Int))=true by simp;omega,ct_];have:xs≠ys:=λe=>he (by rw [e]);rw [show (xs == ys)=false by simpa using this]
theorem Wu {f:Nat} {xs ys:LH} (hl:xs.length < 4611686018427387904) (hf:xs.length < f):m49 f xs ys=some (xs == ys):=by
 unfold m49;exact eqls0 (L:=Mi xs ys) (λ_ _=>rfl) hl hf
theorem Ng {f:Nat} {xs ys:LJ} (hl:xs.length < 4611686018427387904) (hf:xs.length < f):NM f xs ys=some (xs == ys):=by
 unfold NM;exact eqls0 (L:=Qw xs ys) (λ_ _=>rfl) hl hf
def sst (a b:Ad):Bool:=(a.Ends == b.Ends) && (a.Valves == b.Valves) && (a.Inputs == b.Inputs) && (a.Values == b.Values) && (a.Timers == b.Timers)
theorem Lx {a b:Ad}:sst a b=true↔a=b:=by
 cases a;cases b
 simp [sst,and_assoc]
theorem Gp (a:Ad):sst a a=true:=Lx.2 rfl
structure Smst (s:Ad) (n:Nat):Prop where
 e:s.Ends.length<=n
 v:s.Valves.length<=n
 i:s.Inputs.length<=n
 x:s.Values.length<=n
 t:s.Timers.length<=n
theorem Nd {f n:Nat} {a b:Ad} (h:Smst a n) (hn:n < f) (hn2:n < 4611686018427387904):NN f a b=some (sst a b):=by
 obtain ⟨h1,h2,h3,h4,h5⟩:=h;unfold NN sst;rw [Wu om_ om_,Ng om_ om_,Ng om_ om_,Ng om_ om_,Wu om_ om_];cases a.Ends == b.Ends <;> cases a.Valves == b.Valves <;> cases a.Inputs == b.Inputs <;> cases a.Values == b.Values <;> cases a.Timers == b.Timers <;> rfl
theorem Nu:∀ {a b:LH},a.Pairwise (· < ·)->b.Pairwise (· < ·)->(∀ k,k∈a↔k∈b)->a=b
 | [],[],_,_,_=>rfl
 | [],y :: b,_,_,h=>absurd ((h y).2 As) As
 | x :: a,[],_,_,h=>absurd ((h x).1 As) As
 | x :: a,y :: b,ha,hb,h=>by
  obtain ⟨ha1,ha2⟩:=JQ.1 ha;obtain ⟨hb1,hb2⟩:=JQ.1 hb;have hxy:x=y:=by
   rcases GR.1 ((h x).1 As) with e | e
   ·exact e
   ·rcases GR.1 ((h y).2 As) with e2 | e2
    ·exact e2.symm
    ·have:=hb1 x e;have:=ha1 y e2;omega
  subst hxy;rw [Nu ha2 hb2 λk=>⟨λhk=>?_,λhk=>?_⟩]
  ·rcases GR.1 ((h k).1 (by simp [hk])) with e | e
   ·subst e;have:=ha1 k hk;omega
   ·exact e
  ·rcases GR.1 ((h k).2 (by simp [hk])) with e | e
   ·subst e;have:=hb1 k hk;omega
   ·exact e
end Go.Pn
namespace Go.Pn
open Go
theorem cs_ {α:Type} {c:Bool} {a b:α}:(bif c then some a else some b)=some (bif c then a else b):=by cases c <;> rfl
theorem n0:((0:Nat):Int)=0:=rfl
def szd:Nat->Expr->Nat
 | 0,_=>0
 | d + 1,x=>1 + (x.Args.map (szd d)).sum
def Szb (x:Expr) (n:Nat):Prop:=∀ d,szd d x<=n
def dp:Nat->Expr->Prop
 | 0,_=>False
 | d + 1,x=>x.Args.length<=256/\∀ y∈x.Args,dp d y
theorem FM:∀ {l:LK} {n:Nat},n∈l->n<=l.sum
 | a :: l,n,h=>by
  rw [List.sum_cons];rcases GR.1 h with rfl | h
  ·omega
  ·have:=FM h;omega
theorem Szb.arg {x y:Expr} {n:Nat} (h:Szb x n) (hy:y∈x.Args):Szb y n:=λd=>by
 have h1:=h (d + 1);have h2:=FM (GQ.2 ⟨y,hy,rfl⟩:szd d y∈x.Args.map (szd d));unfold szd at h1;omega
theorem Wh:∀ {l:List Expr},l.length<=(l.map (szd 1)).sum
 | []=>by simp
 | x :: l=>by
  have:=Wh (l:=l);have h1:1<=szd 1 x:=by unfold szd;omega
  simp only [GS,List.sum_cons,HS];omega
theorem DN {d:Nat} {x:Expr}:szd (d + 1) x=1 + (x.Args.map (szd d)).sum:=rfl
theorem Szb.len {x:Expr} {n:Nat} (h:Szb x n):x.Args.length < n:=by
 have h1:=h 2;rw [DN] at h1;have:=Wh (l:=x.Args);omega
theorem Wg {l:LK} {i:Nat} (h:i < l.length):(l.take (i + 1)).sum=(l.take i).sum + l[i]:=by
 rw [J0,gE_ h,List.sum_append];simp
theorem BF:∀ (k f:Nat) (x:Expr),k<=256->k + 300<=f->∃ r:Nat,Q2 f x k=some (r:Int)/\1<=r/\r<=k + 1/\(r<=k->Szb x r):=by
 intro k
 induction k using Nat.strongRecOn with
 | ind k ih=>
  intro f x hk hf;obtain ⟨f,rfl⟩:∃ f',f=f' + 1:=⟨f - 1,by omega⟩;have loop:∀ (n i z:Nat),i<=x.Args.length->i + 1<=z->z<=k + 1->k + 1 - z < n->(z<=k->∀ d,1 + ((x.Args.map (szd d)).take i).sum<=z) ->
    ∃ r e:Nat,Cr (Q2 f) x k n ((z:Int),(i:Int))=some ((r:Int),(e:Int))/\1<=r/\r<=k + 1/\(r<=k->Szb x r):=by
   intro n
   induction n with
   | zero=>intro i z _ _ _ h;omega
   | succ n ihn=>
    intro i z hi hz1 hz2 hn hs;unfold Cr;dsimp only;rw [Ak];have hle:decide ((z:Int)<=(k:Int))=decide (z<=k):=by simp
    rw [hle];by_cases h1:i < x.Args.length
    ·by_cases h2:z<=k
     ·rw [dt_ h1,dt_ h2,JK,ct_,Aj,gE_ h1,ob_,Ao om_ om_];obtain ⟨r,hr,hr1,hr2,hr3⟩:=ih (k - z) om_ f x.Args[i] om_ om_;rw [show (k:Int) - (z:Int)=((k - z:Nat):Int) by omega,hr,ob_,Ao om_ om_,show wr ((i:Int) + 1)=((i + 1:Nat):Int) from Am om_];rw [show (z:Int) + (r:Int)=((z + r:Nat):Int) by omega];refine ihn (i + 1) (z + r) om_ om_ om_ om_ λhle d=>?_;rw [Wg (by simpa using h1)];have h5:=hs h2 d;have h6:=hr3 om_ d;simp only [K2];omega
     ·rw [df_ h2,JW,cf_];exact ⟨z,i,rfl,by omega,hz2,λh=>absurd h h2⟩
    ·rw [df_ h1,KS,cf_];refine ⟨z,i,rfl,by omega,hz2,λh d=>?_⟩;cases d with
     | zero=>unfold szd;omega
     | succ d=>
      have:=hs h d;rw [JX so_] at this;unfold szd;omega
  unfold Q2;obtain ⟨r,e,h1,h2⟩:=loop f 0 1 om_ om_ om_ om_ (λ_ d=>by simp);have e1:((1:Nat):Int)=1:=rfl;rw [n0,e1] at h1;rw [h1];exact ⟨r,rfl,h2⟩
theorem Tq:∀ (k f:Nat) (x:Expr),Szb x 256->k<=256->k + 300<=f->∃ b,Q3 f x k=some b/\(b=true->dp k x)
 | 0,f,x,_,_,hf=>by
  obtain ⟨f,rfl⟩:∃ f',f=f' + 1:=⟨f - 1,by omega⟩;exact ⟨false,rfl,by simp⟩
 | k + 1,f,x,hs,hk,hf=>by
  obtain ⟨f,rfl⟩:∃ f',f=f' + 1:=⟨f - 1,by omega⟩;have hl:=hs.len;unfold Q3;rw [show decide (((k + 1:Nat):Int) < 1)=false by simp;omega,cf_];by_cases h1:k=0
  ·subst h1;rw [show ((((0 + 1:Nat):Int)) == 1)=true by simp,ct_];refine ⟨_,rfl,λh=>⟨by omega,λy hy=>?_⟩⟩;have:x.Args.length=0:=by simpa using h
   rw [JL this] at hy;simp at hy
  ·rw [show ((((k + 1:Nat):Int)) == 1)=false by simp;omega,cf_];have loop:∀ (n i:Nat),i<=x.Args.length->x.Args.length - i < n ->
     Cd (Q3 f) x ((k + 1:Nat):Int) n (i:Int)=some (.ret false)\/((∃ e,Cd (Q3 f) x ((k + 1:Nat):Int) n (i:Int)=some (.brk e))/\∀ y∈x.Args.drop i,dp k y):=by
    intro n
    induction n with
    | zero=>intro i _ h;omega
    | succ n ihn=>
     intro i hi hn;unfold Cd;by_cases h2:i < x.Args.length
     ·rw [Ak,dt_ h2,ct_,Aj,gE_ h2,ob_,Ao om_ om_,show ((k + 1:Nat):Int) - 1=(k:Int) by omega];obtain ⟨b,hb,hb2⟩:=Tq k f x.Args[i] (hs.arg (GN h2)) om_ om_;rw [hb,ob_];cases b with
      | false=>exact .inl rfl
      | true=>
       rw [nt_,cf_,Am om_];rcases ihn (i + 1) om_ om_ with h | ⟨h,h3⟩
       ·exact .inl h
       ·refine .inr ⟨h,?_⟩;rw [HK h2];exact λy hy=>(GR.1 hy).elim (λe=>e ▸ hb2 rfl) (h3 y)
     ·rw [Ak,df_ h2,cf_];refine .inr ⟨⟨_,rfl⟩,?_⟩;rw [G6 om_];simp
   have h0:((0:Nat):Int)=0:=rfl;rcases loop f 0 om_ om_ with h | ⟨⟨e,h⟩,h3⟩
   ·rw [h0] at h;rw [h];exact ⟨false,rfl,by simp⟩
   ·rw [h0] at h;rw [h];exact ⟨true,rfl,λ_=>⟨by omega,by simpa using h3⟩⟩
structure Lt_ (x:Expr):Prop where
 sz:Szb x 256
 dp:dp 16 x
theorem B3 {f:Nat} (hf:600<=f) (x:Expr):∃ b,Q4 f x=some b/\(b=true->Lt_ x):=by
 unfold Q4;obtain ⟨r,hr,hr1,hr2,hr3⟩:=BF 256 f x om_ om_;rw [show (256:Int)=((256:Nat):Int) from rfl,hr,ob_];by_cases h:r<=256
 ·rw [show decide ((r:Int)<=((256:Nat):Int))=true by simpa using (by omega:(r:Int)<=256),ct_];have hs:Szb x 256:=λd=>HA (hr3 h d) h;obtain ⟨b,hb,hb2⟩:=Tq 16 f x hs om_ om_;rw [show (16:Int)=((16:Nat):Int) from rfl,hb];exact ⟨b,rfl,λh=>⟨hs,hb2 h⟩⟩
 ·rw [show decide ((r:Int)<=((256:Nat):Int))=false by simpa using (by omega:¬ (r:Int)<=256),cf_];exact ⟨false,rfl,by simp⟩
def nod (n:Int) (v0:Expr):Int:=bif ((decide ((v0).Op < 0)) || (decide ((v0).Op>=(5:Int)))) then (1:Int) else (bif ((((decide ((v0).Op<=(1:Int))) && ((((v0).Args).length:Int) != 0)) || (((v0).Op == 2) && ((((v0).Args).length:Int) != 1))) || ((decide ((v0).Op>=(3:Int))) && (decide ((((v0).Args).length:Int) < 2)))) then (3:Int) else (bif ((decide ((v0).Index < 0)) || (decide ((v0).Index>=(bif ((v0).Op == 1) then n else bif ((v0).Op == 0) then (2:Int) else (1:Int))))) then (2:Int) else (0:Int)))
theorem AW (f:Nat) (x:Expr) (n:Int):Q5 f x n=some (nod n x):=by
 unfold Q5 nod;simp only [cs_,ob_]
theorem Lh {n:Int} {x:Expr} (h:nod n x=0):0<=x.Op/\x.Op < 5/\(x.Op<=1->x.Args=[])/\(x.Op=2->x.Args.length=1)/\(3<=x.Op->2<=x.Args.length)/\0<=x.Index/\(x.Op=1->x.Index < n):=by
 unfold nod at h;cases h1:((decide ((x).Op < 0)) || (decide ((x).Op>=(5:Int)))) with
 | true=>rw [h1] at h;cases h
 | false=>
  rw [h1,cf_] at h;cases h2:((((decide ((x).Op<=(1:Int))) && ((((x).Args).length:Int) != 0)) || (((x).Op == 2) && ((((x).Args).length:Int) != 1))) || ((decide ((x).Op>=(3:Int))) && (decide ((((x).Args).length:Int) < 2)))) with
  | true=>rw [h2] at h;cases h
  | false=>
   rw [h2,cf_] at h;cases h3:((decide ((x).Index < 0)) || (decide ((x).Index>=(bif ((x).Op == 1) then n else bif ((x).Op == 0) then (2:Int) else (1:Int))))) with
   | true=>rw [h3] at h;cases h
   | false=>
    simp only [H6,JS,decide_eq_false_iff_not,bne_eq_false_iff_eq,beq_eq_false_iff_ne,ne_eq] at h1 h2 h3;obtain ⟨h1a,h1b⟩:=h1;obtain ⟨⟨h2a,h2b⟩,h2c⟩:=h2;obtain ⟨h3a,h3b⟩:=h3;refine ⟨by omega,by omega,λh=>?_,λh=>?_,λh=>?_,by omega,λh=>?_⟩
    ·refine JL ?_;rcases h2a with h4 | h4 <;> omega
    ·rcases h2b with h4 | h4 <;> omega
    ·rcases h2c with h4 | h4 <;> omega
    ·rw [h] at h3b;simp at h3b;omega
def fnz:LH->Int
 | []=>0
 | a :: l=>if a=0 then fnz l else a
theorem Xj:∀ {l:LH},fnz l=0->∀ a∈l,a=0
 | a :: l,h,b,hb=>by
  unfold fnz at h;split at h
  ·rename_i h0;rcases GR.1 hb with rfl | hb
   ·exact h0
   ·exact Xj h b hb
  ·contradiction
def chE:Nat->Int->Expr->Int
 | 0,_,_=>0
 | d + 1,n,x=>if nod n x=0 then fnz (x.Args.map (chE d n)) else nod n x
def okE:Nat->Int->Expr->Prop
 | 0,_,_=>False
 | d + 1,n,x=>nod n x=0/\x.Args.length<=256/\∀ y∈x.Args,okE d n y
theorem okE.of:∀ {d:Nat} {n:Int} {x:Expr},dp d x->chE d n x=0->okE d n x
 | 0,_,_,h,_=>h
 | d + 1,n,x,h,hc=>by
  unfold chE at hc;split at hc
  ·rename_i h0;refine ⟨h0,h.1,λy hy=>okE.of (h.2 y hy) (Xj hc _ (GQ.2 ⟨y,hy,rfl⟩))⟩
  ·contradiction
theorem fnzl {α:Type} {L:Nat->Int->Option (Lo Int Int)} {xs:List α} {p:Int->α->Option Int} {q:α->Int}
  (h:∀ n z,L (n + 1) z=(bif decide (z < (xs.length:Int)) then (idx xs z).bind λx=>(p z x).bind λb=>bif b != 0 then some (.ret b) else L n (wr (z + 1)) else some (.brk z)))
  (hl:xs.length < 4611686018427387904) (hq:∀ (i:Nat) x,xs[i]?=some x->p i x=some (q x)) :
  ∀ (n i:Nat),i<=xs.length->xs.length - i < n->L n i=if fnz ((xs.drop i).map q)=0 then some (.brk (xs.length:Int)) else some (.ret (fnz ((xs.drop i).map q)))
 | 0,i,_,h=>by omega
 | n + 1,i,h1,h2=>by
  rw [h];by_cases hi:i < xs.length
  ·have hx:xs[i]?=some xs[i]:=gE_ hi;rw [Ak,dt_ hi,ct_,Aj,hx,ob_,hq i _ hx,ob_,HK hi,GS];unfold fnz;by_cases h0:q xs[i]=0
   ·rw [h0,if_pos rfl,zf_,cf_,Am om_,fnzl h hl hq n (i + 1) om_ om_]
   ·rw [if_neg h0,show (q xs[i] != 0)=true by simpa using h0,ct_,if_neg h0]
  ·rw [Ak,df_ hi,cf_,G6 om_];have:i=xs.length:=by omega
   subst this;rfl
theorem fnzl0 {α:Type} {L:Nat->Int->Option (Lo Int Int)} {xs:List α} {p:Int->α->Option Int} {q:α->Int} {f:Nat}
  (h:∀ n z,L (n + 1) z=(bif decide (z < (xs.length:Int)) then (idx xs z).bind λx=>(p z x).bind λb=>bif b != 0 then some (.ret b) else L n (wr (z + 1)) else some (.brk z)))
  (hl:xs.length < 4611686018427387904) (hf:xs.length < f) (hq:∀ (i:Nat) x,xs[i]?=some x->p i x=some (q x)) :
  L f (0:Int)=if fnz (xs.map q)=0 then some (.brk (xs.length:Int)) else some (.ret (fnz (xs.map q))):=by
 have:=fnzl h hl hq f 0 om_ om_;rw [n0,HT] at this;exact this
theorem Tn:∀ (d f:Nat) (n:Int) (x:Expr),dp d x->d + 300<=f->Q6 f x n=some (chE d n x)
 | 0,_,_,_,h,_=>h.elim
 | d + 1,f,n,x,h,hf=>by
  obtain ⟨f,rfl⟩:∃ f',f=f' + 1:=⟨f - 1,by omega⟩;unfold Q6 chE;rw [AW,ob_];by_cases h0:nod n x=0
  ·rw [h0,if_pos rfl,zf_,cf_];have hl:=h.1;rw [fnzl0 (L:=Qq (Q6 f) x n) (xs:=x.Args) (p:=λ_ y=>Q6 f y n) (q:=chE d n) (λ_ _=>rfl) om_ om_ (λi y hy=>Tn d f n y (h.2 y (GX hy)) om_)];split
   ·rename_i h1;rw [h1];rfl
   ·rfl
  ·rw [if_neg h0,show (nod n x != 0)=true by simpa using h0,ct_]
theorem Tx {f:Nat} {n:Int} {x:Expr} (hx:Lt_ x) (hm:Q4 f x=some true) (hn:0<=n) (hn2:n<=256) (hf:600<=f):Q7 f x n=some (chE 16 n x):=by
 unfold Q7;rw [df_ om_,df_ om_,JF,cf_,hm,ob_,nt_,cf_,Tn 16 f n x hx.dp om_,ob_]
theorem AN {f:Nat} {n:Int} {x:Expr} (hn:0<=n) (hn2:n<=256) (hl:x.Args.length<=256):L4 f x n=some (nod n x):=by
 unfold L4 nod;by_cases h1:x.Op < 0\/5<=x.Op
 ·have:((decide ((x).Op < 0)) || (decide ((x).Op>=(5:Int))))=true:=by simpa using h1
  rw [this];rfl
 ·have:((decide ((x).Op < 0)) || (decide ((x).Op>=(5:Int))))=false:=by simp;omega
  rw [this,cf_,cf_];unfold L2 L0;simp only [ob_,cs_];rw [Ao om_ om_];have hl1:∀ b:Bool,(bif decide (0 < x.Args.length) then (3:Int) else bif b then 2 else 0)=(bif (x.Args.length:Int) != 0 then 3 else bif b then 2 else 0):=λb=>by
   have:decide (0 < x.Args.length)=((x.Args.length:Int) != 0):=by
    rcases J9 x.Args.length with h | h
    ·rw [h];rfl
    ·rw [dt_ h];symm;rw [bne_iff_ne];omega
   rw [this]
  have key:(x.Index > n - 1)↔(x.Index>=n):=by omega
  have k1:(x.Index > 1)↔(x.Index>=2):=by omega
  have k0:(x.Index > 0)↔(x.Index>=1):=by omega
  have hop:x.Op=0\/x.Op=1\/x.Op=2\/x.Op=3\/x.Op=4:=by omega
  have e0:decide ((x.Args.length:Int) < 0)=false:=by simp
  have e1:decide ((x.Args.length:Int) > 256)=false:=by simp;omega
  have e3:(decide ((x.Args.length:Int) < 1) || decide ((x.Args.length:Int) > 1))=((x.Args.length:Int) != 1):=by
   rw [G0];simp;omega
  rcases hop with h | h | h | h | h <;> rw [h]
  ·simp only [show idx (List.range 5) 0=some 0 by rfl,ob_];simp [e0,k1];exact hl1 _
  ·simp only [show idx (List.range 5) 1=some 1 by rfl,ob_];simp [e0,key];exact hl1 _
  ·simp only [show idx (List.range 5) 2=some 2 by rfl,ob_];simp [e3,k0]
  ·simp only [show idx (List.range 5) 3=some 3 by rfl,ob_];simp [e1,k0]
  ·simp only [show idx (List.range 5) 4=some 4 by rfl,ob_];simp [e1,k0]
theorem Oy:∀ (d f:Nat) (x:Expr) (k:Int) (cnt:Nat) (mx:Int),dp d x->1<=k->k + d<=17->cnt + szd d x<=256->d + 300<=f ->
  ∃ mx',LW Dn f x k (((cnt:Int),mx),0)=some (true,((((cnt + szd d x:Nat):Int),mx'),0))
 | 0,_,_,_,_,_,h,_,_,_,_=>h.elim
 | d + 1,f,x,k,cnt,mx,h,hk,hkd,hc,hf=>by
  obtain ⟨f,rfl⟩:∃ f',f=f' + 1:=⟨f - 1,by omega⟩;have hl:=h.1;have hsz:szd (d + 1) x=1 + (x.Args.map (szd d)).sum:=by rw [szd]
  have hr1:Dn (k,x) (((cnt:Int),mx),0)=some (true,((((cnt + 1:Nat):Int),(if k > mx then k else mx)),0)):=by
   unfold Dn;dsimp only;rw [Am om_,show (decide (((cnt + 1:Nat):Int) > 256) || decide (k > 16))=false by simp;omega,cf_]
  unfold LW;rw [hr1,ob_];dsimp only;rw [nt_,cf_];have loop:∀ (n i:Nat) (mx:Int),i<=x.Args.length->x.Args.length - i < n ->
    ∃ e mx',Eb (LW Dn f) x k n ((i:Int),(((cnt + 1 + ((x.Args.map (szd d)).take i).sum:Nat):Int),mx),0)=some (.brk (e,((((cnt + szd (d + 1) x:Nat):Int),mx'),0))):=by
   intro n
   induction n with
   | zero=>intro i _ _ h;omega
   | succ n ihn=>
    intro i mx hi hn;unfold Eb;dsimp only;by_cases h2:i < x.Args.length
    ·rw [Ak,dt_ h2,ct_,Aj,gE_ h2,ob_,show decide (k<=16)=true by simp;omega,ct_,Ao om_ om_];have hst:=Wg (l:=x.Args.map (szd d)) (i:=i) (by simpa using h2);have hle:((x.Args.map (szd d)).take (i + 1)).sum<=(x.Args.map (szd d)).sum:=by
      conv=>rhs;rw [← KG (i + 1) (x.Args.map (szd d))]
      rw [List.sum_append];omega
     simp only [K2] at hst;obtain ⟨mx',h3⟩:=Oy d f x.Args[i] (k + 1) (cnt + 1 + ((x.Args.map (szd d)).take i).sum) mx (h.2 _ (GN h2)) om_ om_ om_ om_;rw [h3,ob_,ct_];dsimp only;rw [nt_,cf_,Am om_,show cnt + 1 + ((x.Args.map (szd d)).take i).sum + szd d x.Args[i]=cnt + 1 + ((x.Args.map (szd d)).take (i + 1)).sum by omega];exact ihn (i + 1) mx' om_ om_
    ·rw [Ak,df_ h2,cf_];rw [JX so_];exact ⟨_,mx,by rw [show cnt + 1 + (x.Args.map (szd d)).sum=cnt + szd (d + 1) x by omega]⟩
  obtain ⟨e,mx',h3⟩:=loop f 0 (if k > mx then k else mx) om_ om_
  rw [n0,KE,List.sum_nil,J5] at h3;rw [h3];exact ⟨mx',rfl⟩
theorem AP {f:Nat} {x:Expr} (hx:Lt_ x) (hf:600<=f):∃ a b,LZ f x=some (a,b,true):=by
 unfold LZ LU LX;have h1:=hx.sz 16;obtain ⟨mx,h⟩:=Oy 16 f x 1 0 0 hx.dp om_ om_ om_ om_;rw [n0] at h;rw [ob_,h];exact ⟨_,_,rfl⟩
theorem Ox {F:Nat} {m:Int} (hm:0<=m) (hm2:m<=256):∀ (d f:Nat) (x:Expr) (k z:Int),dp d x->1<=k->k + d<=17->d + 300<=f ->
  LW (Do F m) f x k (z,0)=some (if chE d m x=0 then (true,(z,0)) else (false,(chE d m x,1)))
 | 0,_,_,_,_,h,_,_,_=>h.elim
 | d + 1,f,x,k,z,h,hk,hkd,hf=>by
  obtain ⟨f,rfl⟩:∃ f',f=f' + 1:=⟨f - 1,by omega⟩;have hl:=h.1;have hr1:Do F m (k,x) (z,0)=some (if nod m x=0 then (true,(z,0)) else (false,(nod m x,1))):=by
   unfold Do;dsimp only;rw [AN hm hm2 hl,ob_];by_cases h0:nod m x=0
   ·rw [h0,if_pos rfl];rfl
   ·rw [if_neg h0,show (nod m x != 0)=true by simpa using h0,ct_]
  unfold LW chE;rw [hr1,ob_];by_cases h0:nod m x=0
  ·rw [if_pos h0,if_pos h0];dsimp only;rw [nt_,cf_];have loop:∀ (n i:Nat),i<=x.Args.length->x.Args.length - i < n ->
     Eb (LW (Do F m) f) x k n ((i:Int),(z,0))=if fnz ((x.Args.drop i).map (chE d m))=0 then some (.brk ((x.Args.length:Int),(z,0))) else some (.ret (false,(fnz ((x.Args.drop i).map (chE d m)),1))):=by
    intro n
    induction n with
    | zero=>intro i _ h;omega
    | succ n ihn=>
     intro i hi hn;unfold Eb;dsimp only;by_cases h2:i < x.Args.length
     ·rw [Ak,dt_ h2,ct_,Aj,gE_ h2,ob_,show decide (k<=16)=true by simp;omega,ct_,Ao om_ om_,Ox hm hm2 d f x.Args[i] (k + 1) z (h.2 _ (GN h2)) om_ om_ om_,ob_,ct_,HK h2,GS];unfold fnz;by_cases h3:chE d m x.Args[i]=0
      ·rw [if_pos h3,if_pos h3];dsimp only;rw [nt_,cf_,Am om_];exact ihn (i + 1) om_ om_
      ·rw [if_neg h3,if_neg h3,if_neg h3];rfl
     ·rw [Ak,df_ h2,cf_,G6 om_];have:i=x.Args.length:=by omega
      subst this;rfl
   have h3:=loop f 0 om_ om_;rw [n0,HT] at h3;rw [h3];split <;> rfl
  ·rw [if_neg h0,if_neg h0,if_neg h0];rfl
theorem Mv {f:Nat} {n:Int} {x:Expr} (hx:Lt_ x) (hn:0<=n) (hn2:n<=256) (hf:600<=f):L5 f x n=some (chE 16 n x):=by
 unfold L5;obtain ⟨a,b,h⟩:=AP hx hf;rw [df_ om_,df_ om_,JF,cf_,h,ob_];unfold LU LX;dsimp only;rw [nt_,cf_,ob_,Ox hn hn2 16 f x 1 0 hx.dp om_ om_ om_];by_cases h0:chE 16 n x=0
 ·rw [if_pos h0,h0];rfl
 ·rw [if_neg h0];rfl
def ev:Nat->LJ->Expr->Bool
 | 0,_,_=>false
 | d + 1,ls,x=>if x.Op=0 then x.Index == 1 else if x.Op=1 then (idx ls x.Index).getD false else if x.Op=2 then !(x.Args.any (ev d ls)) else if x.Op=3 then x.Args.all (ev d ls) else x.Args.any (ev d ls)
theorem Gy:∀ (d f:Nat) (ls:LJ) (x:Expr),okE d ls.length x->d + 300<=f->NK f x ls=some (ev d ls x)
 | 0,_,_,_,h,_=>h.elim
 | d + 1,f,ls,x,h,hf=>by
  obtain ⟨f,rfl⟩:∃ f',f=f' + 1:=⟨f - 1,by omega⟩;obtain ⟨hn,hl,ha⟩:=h;obtain ⟨o1,o2,o3,o4,o5,i1,i2⟩:=Lh hn;have hev:∀ y∈x.Args,NK f y ls=some (ev d ls y):=λy hy=>Gy d f ls y (ha y hy) om_;unfold NK ev;by_cases h0:x.Op=0
  ·rw [if_pos h0,show (x.Op == 0)=true by simpa using h0,ct_]
  ·rw [if_neg h0,show (x.Op == 0)=false by simpa using h0,cf_];by_cases h1:x.Op=1
   ·rw [if_pos h1,show (x.Op == 1)=true by simpa using h1,ct_];obtain ⟨b,hb,_⟩:=Ph i1 (i2 h1);rw [hb];rfl
   ·rw [if_neg h1,show (x.Op == 1)=false by simpa using h1,cf_];by_cases h2:x.Op=2
    ·rw [if_pos h2,show (x.Op == 2)=true by simpa using h2,ct_];obtain ⟨y,hy⟩:=List.length_eq_one_iff.1 (o4 h2);rw [hy,show idx [y] 0=some y by rfl,ob_,hev y (by rw [hy];simp)];simp
    ·rw [if_neg h2,show (x.Op == 2)=false by simpa using h2,cf_];by_cases h3:x.Op=3
     ·rw [if_pos h3,show (x.Op == 3)=true by simpa using h3,ct_];unfold NH NG;have h5:=DG (L:=Qn (NK f) f x.Args ls) (xs:=x.Args) (p:=λ_ y=>NF f (NK f) y ls) (q:=λy=>!ev d ls y) (r:=λz=>z) (λ_ _=>rfl) om_ (λi y hy=>by
       unfold NF;rw [hev y (GX hy)];rfl) f 0 om_ om_
      rw [n0,HT] at h5;rw [h5];cases h6:x.Args.findIdx? (λy=>!ev d ls y) with
      | none=>
       rw [H1] at h6;have:x.Args.all (ev d ls)=true:=GG.2 λy hy=>by simpa using h6 y hy
       rw [this];rfl
      | some j=>
       obtain ⟨hj,hj2,_⟩:=HP.1 h6;have:x.Args.all (ev d ls)=false:=List.all_eq_false.2 ⟨_,GN hj,by simpa using hj2⟩;rw [this];simp
     ·rw [if_neg h3,show (x.Op == 3)=false by simpa using h3,cf_];unfold Wy Wx;have h5:=DG (L:=Gx (NK f) f x.Args ls) (xs:=x.Args) (p:=λ_ y=>NJ f (NK f) y ls) (q:=λy=>ev d ls y) (r:=λz=>z) (λ_ _=>rfl) om_ (λi y hy=>by
       unfold NJ;rw [hev y (GX hy)];rfl) f 0 om_ om_
      rw [n0,HT] at h5;rw [h5];cases h6:x.Args.findIdx? (λy=>ev d ls y) with
      | none=>
       rw [H1] at h6;have:x.Args.any (ev d ls)=false:=HE.2 λy hy=>by simpa using h6 y hy
       rw [this];rfl
      | some j=>
       obtain ⟨hj,hj2,_⟩:=HP.1 h6;have:x.Args.any (ev d ls)=true:=GK.2 ⟨_,GN hj,by simpa using hj2⟩;rw [this];simp
theorem Mm {d f:Nat} {ls:LJ} {x:Expr} {g:Expr->LJ->Option Bool} (v:Bool) (hl:x.Args.length<=256) (hf:300<=f) (hev:∀ y∈x.Args,g y ls=some (ev d ls y)) :
  PT f g v x ls=some (x.Args.all λy=>ev d ls y == v):=by
 unfold PT PS;have loop:∀ (n i:Nat),i<=x.Args.length->x.Args.length - i < n ->
   Mt g (Fk g v) x ls n ((i:Int),((),0))=if (x.Args.drop i).all (λy=>ev d ls y == v) then some (.brk ((x.Args.length:Int),((),0))) else some (.ret ((),1)):=by
  intro n
  induction n with
  | zero=>intro i _ h;omega
  | succ n ihn=>
   intro i hi hn;unfold Mt Fk;dsimp only;by_cases h2:i < x.Args.length
   ·rw [Ak,dt_ h2,ct_,Aj,gE_ h2,ob_,hev _ (GN h2),ob_,HK h2,JZ];cases h3:(ev d ls x.Args[i] == v) with
    | true=>
     rw [show (ev d ls x.Args[i] != v)=false by (show (!(ev d ls x.Args[i] == v))=false);rw [h3];rfl,cf_,ob_];dsimp only;rw [nt_,cf_,Am om_,H0];exact ihn (i + 1) om_ om_
    | false=>
     rw [show (ev d ls x.Args[i] != v)=true by (show (!(ev d ls x.Args[i] == v))=true);rw [h3];rfl,ct_,ob_];rfl
   ·rw [Ak,df_ h2,cf_,G6 om_];have:i=x.Args.length:=by omega
    subst this;rfl
 have h3:=loop f 0 om_ om_;rw [n0,HT] at h3;rw [h3];cases x.Args.all (λy=>ev d ls y == v) <;> rfl
theorem Td:∀ (d f:Nat) (ls:LJ) (x:Expr),okE d ls.length x->d + 300<=f->PW f x ls=some (ev d ls x)
 | 0,_,_,_,h,_=>h.elim
 | d + 1,f,ls,x,h,hf=>by
  obtain ⟨f,rfl⟩:∃ f',f=f' + 1:=⟨f - 1,by omega⟩;obtain ⟨hn,hl,ha⟩:=h;obtain ⟨o1,o2,o3,o4,o5,i1,i2⟩:=Lh hn;have hev:∀ y∈x.Args,PW f y ls=some (ev d ls y):=λy hy=>Td d f ls y (ha y hy) om_;unfold PW ev;by_cases h0:x.Op=0
  ·rw [if_pos h0,show (x.Op == 0)=true by simpa using h0,ct_]
  ·rw [if_neg h0,show (x.Op == 0)=false by simpa using h0,cf_];by_cases h1:x.Op=1
   ·rw [if_pos h1,show (x.Op == 1)=true by simpa using h1,ct_];obtain ⟨b,hb,_⟩:=Ph i1 (i2 h1);rw [hb];rfl
   ·rw [if_neg h1,show (x.Op == 1)=false by simpa using h1,cf_];unfold L2 L0;simp only [ob_];have hop:x.Op=2\/x.Op=3\/x.Op=4:=by omega
    rcases hop with h | h | h <;> rw [h]
    ·rw [show idx (List.range 5) 2=some 2 by rfl,ob_,show ((2:Nat) == 2)=true by rfl,ct_,Mm false hl om_ hev,ob_,if_pos rfl];congr 1;rw [G0];simp
    ·rw [show idx (List.range 5) 3=some 3 by rfl,ob_,show ((3:Nat) == 2)=false by rfl,cf_,show ((3:Nat) == 3)=true by rfl,ct_,Mm true hl om_ hev,ob_,if_neg om_,if_pos rfl];congr 1;rw [G0];simp
    ·rw [show idx (List.range 5) 4=some 4 by rfl,ob_,show ((4:Nat) == 2)=false by rfl,cf_,show ((4:Nat) == 3)=false by rfl,cf_,show ((4:Nat) == 4)=true by rfl,ct_];unfold PV L0;rw [ob_,Mm false hl om_ hev,ob_,ob_,if_neg om_,if_neg om_];congr 1;rw [G0];simp
def occ:Nat->Int->Expr->Bool
 | 0,_,_=>false
 | d + 1,k,x=>if x.Op=1 then x.Index == k else x.Args.any (occ d k)
theorem Tl:∀ (d f:Nat) (k:Int) (x:Expr),dp d x->d + 300<=f->Q8 f x k=some (occ d k x)
 | 0,_,_,_,h,_=>h.elim
 | d + 1,f,k,x,h,hf=>by
  obtain ⟨f,rfl⟩:∃ f',f=f' + 1:=⟨f - 1,by omega⟩;have hl:=h.1;unfold Q8 occ;by_cases h1:x.Op=1
  ·rw [if_pos h1,show (x.Op == 1)=true by simpa using h1,ct_]
  ·rw [if_neg h1,show (x.Op == 1)=false by simpa using h1,cf_];have h5:=DG (L:=Qp (Q8 f) x k) (xs:=x.Args) (p:=λ_ y=>Q8 f y k) (q:=λy=>occ d k y) (r:=λ_=>true) (λ_ _=>rfl) om_ (λi y hy=>Tl d f k y (h.2 y (GX hy)) om_) f 0 om_ om_;rw [n0,HT] at h5;rw [h5];cases h6:x.Args.findIdx? (λy=>occ d k y) with
   | none=>
    rw [H1] at h6;have:x.Args.any (occ d k)=false:=HE.2 λy hy=>by simpa using h6 y hy
    rw [this];rfl
   | some j=>
    obtain ⟨hj,hj2,_⟩:=HP.1 h6;have:x.Args.any (occ d k)=true:=GK.2 ⟨_,GN hj,by simpa using hj2⟩;rw [this];rfl
def FZ:Nat->(Int->Bool)->Expr->Bool
 | 0,_,_=>false
 | d + 1,p,x=>if x.Op=1 then p x.Index else x.Args.any (FZ d p)
theorem Rr:∀ {d:Nat} {p:Int->Bool} {x:Expr},FZ d p x=true↔∃ k,p k=true/\occ d k x=true
 | 0,p,x=>by simp [FZ,occ]
 | d + 1,p,x=>by
  unfold FZ occ;by_cases h1:x.Op=1
  ·simp only [if_pos h1,beq_iff_eq];exact ⟨λh=>⟨_,h,rfl⟩,λ⟨k,h,e⟩=>e ▸ h⟩
  ·simp only [if_neg h1,GK];constructor
   ·rintro ⟨y,hy,h⟩;obtain ⟨k,hk,ho⟩:=Rr.1 h;exact ⟨k,hk,y,hy,ho⟩
   ·rintro ⟨k,hk,y,hy,ho⟩;exact ⟨y,hy,Rr.2 ⟨k,hk,ho⟩⟩
theorem FE:∀ {d:Nat} {n k:Int} {x:Expr},okE d n x->occ d k x=true->0<=k/\k < n
 | 0,_,_,_,h,_=>h.elim
 | d + 1,n,k,x,h,ho=>by
  obtain ⟨hn,hl,ha⟩:=h;obtain ⟨o1,o2,o3,o4,o5,i1,i2⟩:=Lh hn;unfold occ at ho;split at ho
  ·rename_i h1;have:x.Index=k:=by simpa using ho
   have:=i2 h1;omega
  ·obtain ⟨y,hy,h⟩:=GK.1 ho;exact FE (ha y hy) h
end Go.Pn
namespace Go.Pn
open Go
theorem Cq {β:Type} {L:Nat->Int->Option (Lo Int β)} {N:Nat} {Q:Nat->Bool} {r:Int->β}
  (h:∀ (n i:Nat),i < N->L (n + 1) (i:Int)=bif Q i then some (.ret (r (i:Int))) else L n ((i + 1:Nat):Int)) (h':∀ (n:Nat),L (n + 1) (N:Int)=some (.brk (N:Int))) :
  ∀ (n i:Nat),i<=N->N - i < n->(∃ k,i<=k/\k < N/\Q k=true/\L n (i:Int)=some (.ret (r (k:Int))))\/(L n (i:Int)=some (.brk (N:Int))/\∀ k,i<=k->k < N->Q k=false)
 | 0,i,_,h=>by omega
 | n + 1,i,h1,h2=>by
  by_cases hi:i < N
  ·rw [h n i hi];cases hq:Q i with
   | true=>exact .inl ⟨i,GT _,hi,hq,rfl⟩
   | false=>
    rw [cf_];rcases Cq h h' n (i + 1) om_ om_ with ⟨k,h3,h4,h5,h6⟩ | ⟨h3,h4⟩
    ·exact .inl ⟨k,by omega,h4,h5,h6⟩
    ·refine .inr ⟨h3,λk hk hk2=>?_⟩;rcases G8 hk with rfl | h5
     ·exact hq
     ·exact h4 k h5 hk2
  ·obtain rfl:i=N:=by omega
   exact .inr ⟨h' n,λk hk hk2=>by omega⟩
def Se (b:UInt8):Bool:=decide (97<=b.toNat) && decide (b.toNat<=122)
def EQ (b:UInt8):Bool:=decide (65<=b.toNat) && decide (b.toNat<=90)
def EV (b:UInt8):Bool:=decide (48<=b.toNat) && decide (b.toNat<=57)
def Da (b:UInt8):Bool:=Se b || EQ b || EV b || (b.toNat == 95)
def wd (s:LM):Bool:=match s.data.toList with
 | []=>false
 | b :: l=>Se b && (b :: l).all Da
theorem Cb (s:LM):s.size=s.data.toList.length:=rfl
theorem Wk {s:LM} {i:Nat} (h:i < s.data.toList.length):Nv s (i:Int)=some s.data.toList[i]:=by
 unfold Nv;rw [if_pos om_,HG];have h1:i < s.size:=by rw [Cb];exact h
 rw [getElem?_pos s i h1];congr 1
theorem FS {s:LM} {i:Nat} (h:i < s.data.toList.length):(s.data.toList[i].toNat < 128->Utf8.decode s i=(s.data.toList[i].toNat,1))/\(128<=s.data.toList[i].toNat->128<=(Utf8.decode s i).1):=by
 have hg:s.get! (i + 0)=s.data.toList[i]:=by
  have h1:i < s.data.size:=by simpa using h
  show s.data[i + 0]! = _;rw [J5,getElem!_pos s.data i h1];simp
 constructor
 ·intro hb;unfold Utf8.decode;simp only [hg];rw [if_pos om_]
 ·intro hb;unfold Utf8.decode;simp only [hg];rw [if_neg om_];split
  ·split
   ·rename_i hx;exact hx
   ·decide
  ·split
   ·split
    ·rename_i hx;simp only [GF,decide_eq_true_eq] at hx;exact HA (by decide) hx.1
    ·decide
   ·split
    ·split
     ·rename_i hx;simp only [GF,decide_eq_true_eq] at hx;exact HA (by decide) hx.1
     ·decide
    ·decide
theorem u8n {n:Nat} (hn:n < 256):(UInt8.ofNat n).toNat=n:=by
 rw [UInt8.toNat_ofNat'];omega
theorem AS (f:Nat) (b:UInt8):MA f b=some (Da b):=by
 unfold MA Da Se EQ EV;simp only [u8n (show 97 < 256 by omega),u8n (show 122 < 256 by omega),u8n (show 65 < 256 by omega),u8n (show 90 < 256 by omega),u8n (show 48 < 256 by omega),u8n (show 57 < 256 by omega),u8n (show 95 < 256 by omega)];congr 1;rw [G0];simp;omega
theorem Qf {b:UInt8} (h:Da b=true):b.toNat<=122:=by
 unfold Da Se EQ EV at h;simp at h;omega
theorem AT {f:Nat} {s:LM} {i:Nat} (h:i < s.data.toList.length):MC f (srn s (i:Int))=some (!Da s.data.toList[i]):=by
 obtain ⟨h1,h2⟩:=FS h;unfold MC srn;rw [HG];simp only [Ik.toI];by_cases hb:s.data.toList[i].toNat < 128
 ·rw [h1 hb];dsimp only;by_cases hc:((s.data.toList[i].toNat:Nat):Int) > 122
  ·rw [dt_ hc,ct_];have:Da s.data.toList[i]=false:=by
    cases hp:Da s.data.toList[i] with
    | false=>rfl
    | true=>have:=Qf hp;omega
   rw [this];rfl
  ·rw [df_ hc,cf_];have:(Ik.ofI ((s.data.toList[i].toNat:Nat):Int):UInt8)=s.data.toList[i]:=by
    show wr8 _=_;unfold wr8;refine UInt8.toNat_inj.1 ?_;rw [UInt8.toNat_ofNat'];omega
   rw [this,AS];rfl
 ·have h3:=h2 om_;rw [dt_ so_,ct_];have:Da s.data.toList[i]=false:=by
   cases hp:Da s.data.toList[i] with
   | false=>rfl
   | true=>have:=Qf hp;omega
  rw [this];rfl
theorem Px {α:Type} {l:List α} {p:α->Bool}:l.any p=true↔∃ i,∃ h:i < l.length,p l[i]=true:=by
 rw [GK];constructor
 ·rintro ⟨x,hx,h⟩;obtain ⟨i,hi,rfl⟩:=List.getElem_of_mem hx;exact ⟨i,hi,h⟩
 ·rintro ⟨i,hi,h⟩;exact ⟨_,GN hi,h⟩
theorem AU {f:Nat} {s:LM} (hs:s.size < f) (hs2:s.size < 1000000):MH f s=some (s.data.toList.any λb=>!Da b):=by
 rw [Cb] at hs hs2;unfold MH MG MF;have hl:=Cq (L:=Jb f s true) (N:=s.data.toList.length) (Q:=λi=>if h:i < s.data.toList.length then !Da s.data.toList[i] else false) (r:=λz=>z) (λn i hi=>by
  rw [Jb,Cb,Ak,dt_ hi,ct_,AT hi,ob_,dif_pos hi];cases hp:Da s.data.toList[i] with
  | true=>
   rw [show ((!true) == true)=false by rfl,cf_];have:snx s (i:Int)=((i + 1:Nat):Int):=by
    unfold snx;rw [if_pos (by rw [Cb];omega),HG,(FS hi).1 (by have:=Qf hp;omega)];rfl
   rw [this];rfl
  | false=>rfl) (λn=>by
  rw [Jb,Cb,Ak,df_ om_,cf_];unfold snx;rw [if_neg (by rw [Cb];omega)]) f 0 om_ om_
 rw [n0] at hl;rcases hl with ⟨k,_,hk,hq,h⟩ | ⟨h,hn⟩
 ·rw [h];rw [dif_pos hk] at hq;rw [Px.2 ⟨k,hk,hq⟩];simp only [ob_];rw [dt_ om_]
 ·rw [h];have:(s.data.toList.any λb=>!Da b)=false:=by
   rw [Bool.eq_false_iff];intro ha;obtain ⟨i,hi,h2⟩:=Px.1 ha;have:=hn i om_ hi;rw [dif_pos hi,h2] at this;cases this
  rw [this];rfl
theorem BV {f:Nat} {s:LM} (hs:s.size < f) (hs2:s.size < 1000000):Q1 f s=some (wd s):=by
 rw [Cb] at hs hs2;unfold Q1;have hl:=Cq (L:=Jw s) (N:=s.data.toList.length) (Q:=λi=>if h:i < s.data.toList.length then (i == 0 && !Se s.data.toList[i]) || !Da s.data.toList[i] else false) (r:=λ_=>false) (λn i hi=>by
  rw [Jw,Cb,Ak,dt_ hi,ct_];simp only [Wk hi,ob_,cs_,u8n (show 97 < 256 by omega),u8n (show 122 < 256 by omega),u8n (show 65 < 256 by omega),u8n (show 90 < 256 by omega),u8n (show 48 < 256 by omega),u8n (show 57 < 256 by omega),u8n (show 95 < 256 by omega)];rw [dif_pos hi,Am om_];congr 1;rw [G0];unfold Da Se EQ EV;simp;generalize s.data.toList[i].toNat=b;omega) (λn=>by
  rw [Jw,Cb,Ak,df_ om_,cf_]) f 0 om_ om_
 rw [n0] at hl;have hemp:(s.toList == (⟨#[]⟩:LM).toList)=(s.data.toList == []):=by
  rw [ByteArray.toList_eq,ByteArray.toList_eq]
 rcases hl with ⟨k,_,hk,hq,h⟩ | ⟨h,hn⟩
 ·rw [h,ob_];rw [dif_pos hk] at hq;dsimp only;congr 1
  symm
  unfold wd;cases hd:s.data.toList with
  | nil=>rfl
  | cons b l=>
   have hk':k < (b :: l).length:=by rw [← hd];exact hk
   have hg:s.data.toList[k]=(b :: l)[k]:=by simp [hd]
   rw [hg] at hq;dsimp only;rw [JS];rcases Bool.or_eq_true_iff.1 hq with h1 | h1
   ·left;obtain ⟨h2,h3⟩:=Bool.and_eq_true_iff.1 h1;obtain rfl:k=0:=by simpa using h2
    simpa using h3
   ·right;exact List.all_eq_false.2 ⟨_,GN hk',by simpa using h1⟩
 ·rw [h,ob_,hemp];dsimp only;congr 1;unfold wd;cases hd:s.data.toList with
  | nil=>rfl
  | cons b l=>
   have hb:∀ (k:Nat) (hk:k < (b :: l).length),((k == 0 && !Se (b :: l)[k]) || !Da (b :: l)[k])=false:=by
    intro k hk;have hk':k < s.data.toList.length:=by rw [hd];exact hk
    have:=hn k om_ hk';rw [dif_pos hk'] at this;have hg:s.data.toList[k]=(b :: l)[k]:=by simp [hd]
    rw [hg] at this;exact this
   have h1:=hb 0 As;simp at h1;dsimp only;rw [h1.1,H0];have:(b :: l).all Da=true:=by
    rw [GG];intro x hx;obtain ⟨i,hi,rfl⟩:=List.getElem_of_mem hx;have:=hb i hi;rw [H6] at this;simpa using this.2
   rw [this];rfl
def fx (i:Nat):LM:=⟨#[UInt8.ofNat (97 + i / 2),UInt8.ofNat (48 + i % 2)]⟩
def cA (c:Aa):Nat:=c.Actuators.toNat
def cS (c:Aa):Nat:=2 * cA c + c.Inputs.length
def cL (c:Aa):Nat:=cS c + c.Signals.length
def nmF (c:Aa) (i:Nat):LM:=if i < 2 * cA c then fx i else if i < cS c then c.Inputs.getD (i - 2 * cA c) ⟨#[]⟩ else ((c.Signals[i - cS c]?).map (·.Name)).getD ⟨#[]⟩
structure Bd_ (c:Aa):Prop where
 a1:1<=c.Actuators
 a6:c.Actuators<=6
 i:c.Inputs.length<=16
 s:c.Signals.length<=64
theorem Bd_.a {c:Aa} (h:Bd_ c):c.Actuators=(cA c:Int):=by
 have:=h.a1;unfold cA;omega
theorem Bd_.a' {c:Aa} (h:Bd_ c):1<=cA c/\cA c<=6:=by
 have:=h.a1;have:=h.a6;unfold cA;omega
theorem Bd_.wa {c:Aa} (h:Bd_ c):wr ((2:Int) * c.Actuators)=((2 * cA c:Nat):Int):=by
 have:=h.a;have:=h.a';rw [Ao om_ om_];omega
theorem He {f:Nat} {c:Aa} (h:Bd_ c):QX f c=some (cS c:Int):=by
 have:=h.a';have:=h.i;unfold QX;rw [h.wa,Ao om_ om_];unfold cS;congr 1
theorem Ha {f:Nat} {c:Aa} (h:Bd_ c):LQ f c=some (cS c:Int):=He (f:=f) h
theorem Ub {f:Nat} {c:Aa} (h:Bd_ c):RD f c=some (cL c:Int):=by
 have:=h.a';have:=h.i;have:=h.s;unfold RD;have e:wr (((2 * cA c:Nat):Int) + (c.Inputs.length:Int))=((2 * cA c:Nat):Int) + (c.Inputs.length:Int):=Ao om_ om_;rw [h.wa,e,Ao om_ om_];unfold cL cS;congr 1
theorem Nf {f:Nat} {c:Aa} (h:Bd_ c):L7 f c=some (cL c:Int):=by
 have:=h.a';have:=h.i;have:=h.s;unfold L7;rw [Ha h,ob_,Ao (by unfold cS;omega) (by unfold cS;omega)];unfold cL;congr 1
theorem Ya:((List.range 12).all λi=>decide (((ssl (⟨#[97,98,99,100,101,102]⟩:LM) (wr ((i:Int).tdiv (2:Int))) (wr ((wr ((i:Int).tdiv (2:Int))) + 1))).bind λx1=>(ssl (⟨#[48,49]⟩:LM) ((i:Int).tmod (2:Int)) (wr (((i:Int).tmod (2:Int)) + 1))).bind λx2=>(cat x1 x2).bind λx3=>some x3)=some (fx i)))=true:=by kernel_rfl
theorem ref_fx:∀ i:Nat,i < 12->((ssl (⟨#[97,98,99,100,101,102]⟩:LM) (wr ((i:Int).tdiv (2:Int))) (wr ((wr ((i:Int).tdiv (2:Int))) + 1))).bind λx1=>(ssl (⟨#[48,49]⟩:LM) ((i:Int).tmod (2:Int)) (wr (((i:Int).tmod (2:Int)) + 1))).bind λx2=>(cat x1 x2).bind λx3=>some x3)=some (fx i):=λi h=>of_decide_eq_true (GG.1 Ya i (GE.2 h))
theorem Yb:((List.range 12).all λi=>decide (((cat (Ay (Ik.toI (Ik.ofI (Ik.toI (wr ((97:Int) + (wr ((i:Int).tdiv (2:Int)))))):Kd .i32))) (Ay (Ik.toI (Ik.ofI (Ik.toI (wr ((48:Int) + ((i:Int).tmod (2:Int))))):Kd .i32)))).bind λx2=>some x2)=some (fx i)))=true:=by kernel_rfl
theorem pro_fx:∀ i:Nat,i < 12->((cat (Ay (Ik.toI (Ik.ofI (Ik.toI (wr ((97:Int) + (wr ((i:Int).tdiv (2:Int)))))):Kd .i32))) (Ay (Ik.toI (Ik.ofI (Ik.toI (wr ((48:Int) + ((i:Int).tmod (2:Int))))):Kd .i32)))).bind λx2=>some x2)=some (fx i):=λi h=>of_decide_eq_true (GG.1 Yb i (GE.2 h))
theorem Tz {f:Nat} {c:Aa} (h:Bd_ c) {i:Nat} (hi:i < cL c):QZ f c (i:Int)=some (nmF c i):=by
 have h1:=h.a';have h2:=h.i;have h3:=h.s;have hS:cS c=2 * cA c + c.Inputs.length:=rfl;have hL:cL c=cS c + c.Signals.length:=rfl;unfold QZ nmF;rw [h.wa,Ak];by_cases h4:i < 2 * cA c
 ·rw [dt_ h4,ct_,if_pos h4];exact ref_fx i om_
 ·rw [df_ h4,cf_,if_neg h4,He h,ob_,Ak];by_cases h5:i < cS c
  ·rw [dt_ h5,ct_,if_pos h5,Ao om_ om_,show (i:Int) - ((2 * cA c:Nat):Int)=((i - 2 * cA c:Nat):Int) by omega,Aj,gE_ om_];simp [gE_ (show i - 2 * cA c < c.Inputs.length by omega)]
  ·rw [df_ h5,cf_,if_neg h5,ob_,Ao om_ om_,show (i:Int) - (cS c:Int)=((i - cS c:Nat):Int) by omega,Aj,gE_ om_];rfl
theorem A5 {f:Nat} {c:Aa} (h:Bd_ c) {i:Nat} (hi:i < cL c):L9 f c (i:Int)=some (nmF c i):=by
 have h1:=h.a';have h2:=h.i;have h3:=h.s;have hS:cS c=2 * cA c + c.Inputs.length:=rfl;have hL:cL c=cS c + c.Signals.length:=rfl;unfold L9 nmF;rw [Ha h,ob_,h.wa,Ak];by_cases h4:i < 2 * cA c
 ·rw [dt_ h4,ct_,if_pos h4];exact pro_fx i om_
 ·rw [df_ h4,cf_,if_neg h4,Ak];by_cases h5:i < cS c
  ·rw [dt_ h5,ct_,if_pos h5,Ao om_ om_,show (i:Int) - ((2 * cA c:Nat):Int)=((i - 2 * cA c:Nat):Int) by omega,Aj,gE_ om_];simp [gE_ (show i - 2 * cA c < c.Inputs.length by omega)]
  ·rw [df_ h5,cf_,if_neg h5,Ao om_ om_,show (i:Int) - (cS c:Int)=((i - cS c:Nat):Int) by omega,Aj,gE_ om_];rfl
def nme (c:Aa) (i:Nat):Int:=if wd (nmF c i) then (if (nmF c i).size > 24 then 17 else if (List.range i).any (λj=>(nmF c j).data.toList == (nmF c i).data.toList) then 7 else 0) else 3
theorem Wt {f:Nat} {c:Aa} (h:Bd_ c) {i:Nat} (hi:i < cL c) (hn:(nmF c i).size<=200) (hf:600<=f):m85 f c (i:Int)=some (nme c i):=by
 have h1:=h.a';have h2:=h.i;have h3:=h.s;have hS:cS c=2 * cA c + c.Inputs.length:=rfl;have hL:cL c=cS c + c.Signals.length:=rfl;unfold m85 nme;rw [Tz h hi,ob_,BV om_ om_,ob_];cases hw:wd (nmF c i) with
 | false=>rfl
 | true=>
  rw [nt_,cf_,if_pos rfl];by_cases h24:(nmF c i).size > 24
  ·rw [dt_ om_,ct_,if_pos h24]
  ·rw [df_ om_,cf_,if_neg h24];have hl:=Cq (L:=Oi f c (i:Int) (nmF c i)) (N:=i) (Q:=λj=>(nmF c j).data.toList == (nmF c i).data.toList) (r:=λ_=>7) (λn j hj=>by
    rw [Oi,Ak,dt_ hj,ct_,Tz h om_,ob_,ByteArray.toList_eq,ByteArray.toList_eq,Am om_]) (λn=>by
    rw [Oi,Ak,df_ om_,cf_]) f 0 om_ om_
   rw [n0] at hl;rcases hl with ⟨k,_,hk,hq,h⟩ | ⟨h,hn⟩
   ·rw [h,if_pos (GK.2 ⟨k,GE.2 hk,hq⟩)];rfl
   ·rw [h,if_neg ?_]
    ·rfl
    ·intro ha;obtain ⟨k,hk,h4⟩:=GK.1 ha;have:=hn k om_ (GE.1 hk);rw [this] at h4;cases h4
def Xy (c:Aa) (i:Nat) (m:List (LM×Int)):Prop:=∀ s:LM,(mat Ys m s).isSome=(List.range i).any λj=>(nmF c j).data.toList == s.data.toList
theorem By {a b:LM}:Ys a b=true↔a=b:=by
 unfold Ys;obtain ⟨⟨x⟩⟩:=a;obtain ⟨⟨y⟩⟩:=b;simp
theorem D8 {m:List (LM×Int)} {k j:LM} {y:Int}:mat Ys (DJ Ys m k y) j=if j=k then some y else mat Ys m j:=by
 induction m with
 | nil=>
  show mat Ys [(k,y)] j=_;rw [Lj];by_cases h:j=k
  ·rw [if_pos (By.2 h),if_pos h]
  ·rw [if_neg (λe=>h (By.1 e)),if_neg h]
 | cons p m ih=>
  obtain ⟨k',z⟩:=p;rw [AH,Lj];by_cases h:k=k'
  ·subst h;rw [if_pos (By.2 rfl),Lj];by_cases h2:j=k
   ·rw [if_pos (By.2 h2),if_pos h2]
   ·rw [if_neg (λe=>h2 (By.1 e)),if_neg h2,if_neg (λe=>h2 (By.1 e))]
  ·rw [if_neg (λe=>h (By.1 e)),Lj,ih];by_cases h2:j=k'
   ·subst h2;rw [if_pos (By.2 rfl),if_neg (λe=>h e.symm),if_pos (By.2 rfl)]
   ·rw [if_neg (λe=>h2 (By.1 e)),if_neg (λe=>h2 (By.1 e))]
theorem Xy.zero (c:Aa):Xy c 0 []:=λs=>rfl
theorem Xy.put {c:Aa} {i:Nat} {m:List (LM×Int)} (h:Xy c i m) (y:Int):Xy c (i + 1) (DJ Ys m (nmF c i) y):=by
 intro s;rw [D8,G5,KN];by_cases e:s=nmF c i
 ·rw [if_pos e,e];simp
 ·rw [if_neg e,h s];have:((nmF c i).data.toList == s.data.toList)=false:=by
   cases hb:((nmF c i).data.toList == s.data.toList) with
   | false=>rfl
   | true=>exact absurd (By.1 hb).symm e
  rw [K0,List.any_nil,JF,this,JF]
theorem Tf {f:Nat} {c:Aa} (h:Bd_ c) {i:Nat} (hn:(nmF c i).size<=200) (hf:600<=f) {m:List (LM×Int)} (hm:Xy c i m) (a b c' d e) :
  ∃ m',MJ f (nmF c i) a b c' d e m=some (nme c i,m')/\(nme c i=0->Xy c (i + 1) m'):=by
 unfold MJ nme;have hemp:((nmF c i).toList == (⟨#[]⟩:LM).toList)=((nmF c i).data.toList == []):=by
  rw [ByteArray.toList_eq,ByteArray.toList_eq]
 rw [hemp,AU om_ om_];have hwd:∀ (k:Bool->Option (Int×List (LM×Int))),((bif ((nmF c i).data.toList == []) then some true else (Nv (nmF c i) (0:Int)).bind λx1=>some (decide ((x1.toNat:Int) < (UInt8.ofNat 97).toNat))).bind λr2=>(bif r2 then some true else (Nv (nmF c i) (0:Int)).bind λx3=>some (decide ((x3.toNat:Int) > (UInt8.ofNat 122).toNat))).bind λr4=>(bif r4 then some true else (some ((nmF c i).data.toList.any λb=>!Da b)).bind λx5=>some x5).bind k)=k (!wd (nmF c i)):=by
  intro k;cases hd:(nmF c i).data.toList with
  | nil=>unfold wd;rw [hd];rfl
  | cons b l=>
   have h0:Nv (nmF c i) (0:Int)=some b:=by
    have:=Wk (s:=nmF c i) (i:=0) (by rw [hd];simp);rw [n0] at this;rw [this];simp [hd]
   unfold wd;rw [h0,hd];simp only [ob_,cs_,u8n (show 97 < 256 by omega),u8n (show 122 < 256 by omega)];congr 1;rw [G0];unfold Se;simp only [List.all_eq_not_any_not];cases (b :: l).any (λb=>!Da b) <;> simp <;> omega
 rw [hwd];cases hw:wd (nmF c i) with
 | false=>exact ⟨m,rfl,λh=>by simp at h⟩
 | true=>
  rw [nt_,cf_,if_pos rfl];by_cases h24:(nmF c i).size > 24
  ·rw [dt_ om_,ct_,if_pos h24];exact ⟨m,rfl,λh=>by simp at h⟩
  ·rw [df_ om_,cf_,if_neg h24,hm (nmF c i)];cases hx:(List.range i).any (λj=>(nmF c j).data.toList == (nmF c i).data.toList) with
   | true=>exact ⟨m,rfl,λh=>by simp at h⟩
   | false=>exact ⟨_,rfl,λ_=>hm.put _⟩
end Go.Pn
namespace Go.Pn
open Go
def Xi (E:Nat->Int):Nat->Nat->Int
 | 0,_=>0
 | k + 1,i=>if E i=0 then Xi E k (i + 1) else E i
theorem Uo {E:Nat->Int}:∀ {k i:Nat},Xi E k i=0->∀ j,i<=j->j < i + k->E j=0
 | 0,_,_,j,h1,h2=>by omega
 | k + 1,i,h,j,h1,h2=>by
  unfold Xi at h;split at h
  ·rcases G8 h1 with rfl | h3
   ·assumption
   ·exact Uo h j h3 om_
  ·contradiction
theorem fnzI {S σ β:Type} {L:Nat->S->Option (Lo S β)} {mk:Nat->σ->S} {N:Nat} {E:Nat->Int} {r:Int->β} {I:Nat->σ->Prop}
  (h:∀ (n i:Nat) s,i < N->I i s->(E i=0->∃ s',I (i + 1) s'/\L (n + 1) (mk i s)=L n (mk (i + 1) s'))/\(E i≠0->L (n + 1) (mk i s)=some (.ret (r (E i)))))
  (h':∀ (n:Nat) s,I N s->L (n + 1) (mk N s)=some (.brk (mk N s))) :
  ∀ (k n i:Nat) s,i + k=N->k < n->I i s->(Xi E k i=0/\∃ s',I N s'/\L n (mk i s)=some (.brk (mk N s')))\/(Xi E k i≠0/\L n (mk i s)=some (.ret (r (Xi E k i))))
 | 0,0,i,s,_,h2,_=>by omega
 | 0,n + 1,i,s,h1,h2,hI=>by
  obtain rfl:i=N:=by omega
  exact .inl ⟨rfl,s,hI,h' n s hI⟩
 | k + 1,0,i,s,_,h2,_=>by omega
 | k + 1,n + 1,i,s,h1,h2,hI=>by
  obtain ⟨a,b⟩:=h n i s om_ hI;unfold Xi;by_cases e:E i=0
  ·obtain ⟨s',hs,hl⟩:=a e;rw [if_pos e,hl];exact fnzI h h' k n (i + 1) s' om_ om_ hs
  ·rw [if_neg e];exact .inr ⟨e,b e⟩
def zrx (x:Expr):Bool:=((x.Op == 0) && (x.Index == 0)) && (((x.Args).length:Int) == 0)
theorem Tw {f:Nat} {x:Expr}:RA f x=some (zrx x):=rfl
theorem Ta {f:Nat} {x:Expr}:LS f x=some (zrx x):=rfl
structure Fw (c:Aa):Prop where
 i:∀ s∈c.Inputs,s.size<=200
 n:∀ x∈c.Signals,x.Name.size<=200
 on:∀ x∈c.Signals,Lt_ x.On/\Q4 FF x.On=some true
 off:∀ x∈c.Signals,Lt_ x.Off/\Q4 FF x.Off=some true
theorem Fw.nm {c:Aa} (h:Fw c) (i:Nat):(nmF c i).size<=200:=by
 unfold nmF;split
 ·show 2<=200;omega
 ·split
  ·rw [F7];cases hx:c.Inputs[i - 2 * cA c]? with
   | none=>show 0<=200;omega
   | some s=>exact h.i s (GX hx)
  ·cases hx:c.Signals[i - cS c]? with
   | none=>show 0<=200;omega
   | some x=>exact h.n x (GX hx)
def gate (c:Aa) (k:Nat):Bool:=match c.Signals[k]? with | some y=>y.Kind == 0 | none=>false
def late (c:Aa) (i:Nat) (x:Ae):Bool:=(List.range c.Signals.length).any λk=>decide (i<=k) && (gate c k && occ 16 ((cS c + k:Nat):Int) x.On)
def sge (c:Aa) (i:Nat) (x:Ae):Int:=
 if nme c (cS c + i)≠0 then nme c (cS c + i) else if x.Kind < 0\/3<=x.Kind then 1 else if chE 16 (cL c) x.On≠0 then chE 16 (cL c) x.On else
 if x.Kind=1 then (if chE 16 (cL c) x.Off≠0 then chE 16 (cL c) x.Off else if x.Delay≠0 then 3 else 0)
 else if x.Kind=0 then (if late c i x=true then 9 else if (!zrx x.Off || x.Init || x.Delay != 0)=true then 3 else 0)
 else (if x.Delay < 1\/x.Delay > 1000000 then 2 else if (!zrx x.Off || x.Init)=true then 3 else 0)
theorem BU {c:Aa} (h:Bd_ c) {i:Nat} {x:Ae} (hx:c.Signals[i]?=some x) (hd:dp 16 x.On):Q9 FF c (i:Int)=some (late c i x):=by
 have h1:=h.a';have h2:=h.i;have h3:=h.s;have hS:cS c=2 * cA c + c.Inputs.length:=rfl;have hi:=(GC.1 hx).1;unfold Q9;have hl:=Cq (L:=Jv FF c (i:Int)) (N:=c.Signals.length) (Q:=λk=>gate c k && occ 16 ((cS c + k:Nat):Int) x.On) (r:=λ_=>true) (λn k hk=>by
  rw [Jv,Ak,dt_ hk,ct_,Aj,gE_ hk,ob_,Am om_];unfold gate;rw [gE_ hk];dsimp only;cases hg:(c.Signals[k].Kind == 0) with
  | false=>rfl
  | true=>
   rw [ct_,Aj,hx,ob_,He h,ob_,Ao om_ om_,show (cS c:Int) + (k:Int)=((cS c + k:Nat):Int) by omega,Tl 16 FF _ _ hd uF];simp only [ob_,H0]) (λn=>by
  rw [Jv,Ak,df_ om_,cf_]) FF i om_ uF
 unfold late;rcases hl with ⟨k,hk1,hk,hq,h⟩ | ⟨h,hn⟩
 ·rw [h,GK.2 ⟨k,GE.2 hk,by rw [hq,dt_ hk1];rfl⟩];rfl
 ·rw [h];have:((List.range c.Signals.length).any λk=>decide (i<=k) && (gate c k && occ 16 ((cS c + k:Nat):Int) x.On))=false:=by
   rw [HE];intro k hk;have hk:=GE.1 hk;by_cases hik:i<=k
   ·rw [hn k hik hk];simp
   ·rw [df_ hik];simp
  rw [this];rfl
theorem EC {c:Aa} (h:Bd_ c) (hw:Fw c) {i:Nat} {x:Ae} (hx:c.Signals[i]?=some x):m86 FF c (i:Int)=some (sge c i x):=by
 have h1:=h.a';have h2:=h.i;have h3:=h.s;have hS:cS c=2 * cA c + c.Inputs.length:=rfl;have hL:cL c=cS c + c.Signals.length:=rfl;have hi:=(GC.1 hx).1;have hxm:=GX hx;obtain ⟨on1,on2⟩:=hw.on x hxm;obtain ⟨of1,of2⟩:=hw.off x hxm;have hF:600<=FF:=by unfold FF;omega
 unfold m86 sge;rw [Aj,hx,ob_,He h,ob_,Ao om_ om_,show (cS c:Int) + (i:Int)=((cS c + i:Nat):Int) by omega,Wt h om_ (hw.nm _) hF,ob_];by_cases e1:nme c (cS c + i)=0
 ·rw [e1,if_neg As,zf_,cf_];by_cases e2:x.Kind < 0\/3<=x.Kind
  ·rw [if_pos e2,show (decide (x.Kind < 0) || decide (x.Kind>=(3:Int)))=true by simpa using e2,ct_]
  ·rw [if_neg e2,show (decide (x.Kind < 0) || decide (x.Kind>=(3:Int)))=false by simp;omega,cf_,Ub h,ob_,Tx on1 on2 om_ om_ hF,ob_];by_cases e3:chE 16 (cL c) x.On=0
   ·rw [e3,if_neg As,zf_,cf_];have hk:x.Kind=0\/x.Kind=1\/x.Kind=2:=by omega
    rcases hk with k | k | k <;> rw [k]
    ·simp only [show ((0:Int) == 1)=false by rfl,show ((0:Int) == 0)=true by rfl,show ((0:Int) == 2)=false by rfl,cf_,ct_,KS,J2,H0];rw [BU h hx on1.dp,ob_,ob_,Tw,ob_,ob_];simp only [show ¬ ((0:Int)=1) by omega,if_false,if_true];cases late c i x with
     | true=>rfl
     | false=>
      simp only [cf_];cases zrx x.Off <;> cases x.Init <;> cases (x.Delay != 0) <;> rfl
    ·simp only [show ((1:Int) == 1)=true by rfl,show ((1:Int) == 0)=false by rfl,show ((1:Int) == 2)=false by rfl,cf_,ct_,KS,J2,H0,JO,JA,if_true];rw [ob_,Tx of1 of2 om_ om_ hF,ob_];by_cases e4:chE 16 (cL c) x.Off=0
     ·rw [e4,zf_,cf_,if_neg As,ob_,cf_,ob_,JA];by_cases e5:x.Delay=0
      ·rw [if_neg (by simpa using e5),e5];rfl
      ·rw [if_pos e5,show (x.Delay != 0)=true by simpa using e5];rfl
     ·rw [if_pos e4,show (chE 16 (cL c) x.Off != 0)=true by simpa using e4,ct_]
    ·simp only [show ((2:Int) == 1)=false by rfl,show ((2:Int) == 0)=false by rfl,show ((2:Int) == 2)=true by rfl,cf_,ct_,KS,J2,H0,JO,JF,if_true,show ¬ ((2:Int)=1) by omega,show ¬ ((2:Int)=0) by omega,if_false,ob_];rw [Tw,ob_];by_cases e5:x.Delay < 1\/x.Delay > 1000000
     ·rw [if_pos e5,show (decide (x.Delay < 1) || decide (x.Delay > 1000000))=true by simpa using e5,ct_]
     ·rw [if_neg e5,show (decide (x.Delay < 1) || decide (x.Delay > 1000000))=false by simp;omega,cf_,ob_];cases zrx x.Off <;> cases x.Init <;> rfl
   ·rw [if_pos e3,show (chE 16 (cL c) x.On != 0)=true by simpa using e3,ct_]
 ·rw [if_pos e1,show (nme c (cS c + i) != 0)=true by simpa using e1,ct_]
def pr (c:Aa) (i:Nat) (k:Int):Bool:=decide (k - (cS c:Int)>=(i:Int)) && gate c (k - (cS c:Int)).toNat
theorem AV {f:Nat} {c:Aa} (h:Bd_ c) {i:Nat} {k:Int} (hk0:0<=k) (hk:k < cL c) (m:List (LM×Int)) (b:Bool) :
  MM f k (i:Int) c.Actuators c.Inputs c.Signals c.Plus c.Minus m b=some (b || pr c i k):=by
 have h1:=h.a';have h2:=h.i;have h3:=h.s;have hS:cS c=2 * cA c + c.Inputs.length:=rfl;have hL:cL c=cS c + c.Signals.length:=rfl;unfold MM pr;have e:(⟨c.Actuators,c.Inputs,c.Signals,c.Plus,c.Minus⟩:Aa)=c:=rfl;rw [e,Ha h,ob_,Ao om_ om_];cases b with
 | true=>rfl
 | false=>
  rw [cf_,JA];by_cases hg:k - (cS c:Int)>=(i:Int)
  ·obtain ⟨j,hj⟩:=Int.eq_ofNat_of_zero_le (show 0<=k - (cS c:Int) by omega);rw [dt_ hg,ct_,hj,Aj,gE_ om_,ob_,ob_,ob_];unfold gate;rw [show ((j:Int)).toNat=j by simp,gE_ om_];rfl
  ·rw [df_ hg];rfl
theorem Sz {c:Aa} (h:Bd_ c) {i:Nat} (m:List (LM×Int)):∀ (d f:Nat) (x:Expr) (b:Bool),okE d (cL c) x->d + 300<=f ->
  MN f x c.Actuators c.Inputs c.Signals c.Plus c.Minus m b (i:Int)=some (b || FZ d (pr c i) x)
 | 0,_,_,_,h,_=>h.elim
 | d + 1,f,x,b,ho,hf=>by
  obtain ⟨f,rfl⟩:∃ f',f=f' + 1:=⟨f - 1,by omega⟩;obtain ⟨hn,hl,ha⟩:=ho;obtain ⟨o1,o2,o3,o4,o5,i1,i2⟩:=Lh hn;unfold MN FZ;have loop:∀ (n j:Nat) (b:Bool),j<=x.Args.length->x.Args.length - j < n ->
    Mo (MN f) x c.Actuators c.Inputs c.Signals c.Plus c.Minus m (i:Int) n ((j:Int),b)=some ((x.Args.length:Int),b || (x.Args.drop j).any (FZ d (pr c i))):=by
   intro n
   induction n with
   | zero=>intro j _ _ h;omega
   | succ n ihn=>
    intro j b hj hnn;unfold Mo;dsimp only;by_cases h3:j < x.Args.length
    ·rw [Ak,dt_ h3,ct_,Aj,gE_ h3,ob_,Sz h m d f _ b (ha _ (GN h3)) om_,ob_,Am om_,ihn (j + 1) _ om_ om_,HK h3,K0,Bool.or_assoc]
    ·rw [Ak,df_ h3,cf_,G6 om_];have:j=x.Args.length:=by omega
     subst this;simp
  by_cases h1:x.Op=1
  ·rw [if_pos h1,show (x.Op == 1)=true by simpa using h1,ct_,AV h i1 (i2 h1),ob_,ob_];have h3:=loop f 0 (b || pr c i x.Index) om_ om_;rw [n0,HT] at h3;rw [h3,o3 om_];simp
  ·rw [if_neg h1,show (x.Op == 1)=false by simpa using h1,cf_,ob_];have h3:=loop f 0 b om_ om_;rw [n0,HT] at h3;rw [h3];rfl
theorem late_eq {c:Aa} {i:Nat} {x:Ae} (ho:okE 16 (cL c) x.On):FZ 16 (pr c i) x.On=late c i x:=by
 have hL:cL c=cS c + c.Signals.length:=rfl;rw [G0,Rr];unfold late;rw [GK];constructor
 ·rintro ⟨k,hp,hk⟩;have hl:=FE ho hk;unfold pr at hp;rw [GF] at hp;obtain ⟨hp1,hp2⟩:=hp;have hp1:k - (cS c:Int)>=(i:Int):=by simpa using hp1
  refine ⟨(k - (cS c:Int)).toNat,GE.2 om_,?_⟩;rw [dt_ om_,hp2,show ((cS c + (k - (cS c:Int)).toNat:Nat):Int)=k by omega,hk];rfl
 ·rintro ⟨j,hj,hq⟩;rw [GF,GF] at hq;obtain ⟨h1,h2,h3⟩:=hq;have h1:i<=j:=by simpa using h1
  refine ⟨_,?_,h3⟩;unfold pr;rw [show ((cS c + j:Nat):Int) - (cS c:Int)=(j:Int) by omega,show ((j:Int)).toNat=j by simp,h2,dt_ om_];rfl
theorem A4 {c:Aa} (h:Bd_ c) (hw:Fw c) {i:Nat} {x:Ae} (hx:c.Signals[i]?=some x) {m:List (LM×Int)} (hm:Xy c (cS c + i) m) :
  ∃ m',MT FF (i:Int) c.Actuators c.Inputs c.Signals c.Plus c.Minus m=some (sge c i x,m')/\(sge c i x=0->Xy c (cS c + (i + 1)) m'):=by
 have h1:=h.a';have h2:=h.i;have h3:=h.s;have hS:cS c=2 * cA c + c.Inputs.length:=rfl;have hL:cL c=cS c + c.Signals.length:=rfl;have hi:=(GC.1 hx).1;have hxm:=GX hx;obtain ⟨on1,on2⟩:=hw.on x hxm;obtain ⟨of1,of2⟩:=hw.off x hxm;have hF:600<=FF:=by unfold FF;omega
 have hnm:nmF c (cS c + i)=x.Name:=by
  unfold nmF;rw [if_neg om_,if_neg om_,show cS c + i - cS c=i by omega,hx];rfl
 have e:(⟨c.Actuators,c.Inputs,c.Signals,c.Plus,c.Minus⟩:Aa)=c:=rfl;unfold MT sge;obtain ⟨m',hm',hk'⟩:=Tf h (hw.nm (cS c + i)) hF hm c.Actuators c.Inputs c.Signals c.Plus c.Minus;rw [hnm] at hm';rw [Aj,hx,ob_,hm',ob_];dsimp only;refine ⟨m',?_,λh0=>?_⟩
 ·by_cases e1:nme c (cS c + i)=0
  ·rw [e1,if_neg As,zf_,cf_];by_cases e2:x.Kind < 0\/3<=x.Kind
   ·rw [if_pos e2,show (decide (x.Kind < 0) || decide (x.Kind>=(3:Int)))=true by simpa using e2,ct_]
   ·rw [if_neg e2,show (decide (x.Kind < 0) || decide (x.Kind>=(3:Int)))=false by simp;omega,cf_,e,Nf h,ob_,Mv on1 om_ om_ hF,ob_];by_cases e3:chE 16 (cL c) x.On=0
    ·rw [e3,if_neg As,zf_,cf_];have hok:=okE.of on1.dp e3;have hk:x.Kind=0\/x.Kind=1\/x.Kind=2:=by omega
     rcases hk with k | k | k <;> rw [k]
     ·rw [show idx (List.range 3) (0:Int)=some 0 by rfl,ob_,show ((0:Nat) == 0)=true by rfl,ct_,if_neg om_,if_pos rfl];unfold MP MO;rw [Aj,hx,ob_,Sz h m' 16 FF x.On false hok uF,ob_,ob_,JA,late_eq hok,Ta];cases late c i x with
      | true=>rfl
      | false=>cases zrx x.Off <;> cases x.Init <;> cases (x.Delay != 0) <;> rfl
     ·rw [show idx (List.range 3) (1:Int)=some 1 by rfl,ob_,show ((1:Nat) == 0)=false by rfl,cf_,show ((1:Nat) == 1)=true by rfl,ct_,if_pos rfl];unfold MQ;rw [e,Nf h,Aj,hx,ob_,ob_,Mv of1 om_ om_ hF,ob_];by_cases e4:chE 16 (cL c) x.Off=0
      ·rw [e4,zf_,cf_,if_neg As,ob_];by_cases e5:x.Delay=0
       ·rw [if_neg (by simpa using e5),e5];rfl
       ·rw [if_pos e5,show (x.Delay != 0)=true by simpa using e5];rfl
      ·rw [if_pos e4,show (chE 16 (cL c) x.Off != 0)=true by simpa using e4,ct_];rfl
     ·rw [show idx (List.range 3) (2:Int)=some 2 by rfl,ob_,show ((2:Nat) == 0)=false by rfl,cf_,show ((2:Nat) == 1)=false by rfl,cf_,show ((2:Nat) == 2)=true by rfl,ct_,if_neg om_,if_neg om_];unfold MS;rw [Aj,hx,ob_,Ta];by_cases e5:x.Delay < 1\/x.Delay > 1000000
      ·rw [if_pos e5,show (decide (x.Delay < 1) || decide (x.Delay > 1000000))=true by simpa using e5];rfl
      ·rw [if_neg e5,show (decide (x.Delay < 1) || decide (x.Delay > 1000000))=false by simp;omega];cases zrx x.Off <;> cases x.Init <;> rfl
    ·rw [if_pos e3,show (chE 16 (cL c) x.On != 0)=true by simpa using e3,ct_]
  ·rw [if_pos e1,show (nme c (cS c + i) != 0)=true by simpa using e1,ct_]
 ·refine hk' ?_;by_cases e1:nme c (cS c + i)=0
  ·exact e1
  ·rw [if_pos e1] at h0;exact h0
theorem A3 {f:Nat} {c:Aa} (h:Bd_ c) {k:Int}:MU f k c=some (bad (cL c) k):=by
 unfold MU bad;rw [Nf h];cases decide (k < 0) <;> rfl
theorem EE {c:Aa} (h:Bd_ c) {xs:LH} (hl:xs.length < 1000):m71 FF xs c=some (xs.any (bad (cL c))):=by
 unfold m71 MV;have h5:=DG (L:=Qu FF xs c) (xs:=xs) (p:=λ_ y=>MU FF y c) (q:=bad (cL c)) (r:=λz=>z) (λ_ _=>rfl) om_ (λi y hy=>A3 h) FF 0 om_ uF;rw [n0,HT] at h5;rw [h5];cases h6:xs.findIdx? (bad (cL c)) with
 | none=>
  rw [H1] at h6;have:xs.any (bad (cL c))=false:=HE.2 λy hy=>by simpa using h6 y hy
  rw [this];rfl
 | some j=>
  obtain ⟨hj,hj2,_⟩:=HP.1 h6;have:xs.any (bad (cL c))=true:=GK.2 ⟨_,GN hj,by simpa using hj2⟩;rw [this];simp
theorem Nc {p q:LH} (hp:p.length<=400000000) (hq:q.length<=400000000):MD FF [p,q]=some (p ++ q):=by
 unfold MD;have h1:Eg [p,q] FF ((0:Int),(0:Int))=some (((p.length + q.length:Nat):Int),2):=by
  show Eg [p,q] (99997 + 1 + 1 + 1) _=_;unfold Eg;rw [show decide ((0:Int) < (([p,q]:List LH).length:Int))=true by rfl,ct_,show idx [p,q] 0=some p by rfl,ob_];dsimp only;rw [Ao om_ om_,Ao om_ om_,df_ om_,cf_];unfold Eg;rw [show decide ((0:Int) + 1 < (([p,q]:List LH).length:Int))=true by rfl,ct_,show idx [p,q] (0 + 1)=some q by rfl,ob_];dsimp only;rw [Ao om_ om_,Ao om_ om_,df_ om_,cf_];unfold Eg;rw [show decide ((0:Int) + 1 + 1 < (([p,q]:List LH).length:Int))=false by rfl,cf_];congr 1;refine Prod.ext ?_ rfl;dsimp only;omega
 have h2:Ef [p,q] FF ((0:Int),[])=some ((2:Int),p ++ q):=by
  show Ef [p,q] (99997 + 1 + 1 + 1) _=_;unfold Ef app;rw [show decide ((0:Int) < (([p,q]:List LH).length:Int))=true by rfl,ct_,show idx [p,q] 0=some p by rfl,ob_,if_pos so_,ob_];dsimp only;rw [Ao om_ om_];unfold Ef app;rw [show decide ((0:Int) + 1 < (([p,q]:List LH).length:Int))=true by rfl,ct_,show idx [p,q] (0 + 1)=some q by rfl,ob_,if_pos so_,ob_];dsimp only;rw [Ao om_ om_];unfold Ef;rw [show decide ((0:Int) + 1 + 1 < (([p,q]:List LH).length:Int))=false by rfl,cf_];rfl
 rw [h1,ob_];unfold m247;rw [if_pos (by dsimp only;omega),ob_,h2];rfl
theorem Mf {c:Aa} (h:Bd_ c) {xs:LH} (hl:xs.length < 1000):Oh FF c xs FF (0:Int)=if xs.any (bad (cL c)) then some (.ret 6) else some (.brk (xs.length:Int)):=by
 have h5:=DG (L:=Oh FF c xs) (xs:=xs) (p:=λ_ y=>some (bad (cL c) y)) (q:=bad (cL c)) (r:=λ_=>6) (λn z=>by
  rw [Oh];congr 1;cases hx:idx xs z with
  | none=>rfl
  | some y=>
   rw [ob_,ob_,ob_,Ub h,ob_];unfold bad;cases decide (y < 0) <;> rfl) om_ (λi y hy=>rfl) FF 0 om_ (by unfold FF; omega)
 rw [n0,HT] at h5;rw [h5];cases h6:xs.findIdx? (bad (cL c)) with
 | none=>
  rw [H1] at h6;have:xs.any (bad (cL c))=false:=HE.2 λy hy=>by simpa using h6 y hy
  rw [this];rfl
 | some j=>
  obtain ⟨hj,hj2,_⟩:=HP.1 h6;have:xs.any (bad (cL c))=true:=GK.2 ⟨_,GN hj,by simpa using hj2⟩;rw [this];rfl
def plE (c:Aa):Int:=if (c.Plus.length:Int)≠c.Actuators\/(c.Minus.length:Int)≠c.Actuators then 8 else if (c.Plus ++ c.Minus).any (bad (cL c)) then 6 else 0
theorem EB {c:Aa} (h:Bd_ c):m87 FF c=some (plE c):=by
 have h6:=h.a6;unfold m87 plE;by_cases h1:(c.Plus.length:Int)≠c.Actuators\/(c.Minus.length:Int)≠c.Actuators
 ·rw [if_pos h1,show (((c.Plus.length:Int) != c.Actuators) || ((c.Minus.length:Int) != c.Actuators))=true by simpa using h1,ct_]
 ·rw [if_neg h1,show (((c.Plus.length:Int) != c.Actuators) || ((c.Minus.length:Int) != c.Actuators))=false by simp;omega,cf_];have:Ks FF c FF (0:Int)=if (c.Plus ++ c.Minus).any (bad (cL c)) then some (.ret 6) else some (.brk 2):=by
   show Ks FF c (99997 + 1 + 1 + 1) _=_;unfold Ks;rw [show decide ((0:Int) < (([c.Plus,c.Minus]:List LH).length:Int))=true by rfl,ct_,show idx [c.Plus,c.Minus] 0=some c.Plus by rfl,ob_,Mf h om_,KN];cases c.Plus.any (bad (cL c)) with
   | true=>rfl
   | false=>
    rw [if_neg As,ob_];dsimp only;rw [Ao om_ om_];unfold Ks;rw [show decide ((0:Int) + 1 < (([c.Plus,c.Minus]:List LH).length:Int))=true by rfl,ct_,show idx [c.Plus,c.Minus] (0 + 1)=some c.Minus by rfl,ob_,Mf h om_,JA];cases c.Minus.any (bad (cL c)) with
    | true=>rfl
    | false=>
     rw [if_neg As,ob_];dsimp only;rw [Ao om_ om_];unfold Ks;rw [show decide ((0:Int) + 1 + 1 < (([c.Plus,c.Minus]:List LH).length:Int))=false by rfl,cf_];rfl
  rw [this];cases (c.Plus ++ c.Minus).any (bad (cL c)) <;> rfl
structure Rt (c:Aa):Prop where
 bd:Bd_ c
 sig:∀ x∈c.Signals,0<=x.Kind/\x.Kind < 3/\okE 16 (cL c) x.On/\(x.Kind=1->okE 16 (cL c) x.Off)
 plus:c.Plus.length=cA c
 minus:c.Minus.length=cA c
 lines:∀ l∈c.Plus ++ c.Minus,0<=l/\l < cL c
 ini:∀ x∈c.Signals,x.Kind=2->x.Init=false
theorem DR {c:Aa} (hw:Fw c) {i:Nat} {x:Ae} (hx:c.Signals[i]?=some x) (h:sge c i x=0):(0<=x.Kind/\x.Kind < 3/\okE 16 (cL c) x.On/\(x.Kind=1->okE 16 (cL c) x.Off))/\(x.Kind=2->x.Init=false):=by
 have hxm:=GX hx;unfold sge at h;split at h
 ·contradiction
 ·split at h
  ·omega
  ·split at h
   ·contradiction
   ·rename_i h2 h3;refine ⟨⟨by omega,by omega,okE.of (hw.on x hxm).1.dp om_,λhk=>?_⟩,λhk=>?_⟩
    ·rw [if_pos hk] at h;split at h
     ·contradiction
     ·rename_i h4;exact okE.of (hw.off x hxm).1.dp om_
    ·rw [if_neg om_,if_neg om_] at h;split at h
     ·contradiction
     ·split at h
      ·contradiction
      ·rename_i h5;cases hi:x.Init with
       | false=>rfl
       | true=>rw [hi] at h5;simp at h5
def sgE (c:Aa) (i:Nat):Int:=match c.Signals[i]? with | some x=>sge c i x | none=>0
theorem Ku {c:Aa} (h:Bd_ c):∀ (n i:Nat) (m:List (LM×Int)),i<=2 * cA c->2 * cA c - i < n->Xy c i m->∃ z m',Nb FF c n ((i:Int),m)=some (z,m')/\Xy c (2 * cA c) m'
 | 0,i,_,_,h,_=>by omega
 | n + 1,i,m,h1,h2,hm=>by
  have ha:=h.a';have hL:cL c=2 * cA c + c.Inputs.length + c.Signals.length:=rfl;unfold Nb;dsimp only;rw [h.wa,Ak];by_cases hi:i < 2 * cA c
  ·rw [dt_ hi,ct_,A5 h om_,ob_,Am om_];exact Ku h n (i + 1) _ om_ om_ (hm.put _)
  ·rw [df_ hi,cf_];obtain rfl:i=2 * cA c:=by omega
   exact ⟨_,m,rfl,hm⟩
end Go.Pn
namespace Go.Pn
open Go
theorem Rx {S σ:Type} {L:Nat->S->Option S} {mk:Nat->σ->S} {N:Nat} {I:Nat->σ->Prop}
  (h:∀ (n i:Nat) s,i < N->I i s->∃ s',I (i + 1) s'/\L (n + 1) (mk i s)=L n (mk (i + 1) s')) (h':∀ (n:Nat) s,I N s->L (n + 1) (mk N s)=some (mk N s)) :
  ∀ (n i:Nat) s,i<=N->N - i < n->I i s->∃ s',I N s'/\L n (mk i s)=some (mk N s')
 | 0,i,_,_,h,_=>by omega
 | n + 1,i,s,h1,h2,hI=>by
  by_cases hi:i < N
  ·obtain ⟨s',h3,h4⟩:=h n i s hi hI;rw [h4];exact Rx h h' n (i + 1) s' om_ om_ h3
  ·obtain rfl:i=N:=by omega
   exact ⟨s,hI,h' n s hI⟩
def upd {α:Type} (f:Nat->α) (l:List α) (i:Nat):List α:=(List.range i).map f ++ l.drop i
theorem Gl {α:Type} {f:Nat->α} {l:List α}:upd f l 0=l:=by simp [upd]
theorem Lw {α:Type} {f:Nat->α} {l:List α}:upd f l l.length=(List.range l.length).map f:=by simp [upd]
theorem Qc {α:Type} {f:Nat->α} {l:List α} {i:Nat} (h:i<=l.length):(upd f l i).length=l.length:=by simp [upd];omega
theorem Ff {α:Type} {f:Nat->α} {l:List α} {i j:Nat} (h:i<=j):(upd f l i)[j]?=l[j]?:=by
 unfold upd;rw [F9 so_,KU];congr 1;simp;omega
theorem Lv {α:Type} {f:Nat->α} {l:List α} {i:Nat} {y:α} (h:i < l.length) (hy:y=f i):(upd f l i).set i y=upd f l (i + 1):=by
 subst hy;refine JT λj=>?_;by_cases e:j=i
 ·subst e;rw [H8 (by rw [Qc om_];exact h)];unfold upd;rw [GJ As];simp
 ·rw [JE om_];by_cases h2:j < i
  ·unfold upd;rw [GJ so_,GJ so_];simp [h2,show j < i + 1 by omega]
  ·rw [Ff om_,Ff om_]
structure Rc (c:Aa):Prop where
 rt:Rt c
 fw:Fw c
 ck:MY FF c=some 0
 ck':m22 FF c=some 0
structure Fit (c:Aa) (s:Ad):Prop where
 e:s.Ends.length=cA c
 v:s.Valves.length=cA c
 i:s.Inputs.length=c.Inputs.length
 x:s.Values.length=c.Signals.length
 t:s.Timers.length=c.Signals.length
 ee:∀ a∈s.Ends,0<=a/\a < 4
 tt:∀ a∈s.Timers,0<=a/\a < 3
 k:∀ (i:Nat) x t v,c.Signals[i]?=some x->s.Timers[i]?=some t->s.Values[i]?=some v->(x.Kind≠2->t=0)/\(x.Kind=2->v=(t == 2))
def Ym (s:Ad):LJ:=s.Ends.flatMap λe=>[e == 0,e == 2]
def pre (s:Ad):LJ:=Ym s ++ s.Inputs
def vals (s:Ad):LJ:=pre s ++ s.Values
theorem Pp {l:LH}:(l.flatMap λe=>[e == 0,e == 2]).length=2 * l.length:=by
 induction l with
 | nil=>rfl
 | cons a l ih=>rw [LG,GB,ih];simp;omega
theorem CP:∀ {l:LH} {j:Nat},(l.flatMap λe=>[e == 0,e == 2])[j]?=(l[j / 2]?).map λe=>if j % 2=0 then e == 0 else e == 2
 | [],j=>by simp
 | a :: l,0=>by simp
 | a :: l,1=>by simp
 | a :: l,j + 2=>by
  rw [LG];show (List.flatMap (λe=>[e == 0,e == 2]) l)[j]?=_;rw [CP,show (j + 2) / 2=j / 2 + 1 by omega,show (j + 2) % 2=j % 2 by omega];rfl
theorem Fit.pl {c:Aa} {s:Ad} (h:Fit c s):(pre s).length=cS c:=by
 unfold pre Ym;rw [GB,Pp,h.e,h.i];rfl
theorem Fit.vl {c:Aa} {s:Ad} (h:Fit c s):(vals s).length=cL c:=by
 unfold vals;rw [GB,h.pl,h.x];rfl
theorem take_fm {l:LH} {i:Nat} (h:i < l.length):(l.take (i + 1)).flatMap (λe=>[e == 0,e == 2])=(l.take i).flatMap (λe=>[e == 0,e == 2]) ++ [l[i] == 0,l[i] == 2]:=by
 rw [J0,gE_ h,JG];simp
theorem Kx {s:Ad} (h1:s.Ends.length<=1000):Dq s FF ((0:Int),[])=some ((s.Ends.length:Int),Ym s):=by
 obtain ⟨acc,he,hl⟩:=Rx (L:=Dq s) (mk:=λi acc=>((i:Int),acc)) (N:=s.Ends.length) (I:=λi acc=>acc=(s.Ends.take i).flatMap λe=>[e == 0,e == 2]) (λn i acc hi hI=>by
  subst hI;refine ⟨_,rfl,?_⟩;rw [Dq];dsimp only;have hlen:((s.Ends.take i).flatMap λe=>[e == 0,e == 2]).length<=10000:=by rw [Pp,K1];omega
  unfold app;rw [Ak,dt_ hi,ct_,Aj,gE_ om_,ob_,if_pos (by simp only [HS,JB];omega),ob_,Am om_,take_fm om_]) (λn acc _=>by
  rw [Dq];dsimp only;rw [Ak,df_ om_,cf_]) FF 0 [] om_ uF rfl
 subst he;try dsimp only at hl
 rw [n0] at hl;rw [hl,JX om_];rfl
theorem BO {s:Ad} (h1:s.Ends.length<=1000) (h2:s.Inputs.length<=1000) (h3:s.Values.length<=1000):PR FF s=some (vals s):=by
 unfold PR;rw [Kx h1,ob_];dsimp only;have h4:(Ym s).length<=10000:=by unfold Ym;rw [Pp];omega
 unfold app;rw [if_pos om_,ob_,if_pos (by rw [GB];omega),ob_];rfl
theorem AK {p q r:LJ} (hp:p.length<=1000000) (hq:q.length<=1000000) (hr:r.length<=1000000):NP FF [p,q,r]=some (p ++ q ++ r):=by
 unfold NP;have h1:Dm [p,q,r] FF ((0:Int),(0:Int))=some (((p.length + q.length + r.length:Nat):Int),3):=by
  show Dm [p,q,r] (99996 + 1 + 1 + 1 + 1) _=_;unfold Dm;rw [show decide ((0:Int) < (([p,q,r]:List LJ).length:Int))=true by rfl,ct_,show idx [p,q,r] 0=some p by rfl,ob_];dsimp only;rw [Ao om_ om_,Ao om_ om_,df_ om_,cf_];unfold Dm;rw [show decide ((0:Int) + 1 < (([p,q,r]:List LJ).length:Int))=true by rfl,ct_,show idx [p,q,r] (0 + 1)=some q by rfl,ob_];dsimp only;rw [Ao om_ om_,Ao om_ om_,df_ om_,cf_];unfold Dm;rw [show decide ((0:Int) + 1 + 1 < (([p,q,r]:List LJ).length:Int))=true by rfl,ct_,show idx [p,q,r] (0 + 1 + 1)=some r by rfl,ob_];dsimp only;rw [Ao om_ om_,Ao om_ om_,df_ om_,cf_];unfold Dm;rw [show decide ((0:Int) + 1 + 1 + 1 < (([p,q,r]:List LJ).length:Int))=false by rfl,cf_];congr 1;refine Prod.ext ?_ rfl;dsimp only;omega
 have h2:Dl [p,q,r] FF ((0:Int),[])=some ((3:Int),p ++ q ++ r):=by
  show Dl [p,q,r] (99996 + 1 + 1 + 1 + 1) _=_;unfold Dl app;rw [show decide ((0:Int) < (([p,q,r]:List LJ).length:Int))=true by rfl,ct_,show idx [p,q,r] 0=some p by rfl,ob_,if_pos so_,ob_];dsimp only;rw [Ao om_ om_];unfold Dl app;rw [show decide ((0:Int) + 1 < (([p,q,r]:List LJ).length:Int))=true by rfl,ct_,show idx [p,q,r] (0 + 1)=some q by rfl,ob_,if_pos so_,ob_];dsimp only;rw [Ao om_ om_];unfold Dl app;rw [show decide ((0:Int) + 1 + 1 < (([p,q,r]:List LJ).length:Int))=true by rfl,ct_,show idx [p,q,r] (0 + 1 + 1)=some r by rfl,ob_,if_pos so_,ob_];dsimp only;rw [Ao om_ om_];unfold Dl;rw [show decide ((0:Int) + 1 + 1 + 1 < (([p,q,r]:List LJ).length:Int))=false by rfl,cf_];rfl
 rw [h1,ob_];unfold m371;rw [if_pos (by dsimp only;omega),ob_,h2];rfl
theorem Ye:∀ {s:Ad} {n z},Mn s.Ends n z=Dq s n z:=by
 intro s n
 induction n with
 | zero=>intro z;rfl
 | succ n ih=>intro z;rw [Mn,Dq];simp only [ih]
theorem Sy {s:Ad} (h1:s.Ends.length<=1000) (h2:s.Inputs.length<=1000) (h3:s.Values.length<=1000) (a b c d e f):NQ FF a b c d e f s.Ends s.Valves s.Inputs s.Values s.Timers=some (vals s):=by
 unfold NQ;rw [Ye,Kx h1,ob_];dsimp only;have h4:(Ym s).length<=10000:=by unfold Ym;rw [Pp];omega
 rw [AK om_ om_ om_,ob_];rfl
theorem Gz {xs:LH} (h:xs.length<=1000):M5 FF xs=some xs:=by
 unfold M5 app;rw [if_pos so_];rfl
theorem Er {xs:LJ} (h:xs.length<=1000):m92 FF xs=some xs:=by
 unfold m92 app;rw [if_pos so_];rfl
def tup (s:Ad):LH×LJ×LJ×LJ×LH:=(s.Ends,s.Valves,s.Inputs,s.Values,s.Timers)
theorem Mq {s:Ad} (h:Smst s 1000):M7 FF s=some (tup s):=by
 obtain ⟨h1,h2,h3,h4,h5⟩:=h;unfold M7;rw [Gz h1,ob_,Er h2,ob_,Er h3,ob_,Er h4,ob_,Gz h5,ob_];rfl
theorem Tr {s:Ad} (h:Smst s 1000):NX FF s=some (tup s):=Mq h
theorem Fit.sm {c:Aa} {s:Ad} (hb:Bd_ c) (h:Fit c s):Smst s 1000:=by
 have h1:=hb.a';have h2:=hb.i;have h3:=hb.s;obtain ⟨a1,a2,a3,a4,a5⟩:=h;constructor <;> omega
def Gf (c:Aa) (p:LJ) (i:Nat) (v:LJ):LJ:=match c.Signals[i]? with
 | some x=>if x.Kind=0 then v.set i (ev 16 (p ++ v) x.On) else v
 | none=>v
def De (c:Aa) (s:Ad):Nat->LJ
 | 0=>s.Values
 | i + 1=>Gf c (pre s) i (De c s i)
def gates (c:Aa) (s:Ad):Ad:=⟨s.Ends,s.Valves,s.Inputs,De c s c.Signals.length,s.Timers⟩
theorem Cm {c:Aa} {s:Ad}:∀ {i:Nat},(De c s i).length=s.Values.length
 | 0=>rfl
 | i + 1=>by
  unfold De Gf;split
  ·split
   ·rw [HY,Cm]
   ·exact Cm
  ·exact Cm
theorem Zd {p v:LJ} {i:Nat} {b:Bool}:(p ++ v).set (p.length + i) b=p ++ v.set i b:=by
 rw [List.set_append];rw [if_neg om_];congr 2;omega
theorem AL {c:Aa} {s:Ad} (hc:Rt c) (h:Fit c s):NS FF c.Actuators (cS c:Int) c.Inputs c.Signals c.Plus c.Minus s.Ends s.Valves s.Inputs s.Values s.Timers=some (De c s c.Signals.length):=by
 have hb:=hc.bd;have h1:=hb.a';have h2:=hb.i;have h3:=hb.s;obtain ⟨s1,s2,s3,s4,s5⟩:=h.sm hb;unfold NS;rw [Sy s1 s3 s4,ob_];obtain ⟨v,he,hl⟩:=Rx (L:=Fn FF (cS c:Int) c.Signals) (mk:=λi (v:LJ×LJ)=>((i:Int),v.1,v.2)) (N:=c.Signals.length) (I:=λi v=>v=(De c s i,pre s ++ De c s i)) (λn i v hi hI=>by
  subst hI;refine ⟨_,rfl,?_⟩;have hx:c.Signals[i]?=some c.Signals[i]:=gE_ hi;have hvl:=Cm (c:=c) (s:=s) (i:=i);have hS:cS c=2 * cA c + c.Inputs.length:=rfl;rw [Fn];dsimp only;rw [Ak,dt_ hi,ct_,Aj,hx,ob_,Am om_,Ao om_ om_];show _=Fn FF (cS c:Int) c.Signals n (((i + 1:Nat):Int),Gf c (pre s) i (De c s i),pre s ++ Gf c (pre s) i (De c s i));unfold Gf;rw [hx];dsimp only;by_cases hk:c.Signals[i].Kind=0
  ·rw [if_pos hk,show (c.Signals[i].Kind == 0)=true by simpa using hk,ct_];obtain ⟨_,_,ho,_⟩:=hc.sig _ (GN hi);rw [Gy 16 FF _ _ (by rw [GB,h.pl,hvl,h.x];exact ho) uF,ob_,Aj,gE_ (by rw [hvl,h.x];exact hi),ob_,show (cS c:Int) + (i:Int)=((cS c + i:Nat):Int) by omega,Aj,gE_ (by rw [GB,h.pl,hvl,h.x];omega),ob_,ob_];dsimp only;rw [show ((cS c + i:Nat):Int).toNat=(pre s).length + i by rw [h.pl];omega,Zd];simp
  ·rw [if_neg hk,show (c.Signals[i].Kind == 0)=false by simpa using hk,cf_,ob_]) (λn v _=>by
  rw [Fn];dsimp only;rw [Ak,df_ om_,cf_]) FF 0 (s.Values,vals s) om_ uF rfl
 subst he;try dsimp only at hl
 rw [n0] at hl;rw [hl];rfl
theorem okE.che:∀ {d:Nat} {n:Int} {x:Expr},okE d n x->chE d n x=0
 | 0,_,_,h=>h.elim
 | d + 1,n,x,h=>by
  unfold chE;rw [if_pos h.1];have:∀ l:List Expr,(∀ y∈l,okE d n y)->fnz (l.map (chE d n))=0:=by
   intro l
   induction l with
   | nil=>intro _;rfl
   | cons y l ih=>
    intro hl;rw [GS];unfold fnz;rw [if_pos (hl y As).che];exact ih λz hz=>hl z (by simp [hz])
  exact this _ h.2.2
theorem BB {n:Nat} {ls:LJ} {x:Expr} (hx:Lt_ x) (ho:okE 16 n x) (hl:ls.length=n) (hn:n<=256):PX FF x ls=some (ev 16 ls x,0):=by
 subst hl;unfold PX;rw [Mv hx om_ om_ uF,ho.che,ob_,zf_,cf_,Td 16 FF _ _ ho uF];rfl
theorem BN {c:Aa} {s:Ad} (hc:Rt c) (hw:Fw c) (h:Fit c s):PY FF c s=some (tup (gates c s)):=by
 have hb:=hc.bd;have h1:=hb.a';have h2:=hb.i;have h3:=hb.s;obtain ⟨s1,s2,s3,s4,s5⟩:=h.sm hb;unfold PY;rw [Gz s1,ob_,Er s2,ob_,Er s3,ob_,Er s4,ob_,Gz s5,ob_,BO s1 s3 s4,ob_];have hS:cS c=2 * cA c + c.Inputs.length:=rfl;have hL:cL c=cS c + c.Signals.length:=rfl;obtain ⟨v,he,hl⟩:=Rx (L:=Fy FF c) (mk:=λi (v:LJ×LJ)=>((i:Int),v.1,v.2)) (N:=c.Signals.length) (I:=λi v=>v=(De c s i,pre s ++ De c s i)) (λn i v hi hI=>by
  subst hI;refine ⟨_,rfl,?_⟩;have hx:c.Signals[i]?=some c.Signals[i]:=gE_ hi;have hvl:=Cm (c:=c) (s:=s) (i:=i);rw [Fy];dsimp only;rw [Ak,dt_ hi,ct_,Aj,hx,ob_,Ha hb,Am om_];show _=Fy FF c n (((i + 1:Nat):Int),Gf c (pre s) i (De c s i),pre s ++ Gf c (pre s) i (De c s i));unfold Gf;rw [hx];dsimp only;by_cases hk:c.Signals[i].Kind=0
  ·rw [if_pos hk,show (c.Signals[i].Kind == 0)=true by simpa using hk,ct_];obtain ⟨_,_,ho,_⟩:=hc.sig _ (GN hi);rw [BB (hw.on _ (GN hi)).1 ho (by rw [GB,h.pl,hvl,h.x];rfl) om_,ob_,ob_,Aj,gE_ (by rw [hvl,h.x];exact hi),ob_,Ao om_ om_,show (cS c:Int) + (i:Int)=((cS c + i:Nat):Int) by omega,Aj,gE_ (by rw [GB,h.pl,hvl,h.x];omega),ob_,ob_];dsimp only;rw [show ((cS c + i:Nat):Int).toNat=(pre s).length + i by rw [h.pl];omega,Zd];simp
  ·rw [if_neg hk,show (c.Signals[i].Kind == 0)=false by simpa using hk,cf_,ob_]) (λn v _=>by
  rw [Fy];dsimp only;rw [Ak,df_ om_,cf_]) FF 0 (s.Values,vals s) om_ uF rfl
 subst he;try dsimp only at hl
 rw [n0] at hl;rw [show vals (⟨s.Ends,s.Valves,s.Inputs,s.Values,s.Timers⟩:Ad)=vals s from rfl,hl];rfl
def ofb (ls:LJ) (x:Ae):Bool:=(x.Kind == 1) && ev 16 ls x.Off
def chg (ls:LJ) (x:Ae) (v:Bool) (t:Int):Bool×Int:=
 if x.Kind=1 then (if ev 16 ls x.On=ofb ls x then (v,t) else (ev 16 ls x.On,t))
 else if x.Kind=2 then (if ev 16 ls x.On=false then (false,0) else if t=0 then (v,1) else (v,t)) else (v,t)
def Lq (c:Aa) (g:Ad) (i:Nat):Bool×Int:=match c.Signals[i]? with
 | some x=>chg (vals g) x (g.Values.getD i false) (g.Timers.getD i 0)
 | none=>(false,0)
def nxtS (c:Aa) (g:Ad):Ad:=⟨g.Ends,g.Valves,g.Inputs,(List.range g.Values.length).map λi=>(Lq c g i).1,(List.range g.Timers.length).map λi=>(Lq c g i).2⟩
def once (c:Aa) (s:Ad):Ad:=nxtS c (gates c s)
theorem Hl {c:Aa} {s:Ad} (h:Fit c s):Fit c (gates c s):=by
 refine ⟨h.e,h.v,h.i,Cm.trans h.x,h.t,h.ee,h.tt,?_⟩;intro i x t v hx ht hv;refine ⟨λhk=>?_,λhk=>?_⟩
 ·have hi:i < s.Values.length:=by rw [h.x];exact (GC.1 hx).1
  exact (h.k i x t _ hx ht (gE_ hi)).1 hk
 ·-- the value of a timer is not a gate's
  have key:∀ n,(De c s n)[i]?=s.Values[i]?:=by
   intro n
   induction n with
   | zero=>rfl
   | succ n ih=>
    unfold De Gf;cases hy:c.Signals[n]? with
    | none=>exact ih
    | some y=>
     dsimp only;split
     ·rename_i h0;have:n≠i:=λe=>by subst e;rw [hx] at hy;cases hy;omega
      rw [JE this];exact ih
     ·exact ih
  have hv':(De c s c.Signals.length)[i]?=some v:=hv;rw [key] at hv';exact (h.k i x t v hx ht hv').2 hk
theorem FT {ls:LJ} {x:Ae} {v:Bool} {t:Int} (h0:0<=t/\t < 3) (h:(x.Kind≠2->t=0)/\(x.Kind=2->v=(t == 2))) :
  (0<=(chg ls x v t).2/\(chg ls x v t).2 < 3)/\(x.Kind≠2->(chg ls x v t).2=0)/\(x.Kind=2->(chg ls x v t).1=((chg ls x v t).2 == 2)):=by
 unfold chg;by_cases h1:x.Kind=1
 ·rw [if_pos h1];split
  ·exact ⟨h0,h⟩
  ·exact ⟨h0,h.1,λh2=>by omega⟩
 ·rw [if_neg h1];by_cases h2:x.Kind=2
  ·rw [if_pos h2];split
   ·exact ⟨by simp,λh3=>absurd h2 h3,λ_=>rfl⟩
   ·split
    ·rename_i ht;refine ⟨by simp,λh3=>absurd h2 h3,λ_=>?_⟩;have:=h.2 h2;rw [ht] at this;exact this
    ·exact ⟨h0,h⟩
  ·rw [if_neg h2];exact ⟨h0,h⟩
theorem D2 {c:Aa} {g:Ad} (h:Fit c g):Fit c (nxtS c g):=by
 have hget:∀ (i:Nat) x,c.Signals[i]?=some x->∃ v t,g.Values[i]?=some v/\g.Timers[i]?=some t/\Lq c g i=chg (vals g) x v t:=by
  intro i x hx;have hi:=(GC.1 hx).1;have h1:i < g.Values.length:=by rw [h.x];exact hi
  have h2:i < g.Timers.length:=by rw [h.t];exact hi
  refine ⟨g.Values[i],g.Timers[i],gE_ h1,gE_ h2,?_⟩;unfold Lq;rw [hx];simp [gE_ h1,gE_ h2]
 refine ⟨h.e,h.v,h.i,by simp [nxtS,h.x],by simp [nxtS,h.t],h.ee,?_,?_⟩
 ·intro a ha;obtain ⟨i,hi,rfl⟩:=GQ.1 ha;have hi:i < c.Signals.length:=by have:=GE.1 hi;rw [h.t] at this;exact this
  obtain ⟨v,t,h1,h2,h3⟩:=hget i _ (gE_ hi);rw [h3];exact (FT (h.tt t (GX h2)) (h.k i _ t v (gE_ hi) h2 h1)).1
 ·intro i x t v hx ht hv;obtain ⟨v0,t0,h1,h2,h3⟩:=hget i x hx;have hi:=(GC.1 hx).1;have ht':((List.range g.Timers.length).map λi=>(Lq c g i).2)[i]?=some t:=ht;have hv':((List.range g.Values.length).map λi=>(Lq c g i).1)[i]?=some v:=hv;rw [GO,GM (by rw [h.t];exact hi)] at ht';rw [GO,GM (by rw [h.x];exact hi)] at hv';have ht':=Option.some.inj ht';have hv':=Option.some.inj hv';dsimp only at ht' hv';rw [h3] at ht' hv';subst ht';subst hv';exact (FT (h.tt t0 (GX h2)) (h.k i x t0 v0 hx h2 h1)).2
theorem Qh {c:Aa} {s:Ad} (h:Fit c s):Fit c (once c s):=D2 (Hl h)
def onPi (c:Aa) (g:Ad) (i:Nat) (x:Int):Prop:=∃ j sig,j < i/\c.Signals[j]?=some sig/\x=((cS c + j:Nat):Int)/\(ev 16 (vals g) sig.On && ofb (vals g) sig)=true
def onP (c:Aa) (s:Ad) (x:Int):Prop:=onPi c (gates c s) c.Signals.length x
theorem Zv {c:Aa} {g:Ad} {x:Int}:¬ onPi c g 0 x:=λ⟨j,_,h,_⟩=>by omega
theorem Zw {c:Aa} {g:Ad} {i:Nat} {x:Int} (hi:i < c.Signals.length):onPi c g (i + 1) x↔onPi c g i x\/(x=((cS c + i:Nat):Int)/\(ev 16 (vals g) c.Signals[i].On && ofb (vals g) c.Signals[i])=true):=by
 constructor
 ·rintro ⟨j,sig,h1,h2,h3,h4⟩;by_cases h:j=i
  ·subst h;rw [gE_ hi] at h2;cases h2;exact .inr ⟨h3,h4⟩
  ·exact .inl ⟨j,sig,by omega,h2,h3,h4⟩
 ·rintro (⟨j,sig,h1,h2,h3,h4⟩ | ⟨h3,h4⟩)
  ·exact ⟨j,sig,by omega,h2,h3,h4⟩
  ·exact ⟨i,_,by omega,gE_ hi,h3,h4⟩
theorem FJ {l:LH} {x y:Int} {b:Bool} {p:Int->Prop} (h:∀ x,x∈l↔p x):x∈(if b=true then l ++ [y] else l)↔p x\/(x=y/\b=true):=by
 cases b
 ·rw [if_neg As,h];simp
 ·rw [if_pos rfl,GZ,h];simp
theorem AM {c:Aa} {s:Ad} (hc:Rt c) (h:Fit c s):∃ l,NT FF c.Actuators (cS c:Int) c.Inputs c.Signals c.Plus c.Minus s.Ends s.Valves s.Inputs s.Values s.Timers=some (!sst s (once c s),l,(once c s).Values,(once c s).Timers)/\l.length<=c.Signals.length/\∀ x,x∈l↔onP c s x:=by
 have hb:=hc.bd;have h1:=hb.a';have h2:=hb.i;have h3:=hb.s;have hg:=Hl h;have hS:cS c=2 * cA c + c.Inputs.length:=rfl;obtain ⟨s1,s2,s3,s4,s5⟩:=hg.sm hb;unfold NT NE;rw [show (⟨s.Ends,s.Valves,s.Inputs,s.Values,s.Timers⟩:Ad)=s from rfl,Mq (h.sm hb),ob_,AL hc h,ob_];have h318:=Sy (s:=gates c s) s1 s3 s4 c.Actuators (cS c:Int) c.Inputs c.Signals c.Plus c.Minus;rw [show (gates c s).Ends=s.Ends from rfl,show (gates c s).Valves=s.Valves from rfl,show (gates c s).Inputs=s.Inputs from rfl,show (gates c s).Timers=s.Timers from rfl,show (gates c s).Values=De c s c.Signals.length from rfl] at h318;rw [h318,ob_,ob_];have hvl:(De c s c.Signals.length).length=c.Signals.length:=hg.x;have htl:s.Timers.length=c.Signals.length:=hg.t;obtain ⟨v,he,hl⟩:=Rx (L:=Jd FF (cS c:Int) c.Signals (vals (gates c s))) (mk:=λi (v:LJ×LH×LH)=>((i:Int),v.1,v.2.1,v.2.2)) (N:=c.Signals.length) (I:=λi v=>v.1=upd (λi=>(Lq c (gates c s) i).1) (De c s c.Signals.length) i/\v.2.1=upd (λi=>(Lq c (gates c s) i).2) s.Timers i/\v.2.2.length<=i/\∀ x,x∈v.2.2↔onPi c (gates c s) i x) (λn i v hi hI=>by
  obtain ⟨V,T,l⟩:=v;obtain ⟨rfl,rfl,hll,hmm⟩:=hI;have hx:c.Signals[i]?=some c.Signals[i]:=gE_ hi;obtain ⟨k0,k3,ho,hf⟩:=hc.sig _ (GN hi);have e4:(upd (λi=>(Lq c (gates c s) i).1) (De c s c.Signals.length) i)[i]?=some (De c s c.Signals.length)[i]:=by rw [Ff (GT i)];exact gE_ om_
  have e5:(upd (λi=>(Lq c (gates c s) i).2) s.Timers i)[i]?=some s.Timers[i]:=by rw [Ff (GT i)];exact gE_ om_
  have hci:Lq c (gates c s) i=chg (vals (gates c s)) c.Signals[i] (De c s c.Signals.length)[i] s.Timers[i]:=by
   unfold Lq;rw [hx];simp [gates,gE_ (show i < (De c s c.Signals.length).length by omega),gE_ (show i < s.Timers.length by omega)]
  have hbody:∃ b,(((bif (c.Signals[i].Kind.toNat) == 0 then NB FF (⟨(De c s c.Signals.length)[i],s.Timers[i],false⟩:Ag) (ev 16 (vals (gates c s)) c.Signals[i].On) (ofb (vals (gates c s)) c.Signals[i]) else bif (c.Signals[i].Kind.toNat) == 1 then NC FF (⟨(De c s c.Signals.length)[i],s.Timers[i],false⟩:Ag) (ev 16 (vals (gates c s)) c.Signals[i].On) (ofb (vals (gates c s)) c.Signals[i]) else bif (c.Signals[i].Kind.toNat) == 2 then ND FF (⟨(De c s c.Signals.length)[i],s.Timers[i],false⟩:Ag) (ev 16 (vals (gates c s)) c.Signals[i].On) (ofb (vals (gates c s)) c.Signals[i]) else none)))=some (⟨(Lq c (gates c s) i).1,(Lq c (gates c s) i).2,b⟩:Ag)/\b=(ev 16 (vals (gates c s)) c.Signals[i].On && ofb (vals (gates c s)) c.Signals[i]):=by
   rw [hci];have hk:c.Signals[i].Kind=0\/c.Signals[i].Kind=1\/c.Signals[i].Kind=2:=by omega
   unfold chg;rcases hk with k | k | k <;> rw [k]
   ·exact ⟨false,rfl,by unfold ofb;rw [k];simp⟩
   ·rw [show ((1:Int).toNat == 0)=false by rfl,show ((1:Int).toNat == 1)=true by rfl,cf_,ct_,if_pos rfl];unfold NC;cases ev 16 (vals (gates c s)) c.Signals[i].On <;> cases ofb (vals (gates c s)) c.Signals[i] <;> exact ⟨_,rfl,rfl⟩
   ·rw [show ((2:Int).toNat == 0)=false by rfl,show ((2:Int).toNat == 1)=false by rfl,show ((2:Int).toNat == 2)=true by rfl,cf_,cf_,ct_,if_neg om_,if_pos rfl];unfold ND;cases ev 16 (vals (gates c s)) c.Signals[i].On with
    | false=>exact ⟨_,rfl,rfl⟩
    | true=>
     rw [nt_,cf_,if_neg As];by_cases e:s.Timers[i]=0
     ·rw [if_pos e,show (s.Timers[i] == 0)=true by simpa using e];exact ⟨_,rfl,by unfold ofb;rw [k];rfl⟩
     ·rw [if_neg e,show (s.Timers[i] == 0)=false by simpa using e];exact ⟨_,rfl,by unfold ofb;rw [k];rfl⟩
  obtain ⟨b,hbody,hbe⟩:=hbody;refine ⟨(upd (λi=>(Lq c (gates c s) i).1) (De c s c.Signals.length) (i + 1),upd (λi=>(Lq c (gates c s) i).2) s.Timers (i + 1),if b=true then l ++ [((cS c + i:Nat):Int)] else l),⟨rfl,rfl,?_⟩,?_⟩
  ·dsimp only at hll hmm ⊢;refine ⟨by split <;> (try simp) <;> omega,λx=>?_⟩
   rw [FJ hmm,Zw hi,← hbe]
  ·rw [Jd];dsimp only at hll ⊢;have hr3:idx (List.range 3) c.Signals[i].Kind=some c.Signals[i].Kind.toNat:=by
    have hk:c.Signals[i].Kind=0\/c.Signals[i].Kind=1\/c.Signals[i].Kind=2:=by omega
    rcases hk with k | k | k <;> rw [k] <;> rfl
   have hoff:(bif (c.Signals[i].Kind == 1) then (NK FF (c.Signals[i].Off) (vals (gates c s))).bind λx19=>some x19 else some false)=some (ofb (vals (gates c s)) c.Signals[i]):=by
    unfold ofb;by_cases hk:c.Signals[i].Kind=1
    ·rw [show (c.Signals[i].Kind == 1)=true by simpa using hk,ct_,Gy 16 FF _ _ (by rw [hg.vl];exact hf hk) uF];rfl
    ·rw [show (c.Signals[i].Kind == 1)=false by simpa using hk];rfl
   rw [Ak,dt_ hi,ct_,Aj,hx,ob_,hr3,ob_,Aj,e4,ob_,Aj,e5,ob_,Gy 16 FF _ _ (by rw [hg.vl];exact ho) uF,ob_,hoff,ob_,hbody,ob_,ob_,ob_];dsimp only;rw [Ao om_ om_,show (cS c:Int) + (i:Int)=((cS c + i:Nat):Int) by omega,Am om_,HG,Lv om_ rfl,Lv om_ rfl];cases b with
   | true=>
    unfold app;rw [ct_,if_pos so_];rfl
   | false=>rfl) (λn v _=>by
  rw [Jd];dsimp only;rw [Ak,df_ om_,cf_]) FF 0 (De c s c.Signals.length,s.Timers,[]) om_ uF ⟨Gl.symm,Gl.symm,by simp,λx=>by simp [Zv]⟩
 obtain ⟨V,T,l⟩:=v;obtain ⟨rfl,rfl,hll,hmm⟩:=he;try dsimp only at hl hll hmm
 rw [n0] at hl;rw [hl,ob_];dsimp only;have e1:upd (λi=>(Lq c (gates c s) i).1) (De c s c.Signals.length) c.Signals.length=(once c s).Values:=by
  unfold once nxtS;dsimp only
  conv=>lhs;rw [show c.Signals.length=(De c s c.Signals.length).length from hvl.symm]
  rw [show (gates c s).Values=De c s c.Signals.length from rfl,hvl];rw [← hvl,hvl];have:=Lw (f:=λi=>(Lq c (gates c s) i).1) (l:=De c s c.Signals.length);rw [hvl] at this;exact this
 have e2:upd (λi=>(Lq c (gates c s) i).2) s.Timers c.Signals.length=(once c s).Timers:=by
  have:=Lw (f:=λi=>(Lq c (gates c s) i).2) (l:=s.Timers);rw [htl] at this;rw [this];unfold once nxtS;dsimp only;rw [show (gates c s).Timers=s.Timers from rfl,htl]
 rw [e1,e2];refine ⟨l,?_,hll,hmm⟩;have e3:(⟨s.Ends,s.Valves,s.Inputs,(once c s).Values,(once c s).Timers⟩:Ad)=once c s:=rfl;unfold tup;dsimp only;rw [e3,Nd (n:=1000) (h.sm hb) uF om_];rfl
end Go.Pn
namespace Go.Pn
open Go
theorem Ar {α:Type} {xs ys:List α} (h:xs.length + ys.length<=1073741824):app xs ys=some (xs ++ ys):=if_pos h
def stl (c:Aa):Nat->Ad->Option Ad
 | 0,_=>none
 | k + 1,s=>if sst s (once c s)=true then some s else stl c k (once c s)
structure Kp (s t:Ad):Prop where
 e:t.Ends=s.Ends
 v:t.Valves=s.Valves
 i:t.Inputs=s.Inputs
theorem Sd {c:Aa}:∀ {k:Nat} {s t:Ad},Fit c s->stl c k s=some t->Fit c t/\Kp s t/\sst t (once c t)=true
 | 0,_,_,_,h=>by cases h
 | k + 1,s,t,hf,h=>by
  unfold stl at h;split at h
  ·rename_i h1;obtain rfl:=Option.some.inj h;exact ⟨hf,⟨rfl,rfl,rfl⟩,h1⟩
  ·obtain ⟨h1,⟨h2,h3,h4⟩,h5⟩:=Sd (Qh hf) h;exact ⟨h1,⟨h2,h3,h4⟩,h5⟩
def Cs (l:LH) (p:Int->Prop):Prop:=l.Pairwise (· < ·)/\∀ x,x∈l↔p x
theorem Cs.eq {l l':LH} {p:Int->Prop} (h:Cs l p) (h':Cs l' p):l=l':=Nu h.1 h'.1 λk=>(h.2 k).trans (h'.2 k).symm
theorem Cs.iff {l:LH} {p q:Int->Prop} (h:Cs l p) (e:∀ x,p x↔q x):Cs l q:=⟨h.1,λx=>(h.2 x).trans (e x)⟩
theorem Cs.nil {p:Int->Prop} (h:∀ x,¬ p x):Cs [] p:=⟨.nil,λx=>by simp [h x]⟩
theorem Yn {zs:LH} (h:zs.Pairwise (·<=·)):Cs (Lib.compact zs) (·∈zs):=by
 have hle:∀ i j,(_:i<=j)->(hj:j < zs.length)->zs[i]'om_<=zs[j]:=λi j hij hj=>by
  by_cases e:i=j
  ·subst e;exact Int.le_refl _
  ·exact List.pairwise_iff_getElem.1 h i j om_ hj om_
 have hd:∀ i,(hi:i < zs.length)->zs.toArray[i]! = zs[i]:=λi hi=>by simp [hi]
 unfold Lib.compact Lib.compactUpTo;constructor
 ·rw [List.pairwise_map];refine (List.Pairwise.filter _ List.pairwise_lt_range).imp_of_mem λ{a b} ha hb hab=>?_;obtain ⟨ha1,_⟩:=HX.1 ha;obtain ⟨hb1,hb2⟩:=HX.1 hb;have ha1:=GE.1 ha1;have hb1:=GE.1 hb1;have hk:zs.toArray[b]! ≠ zs.toArray[b - 1]!:=(of_decide_eq_true hb2).resolve_left om_;rw [hd b hb1,hd (b - 1) om_] at hk;rw [hd a ha1,hd b hb1];have h1:=hle a (b - 1) om_ om_;have h2:=hle (b - 1) b om_ hb1;omega
 ·intro x;constructor
  ·intro hx;obtain ⟨i,hi,rfl⟩:=GQ.1 hx;have hi:=GE.1 (HX.1 hi).1;rw [hd i hi];exact GN hi
  ·intro hx;cases hf:zs.findIdx? (· == x) with
   | none=>
    rw [H1] at hf;have:=hf x hx;simp at this
   | some i=>
    obtain ⟨hi,h1,h2⟩:=HP.1 hf;have h1:zs[i]=x:=by simpa using h1
    refine GQ.2 ⟨i,HX.2 ⟨List.mem_range.2 hi,dt_ ?_⟩,by rw [hd i hi,h1]⟩;by_cases h0:i=0
    ·exact .inl h0
    ·right;rw [hd i hi,hd (i - 1) om_,h1];have:=h2 (i - 1) om_;exact λe=>this (by simp [← e])
theorem Wj {l:LH} (h:l.length<=900000000):∃ r1 r2,m148 FF l=some r1/\m74 FF r1=some r2/\r2.length<=l.length/\Cs r2 (·∈l):=by
 have hl:(isort l).length=l.length:=(isort_perm l).length_eq;refine ⟨isort l,Lib.compact (isort l),by unfold m148;rw [if_pos om_],by unfold m74;rw [if_pos om_],by rw [← hl];exact compact_le _,?_⟩;have hs:=isort_pw l;exact (Yn hs).iff λx=>(isort_perm l).mem_iff
def DP (c:Aa):Nat->Ad->Int->Prop
 | 0,_,_=>False
 | k + 1,s,x=>onP c s x\/(sst s (once c s)=false/\DP c k (once c s) x)
theorem Kt {c:Aa} (hc:Rt c):∀ (k n j:Nat) (s:Ad) (q:LH),j + k=65->k < n->Fit c s->q.length<=64 * j ->
  match stl c k s with
  | some t=>∃ l z,Fp FF c.Actuators (cS c:Int) c.Inputs c.Signals c.Plus c.Minus s.Ends s.Valves s.Inputs n ((j:Int),s.Values,s.Timers,q)=some (.ret (z,0,t.Values,t.Timers,l))/\l.length<=8000/\Cs l λx=>x∈q\/DP c k s x
  | none=>∃ q',Fp FF c.Actuators (cS c:Int) c.Inputs c.Signals c.Plus c.Minus s.Ends s.Valves s.Inputs n ((j:Int),s.Values,s.Timers,q)=some (.brk q')
 | _,0,_,_,_,_,h,_,_=>by omega
 | 0,n + 1,j,s,q,h1,h2,hf,hq=>by
  unfold stl Fp;dsimp only;rw [show decide ((j:Int)<=64)=false by simp;omega,cf_];exact ⟨_,rfl⟩
 | k + 1,n + 1,j,s,q,h1,h2,hf,hq=>by
  have hb:=hc.bd;have h3:=hb.s;obtain ⟨l,e1,hl,hmm⟩:=AM hc hf;have ho:=Qh hf;unfold stl Fp;dsimp only;rw [show decide ((j:Int)<=64)=true by simp;omega,ct_,e1,ob_];dsimp only;rw [Ar om_,ob_];cases hs:sst s (once c s) with
  | true=>
   obtain ⟨r1,r2,e2,e3,l3,hC⟩:=Wj (l:=q ++ l) so_;rw [if_pos rfl,show (!(!true))=true by rfl,ct_,e2,ob_,e3,ob_];have hse:=Lx.1 hs;rw [← hse];refine ⟨r2,(j:Int),rfl,by rw [GB] at l3;omega,hC.iff λx=>?_⟩;rw [GZ,hmm,DP,hs];simp
  | false=>
   rw [if_neg As,show (!(!false))=false by rfl,cf_,Am om_];have ih:=Kt hc k n (j + 1) (once c s) (q ++ l) om_ om_ ho (by rw [GB];omega);cases hst:stl c k (once c s) with
   | none=>rw [hst] at ih;exact ih
   | some t=>
    rw [hst] at ih;obtain ⟨l',z',e4,hl',hC⟩:=ih;refine ⟨l',z',e4,hl',hC.iff λx=>?_⟩;rw [GZ,hmm,DP,hs];simp [or_assoc]
theorem Oj {xs:LH} {k:Int} (hl:xs.length<=1000):Yd FF xs k=some (xs.any λx=>decide (x < 0) || decide (x>=k)):=by
 unfold Yd Xa;have h5:=DG (L:=Hf FF xs k) (xs:=xs) (p:=λ_ y=>M3 FF y k) (q:=λx=>decide (x < 0) || decide (x>=k)) (r:=λz=>z) (λ_ _=>rfl) om_ (λi y hy=>rfl) FF 0 om_ uF;rw [n0,HT] at h5;rw [h5];cases h6:xs.findIdx? (λx=>decide (x < 0) || decide (x>=k)) with
 | none=>
  rw [H1] at h6;have:(xs.any λx=>decide (x < 0) || decide (x>=k))=false:=HE.2 λy hy=>by simpa using h6 y hy
  rw [this];rfl
 | some j=>
  obtain ⟨hj,hj2,_⟩:=HP.1 h6;have:(xs.any λx=>decide (x < 0) || decide (x>=k))=true:=GK.2 ⟨_,GN hj,by simpa using hj2⟩;rw [this];simp
def DM (c:Aa) (s:Ad) (i:Nat):Bool:=match c.Signals[i]?,s.Timers[i]?,s.Values[i]? with
 | some x,some t,some v=>(x.Kind != 2 && t != 0) || (x.Kind == 2 && v != (t == 2))
 | _,_,_=>false
def Xl (c:Aa) (s:Ad):Int:=
 if (s.Ends.length:Int)≠c.Actuators\/(s.Valves.length:Int)≠c.Actuators\/s.Inputs.length≠c.Inputs.length\/s.Values.length≠c.Signals.length\/s.Timers.length≠c.Signals.length then 8
 else if (s.Ends.any λx=>decide (x < 0) || decide (x>=4))=true then 1
 else if (s.Timers.any λx=>decide (x < 0) || decide (x>=3))=true then 1
 else if (List.range c.Signals.length).any (DM c s)=true then 14 else 0
theorem Xc {c:Aa} {s:Ad}:(((((((s.Ends.length:Int) != c.Actuators) || ((s.Valves.length:Int) != c.Actuators)) || ((s.Inputs.length:Int) != (c.Inputs.length:Int))) || ((s.Values.length:Int) != (c.Signals.length:Int))) || ((s.Timers.length:Int) != (c.Signals.length:Int))))=decide ((s.Ends.length:Int)≠c.Actuators\/(s.Valves.length:Int)≠c.Actuators\/s.Inputs.length≠c.Inputs.length\/s.Values.length≠c.Signals.length\/s.Timers.length≠c.Signals.length):=by
 rw [G0];simp only [H7,bne_iff_ne,ne_eq,decide_eq_true_eq,Int.natCast_inj,or_assoc]
theorem BP {c:Aa} {s:Ad} (hb:Bd_ c):M4 FF c s=some (Xl c s):=by
 have h1:=hb.a6;have h2:=hb.i;have h3:=hb.s;unfold M4 Xl;rw [Xc];by_cases hl:(s.Ends.length:Int)≠c.Actuators\/(s.Valves.length:Int)≠c.Actuators\/s.Inputs.length≠c.Inputs.length\/s.Values.length≠c.Signals.length\/s.Timers.length≠c.Signals.length
 ·rw [if_pos hl,dt_ hl];rfl
 ·rw [if_neg hl,df_ hl,cf_];have hl:(s.Ends.length:Int)=c.Actuators/\(s.Valves.length:Int)=c.Actuators/\s.Inputs.length=c.Inputs.length/\s.Values.length=c.Signals.length/\s.Timers.length=c.Signals.length:=by omega
  rw [show LO FF (4:Int)=some 4 from rfl,show LO FF (3:Int)=some 3 from rfl,ob_,Oj om_,ob_,ob_,Oj om_];cases (s.Ends.any λx=>decide (x < 0) || decide (x>=4)) with
  | true=>rfl
  | false=>
   rw [cf_,ob_,ob_,if_neg As];cases (s.Timers.any λx=>decide (x < 0) || decide (x>=3)) with
   | true=>rfl
   | false=>
    rw [cf_,if_neg As];have hs:=Cq (L:=Jq c s) (N:=c.Signals.length) (Q:=DM c s) (r:=λ_=>14) (λn i hi=>by
     have e1:c.Signals[i]?=some c.Signals[i]:=gE_ hi;have e2:s.Timers[i]?=some s.Timers[i]:=gE_ om_;have e3:s.Values[i]?=some s.Values[i]:=gE_ om_;rw [Jq];unfold DM;rw [hl.2.2.2.2,Ak,dt_ hi,ct_,Aj,Aj,Aj,e1,e2,e3,ob_,ob_,ob_,Am om_];dsimp only;cases hk:(c.Signals[i].Kind == 2) with
     | true=>
      have hk':(c.Signals[i].Kind != 2)=false:=by show (!(c.Signals[i].Kind == 2))=false;rw [hk];rfl
      rw [hk'];cases (s.Values[i] != (s.Timers[i] == 2)) <;> rfl
     | false=>
      have hk':(c.Signals[i].Kind != 2)=true:=by show (!(c.Signals[i].Kind == 2))=true;rw [hk];rfl
      rw [hk'];cases (s.Timers[i] != 0) <;> rfl) (λn=>by
     rw [Jq,hl.2.2.2.2,Ak,df_ om_,cf_]) FF 0 om_ uF
    rw [n0] at hs;rcases hs with ⟨k,_,hk,hq,h⟩ | ⟨h,hn⟩
    ·rw [h,if_pos (GK.2 ⟨k,GE.2 hk,hq⟩)];rfl
    ·rw [h,if_neg ?_]
     ·rfl
     ·intro ha;obtain ⟨k,hk,h4⟩:=GK.1 ha;have:=hn k om_ (GE.1 hk);rw [this] at h4;cases h4
theorem Bm {c:Aa} {s:Ad} (hb:Bd_ c):Xl c s=0↔Fit c s:=by
 have ha:=hb.a;unfold Xl;constructor
 ·intro h;split at h
  ·contradiction
  ·rename_i h1;split at h
   ·contradiction
   ·rename_i h2;split at h
    ·contradiction
    ·rename_i h3;split at h
     ·contradiction
     ·rename_i h4;refine ⟨by omega,by omega,by omega,by omega,by omega,λa ha=>?_,λa ha=>?_,λi x t v hx ht hv=>?_⟩
      ·have:=HE.1 (by simpa using h2:(s.Ends.any λx=>decide (x < 0) || decide (x>=4))=false) a ha;simp at this;omega
      ·have:=HE.1 (by simpa using h3:(s.Timers.any λx=>decide (x < 0) || decide (x>=3))=false) a ha;simp at this;omega
      ·have hb:DM c s i=false:=by
        cases hq:DM c s i with
        | false=>rfl
        | true=>exact absurd (GK.2 ⟨i,GE.2 (GC.1 hx).1,hq⟩) h4
       unfold DM at hb;rw [hx,ht,hv] at hb;dsimp only at hb;rw [H6,JS,JS] at hb;obtain ⟨h5,h6⟩:=hb;refine ⟨λhk=>?_,λhk=>?_⟩
       ·rcases h5 with h5 | h5
        ·exact absurd (by simpa using h5) hk
        ·simpa using h5
       ·rcases h6 with h6 | h6
        ·simp [hk] at h6
        ·simpa using h6
 ·intro h;obtain ⟨a1,a2,a3,a4,a5,a6,a7,a8⟩:=h;rw [if_neg om_,if_neg,if_neg,if_neg]
  ·intro hx;obtain ⟨i,hi,hq⟩:=GK.1 hx;have hi:=GE.1 hi;have e1:c.Signals[i]?=some c.Signals[i]:=gE_ hi;have e2:s.Timers[i]?=some s.Timers[i]:=gE_ om_;have e3:s.Values[i]?=some s.Values[i]:=gE_ om_;unfold DM at hq;rw [e1,e2,e3] at hq;dsimp only at hq;obtain ⟨k1,k2⟩:=a8 i _ _ _ e1 e2 e3;by_cases hk:c.Signals[i].Kind=2
   ·rw [k2 hk] at hq;simp [hk] at hq
   ·rw [k1 hk] at hq;simp [hk] at hq
  ·intro hx;obtain ⟨a,ha,hq⟩:=GK.1 hx;have:=a7 a ha;simp at hq;omega
  ·intro hx;obtain ⟨a,ha,hq⟩:=GK.1 hx;have:=a6 a ha;simp at hq;omega
theorem Lm {c:Aa} {s:Ad} (hc:Rc c):m96 FF c s=some (Xl c s):=by
 unfold m96;rw [hc.ck,ob_,zf_,cf_,BP hc.rt.bd];rfl
abbrev z0:Ad:=⟨[],[],[],[],[]⟩
theorem BA {c:Aa} {s:Ad} (hc:Rc c) (hf:Fit c s):match stl c 65 s with
  | some t=>∃ l,NV FF c s=some (t,0,l)/\l.length<=8000/\Cs l (DP c 65 s)
  | none=>NV FF c s=some (z0,21,[]):=by
 have hb:=hc.rt.bd;have h1:=hb.a';have h2:=hb.i;have h3:=hb.s;have hS:cS c=2 * cA c + c.Inputs.length:=rfl;have h:=Kt hc.rt 65 FF 0 s [] om_ uF hf As;rw [n0] at h;unfold NV M9;rw [Lm hc,(Bm hb).2 hf,ob_,zf_,cf_,Mq (hf.sm hb),ob_,ob_];dsimp only;rw [zf_,cf_,hb.wa,Ao om_ om_,show ((2 * cA c:Nat):Int) + (c.Inputs.length:Int)=(cS c:Int) by omega];unfold NU tup;dsimp only;cases hs:stl c 65 s with
 | none=>rw [hs] at h;obtain ⟨q,h⟩:=h;rw [h];rfl
 | some t=>
  rw [hs] at h;obtain ⟨l,z,h,hl,hC⟩:=h;obtain ⟨_,⟨k1,k2,k3⟩,_⟩:=Sd hf hs;rw [h];refine ⟨l,?_,hl,hC.iff λx=>by simp⟩;rw [ob_,ob_];dsimp only;rw [zf_,cf_,← k1,← k2,← k3]
def lin (s:Ad) (k:Int):Bool:=(vals s).getD k.toNat false
def vlv (c:Aa) (s:Ad) (i:Nat):Bool:=if lin s (c.Plus.getD i 0)=lin s (c.Minus.getD i 0) then s.Valves.getD i false else lin s (c.Plus.getD i 0)
def Ns (v:Bool) (e:Int):Int:=if v=true then (if e=2\/e=1 then e else 1) else (if e=0\/e=3 then e else 3)
def rnd (c:Aa) (s:Ad):Ad:=⟨(List.range s.Ends.length).map λi=>Ns (vlv c s i) (s.Ends.getD i 0),(List.range s.Valves.length).map (vlv c s),s.Inputs,s.Values,s.Timers⟩
theorem Vc {c:Aa} {s:Ad} (h:Fit c s):Fit c (rnd c s):=by
 refine ⟨by simp [rnd,h.e],by simp [rnd,h.v],h.i,h.x,h.t,?_,h.tt,h.k⟩;intro a ha;obtain ⟨i,hi,rfl⟩:=GQ.1 ha;have hi:=GE.1 hi;have:=h.ee s.Ends[i] (GN hi);rw [F7,gE_ hi,JH];generalize s.Ends[i]=e at this;unfold Ns;split <;> split <;> omega
theorem Tj {c:Aa} {s:Ad} (hb:Bd_ c) (h:Fit c s) {k:Nat} (hk:k < cL c):NW FF c s (k:Int)=some (lin s (k:Int)):=by
 have h1:=hb.a';have h2:=hb.i;have h3:=hb.s;have hS:cS c=2 * cA c + c.Inputs.length:=rfl;have hL:cL c=cS c + c.Signals.length:=rfl;have hel:(Ym s).length=2 * cA c:=by unfold Ym;rw [Pp,h.e]
 unfold NW lin;rw [hb.wa,Ak,HG,F7];by_cases h4:k < 2 * cA c
 ·rw [dt_ h4,ct_];have hdiv:(k:Int).tdiv 2=((k / 2:Nat):Int):=by
   rw [Int.tdiv_eq_ediv_of_nonneg om_];omega
  have hmod:(k:Int).tmod 2=((k % 2:Nat):Int):=by
   rw [Int.tmod_eq_emod_of_nonneg om_];omega
  have hv:(vals s)[k]?=(Ym s)[k]?:=by
   unfold vals pre;rw [GU,GJ om_]
  have hk2:k / 2 < s.Ends.length:=by rw [h.e];omega
  have he:s.Ends[k / 2]?=some s.Ends[k / 2]:=gE_ hk2;rw [hdiv,hmod,Ao om_ om_,Aj,he,ob_,hv];unfold Ym;rw [CP,he];have hm2:k % 2=0\/k % 2=1:=by omega
  rcases hm2 with e | e <;> rw [e] <;> rfl
 ·rw [df_ h4,cf_,Ao om_ om_,show (k:Int) - ((2 * cA c:Nat):Int)=((k - 2 * cA c:Nat):Int) by omega,Ak];by_cases h5:k - 2 * cA c < s.Inputs.length
  ·rw [dt_ h5,ct_,Aj,gE_ h5,ob_];unfold vals pre;rw [GU,F9 om_,hel,GJ h5,gE_ h5];rfl
  ·rw [df_ h5,cf_,Ao (by have:=h.i;omega) om_,show ((k - 2 * cA c:Nat):Int) - (s.Inputs.length:Int)=((k - 2 * cA c - s.Inputs.length:Nat):Int) by omega,Aj];have h6:k - 2 * cA c - s.Inputs.length < s.Values.length:=by have:=h.i;have:=h.x;omega
   rw [gE_ h6,ob_];unfold vals pre;rw [GU,F9 om_,hel,F9 om_,gE_ h6];rfl
end Go.Pn
namespace Go.Pn
open Go
theorem plus_at {c:Aa} (hc:Rt c) {i:Nat} (hi:i < cA c):∃ p m:Nat,c.Plus[i]?=some (p:Int)/\c.Minus[i]?=some (m:Int)/\p < cL c/\m < cL c/\c.Plus.getD i 0=(p:Int)/\c.Minus.getD i 0=(m:Int):=by
 have h1:i < c.Plus.length:=by rw [hc.plus];exact hi
 have h2:i < c.Minus.length:=by rw [hc.minus];exact hi
 have h3:=hc.lines c.Plus[i] (G1 _ (GN h1));have h4:=hc.lines c.Minus[i] (GY _ (GN h2));have e1:((c.Plus[i].toNat:Nat):Int)=c.Plus[i]:=by omega
 have e2:((c.Minus[i].toNat:Nat):Int)=c.Minus[i]:=by omega
 refine ⟨c.Plus[i].toNat,c.Minus[i].toNat,?_,?_,by omega,by omega,?_,?_⟩
 ·rw [gE_ h1,e1]
 ·rw [gE_ h2,e2]
 ·rw [F7,gE_ h1,e1];rfl
 ·rw [F7,gE_ h2,e2];rfl
theorem endn_eq (v:Bool) (e:Int):(bif (e != (bif v then ((2:Int),(1:Int)) else ((0:Int),(3:Int))).1) && (e != (bif v then ((2:Int),(1:Int)) else ((0:Int),(3:Int))).2) then (bif v then ((2:Int),(1:Int)) else ((0:Int),(3:Int))).2 else e)=Ns v e:=by
 unfold Ns;cases v with
 | true=>
  simp only [ct_,if_true];by_cases h:e=2
  ·simp [h]
  ·by_cases h1:e=1
   ·simp [h1]
   ·rw [show (e != 2)=true by simpa using h,show (e != 1)=true by simpa using h1,if_neg om_];rfl
 | false=>
  simp only [cf_];by_cases h:e=0
  ·simp [h]
  ·by_cases h1:e=3
   ·simp [h1]
   ·rw [show (e != 0)=true by simpa using h,show (e != 3)=true by simpa using h1];simp [h,h1]
def rnPi (c:Aa) (t:Ad) (i:Nat) (x:Int):Prop:=∃ j:Nat,j < i/\x=((cL c + j:Nat):Int)/\(lin t (c.Plus.getD j 0) && lin t (c.Minus.getD j 0))=true
def rnP (c:Aa) (t:Ad) (x:Int):Prop:=rnPi c t (cA c) x
theorem Zj {c:Aa} {t:Ad} {i:Nat} {x:Int}:rnPi c t (i + 1) x↔rnPi c t i x\/(x=((cL c + i:Nat):Int)/\(lin t (c.Plus.getD i 0) && lin t (c.Minus.getD i 0))=true):=by
 constructor
 ·rintro ⟨j,h1,h2,h3⟩;by_cases h:j=i
  ·subst h;exact .inr ⟨h2,h3⟩
  ·exact .inl ⟨j,by omega,h2,h3⟩
 ·rintro (⟨j,h1,h2,h3⟩ | ⟨h2,h3⟩)
  ·exact ⟨j,by omega,h2,h3⟩
  ·exact ⟨i,by omega,h2,h3⟩
theorem Zi {c:Aa} {t:Ad} {x:Int}:¬ rnPi c t 0 x:=λ⟨_,h,_⟩=>by omega
theorem Tt {c:Aa} {s:Ad} (hc:Rc c) (hf:Fit c s):match stl c 65 s with
  | some t=>∃ l,NZ FF c s=some (rnd c t,0,l)/\l.length<=9000/\∀ x,x∈l↔DP c 65 s x\/rnP c t x
  | none=>NZ FF c s=some (z0,21,[]):=by
 have hb:=hc.rt.bd;have h1:=hb.a';have h2:=hb.i;have h3:=hb.s;have hS:cS c=2 * cA c + c.Inputs.length:=rfl;have hL:cL c=cS c + c.Signals.length:=rfl;have h:=BA hc hf;unfold NZ;cases hs:stl c 65 s with
 | none=>rw [hs] at h;rw [h];rfl
 | some t=>
  rw [hs] at h;obtain ⟨l0,h,hl0,hC0⟩:=h;obtain ⟨ht,_,_⟩:=Sd hf hs;rw [h,ob_];dsimp only;rw [zf_,cf_,Tr (ht.sm hb),ob_];have hel:=ht.e;have hvl:=ht.v;obtain ⟨v,hI,hl⟩:=Rx (L:=Fx FF c (t,0,l0)) (mk:=λi (v:LH×LH×LJ)=>((i:Int),v.1,v.2.1,v.2.2)) (N:=cA c) (I:=λi v=>(v.1.length<=8000 + i/\∀ x,x∈v.1↔DP c 65 s x\/rnPi c t i x)/\v.2.1=upd (λi=>Ns (vlv c t i) (t.Ends.getD i 0)) t.Ends i/\v.2.2=upd (vlv c t) t.Valves i) (λn i v hi hI=>by
   obtain ⟨l,E,V⟩:=v;obtain ⟨⟨hll,hmm⟩,rfl,rfl⟩:=hI;obtain ⟨p,m,e1,e2,hp,hm,g1,g2⟩:=plus_at hc.rt hi;have e4:(upd (λi=>Ns (vlv c t i) (t.Ends.getD i 0)) t.Ends i)[i]?=some t.Ends[i]:=by rw [Ff (GT i)];exact gE_ om_
   have e5:(upd (vlv c t) t.Valves i)[i]?=some t.Valves[i]:=by rw [Ff (GT i)];exact gE_ om_
   have e6:t.Ends.getD i 0=t.Ends[i]:=by rw [F7,gE_ om_];rfl
   have e7:t.Valves.getD i false=t.Valves[i]:=by rw [F7,gE_ om_];rfl
   have hsetE:∀ y,y=Ns (vlv c t i) (t.Ends.getD i 0)->(upd (λi=>Ns (vlv c t i) (t.Ends.getD i 0)) t.Ends i).set i y=upd (λi=>Ns (vlv c t i) (t.Ends.getD i 0)) t.Ends (i + 1):=λy hy=>Lv om_ hy;have hsetV:∀ y,y=vlv c t i->(upd (vlv c t) t.Valves i).set i y=upd (vlv c t) t.Valves (i + 1):=λy hy=>Lv om_ hy;have hkeep:vlv c t i=t.Valves[i]->upd (vlv c t) t.Valves i=upd (vlv c t) t.Valves (i + 1):=λhy=>by
    rw [← hsetV t.Valves[i] hy.symm];refine JT λj=>?_;by_cases hj:j=i
    ·subst hj;rw [H8 (by rw [Qc om_];omega),e5]
    ·rw [JE om_]
   have hkeepE:Ns (vlv c t i) (t.Ends.getD i 0)=t.Ends[i]->upd (λi=>Ns (vlv c t i) (t.Ends.getD i 0)) t.Ends i=upd (λi=>Ns (vlv c t i) (t.Ends.getD i 0)) t.Ends (i + 1):=λhy=>by
    rw [← hsetE t.Ends[i] hy.symm];refine JT λj=>?_;by_cases hj:j=i
    ·subst hj;rw [H8 (by rw [Qc om_];omega),e4]
    ·rw [JE om_]
   have hvi:vlv c t i=if lin t (p:Int)=lin t (m:Int) then t.Valves[i] else lin t (p:Int):=by
    unfold vlv;rw [g1,g2,e7]
   -- the valve
   have hV:∀ (k:(LH×LJ)->Option (Int×LH×LH×LJ)),((bif (lin t (p:Int) && lin t (m:Int)) then (app l ([(wr ((wr ((wr ((wr ((2:Int) * (c).Actuators)) + (((c).Inputs).length:Int))) + (((c).Signals).length:Int))) + (i:Int)))]:LH)).bind λx16=>some (x16,(upd (vlv c t) t.Valves i)) else (bif (lin t (p:Int) || lin t (m:Int)) then (idx (upd (vlv c t) t.Valves i) (i:Int)).bind λx19=>some ((upd (vlv c t) t.Valves i).set ((i:Int)).toNat (lin t (p:Int))) else some (upd (vlv c t) t.Valves i)).bind λz18=>some (l,z18)).bind k)=k ((if (lin t (p:Int) && lin t (m:Int))=true then l ++ [((cL c + i:Nat):Int)] else l),upd (vlv c t) t.Valves (i + 1)):=by
    intro k;have w1:wr (((2 * cA c:Nat):Int) + (c.Inputs.length:Int))=((cS c:Nat):Int):=by rw [Ao om_ om_];omega
    have w2:wr (((cS c:Nat):Int) + (c.Signals.length:Int))=((cL c:Nat):Int):=by rw [Ao om_ om_];omega
    have w3:wr (((cL c:Nat):Int) + (i:Int))=((cL c + i:Nat):Int):=by rw [Ao om_ om_];omega
    rw [hb.wa,w1,w2,w3,Aj,e5,HG];dsimp only at hll;cases hP:lin t (p:Int) with
    | true=>
     cases hM:lin t (m:Int) with
     | true=>
      unfold app;rw [Bool.and_self,ct_,if_pos so_,hkeep (by rw [hvi,hP,hM];simp)];rfl
     | false=>
      rw [hsetV true (by rw [hvi,hP,hM];simp)];rfl
    | false=>
     cases hM:lin t (m:Int) with
     | true=>
      rw [hsetV false (by rw [hvi,hP,hM];simp)];rfl
     | false=>
      rw [hkeep (by rw [hvi,hP,hM];simp)];rfl
   refine ⟨((if (lin t (p:Int) && lin t (m:Int))=true then l ++ [((cL c + i:Nat):Int)] else l),upd (λi=>Ns (vlv c t i) (t.Ends.getD i 0)) t.Ends (i + 1),upd (vlv c t) t.Valves (i + 1)),⟨?_,rfl,rfl⟩,?_⟩
   ·dsimp only at hll hmm ⊢;refine ⟨by split <;> (try simp) <;> omega,λx=>?_⟩
    rw [FJ hmm,Zj,g1,g2,or_assoc]
   ·rw [Fx];dsimp only;rw [hb.a,Ak,dt_ hi,ct_,Aj,e1,ob_,Tj hb ht hp,ob_,Aj,e2,ob_,Tj hb ht hm,ob_,← hb.a,hV];dsimp only;have e8:(upd (vlv c t) t.Valves (i + 1))[i]?=some (vlv c t i):=by
     rw [← hsetV _ rfl,H8 (by rw [Qc om_];omega)]
    rw [Aj,e4,ob_,Aj,e8,ob_,cs_,ob_,ob_,Am om_];have hE:((bif (t.Ends[i] != (bif vlv c t i then ((2:Int),(1:Int)) else ((0:Int),(3:Int))).1) && (t.Ends[i] != (bif vlv c t i then ((2:Int),(1:Int)) else ((0:Int),(3:Int))).2) then some ((upd (λi=>Ns (vlv c t i) (t.Ends.getD i 0)) t.Ends i).set ((i:Int)).toNat (bif vlv c t i then ((2:Int),(1:Int)) else ((0:Int),(3:Int))).2) else some (upd (λi=>Ns (vlv c t i) (t.Ends.getD i 0)) t.Ends i)))=some (upd (λi=>Ns (vlv c t i) (t.Ends.getD i 0)) t.Ends (i + 1)):=by
     have hq:=endn_eq (vlv c t i) t.Ends[i];rw [HG];cases hcnd:(t.Ends[i] != (bif vlv c t i then ((2:Int),(1:Int)) else ((0:Int),(3:Int))).1) && (t.Ends[i] != (bif vlv c t i then ((2:Int),(1:Int)) else ((0:Int),(3:Int))).2) with
     | true=>
      rw [hcnd,ct_] at hq;rw [ct_,hsetE _ (by rw [e6,← hq])]
     | false=>
      rw [hcnd,cf_] at hq;rw [cf_,hkeepE (by rw [e6,← hq])]
    rw [hE,ob_]) (λn v _=>by
   rw [Fx];dsimp only;rw [hb.a,Ak,df_ om_,cf_]) FF 0 (l0,t.Ends,t.Valves) om_ uF ⟨⟨by dsimp only;omega,λx=>by simp [hC0.2 x,Zi]⟩,Gl.symm,Gl.symm⟩
  obtain ⟨l,E,V⟩:=v;obtain ⟨⟨hll,hmm⟩,rfl,rfl⟩:=hI;try dsimp only at hl hll hmm
  rw [n0] at hl;refine ⟨l,?_,by omega,hmm⟩;show ((Fx FF c (t,0,l0) FF ((0:Int),l0,t.Ends,t.Valves)).bind _)=_;rw [hl,ob_];unfold rnd tup;dsimp only;have e1:=Lw (f:=λi=>Ns (vlv c t i) (t.Ends.getD i 0)) (l:=t.Ends);have e2:=Lw (f:=vlv c t) (l:=t.Valves);rw [hel] at e1;rw [hvl] at e2;rw [e1,e2,hel,hvl]
def rst (c:Aa):Nat->Ad->Option Ad
 | 0,_=>none
 | k + 1,s=>match stl c 65 s with
  | none=>none
  | some t=>if sst (rnd c t) s=true then some s else rst c k (rnd c t)
def Qt (c:Aa) (s:Ad):Prop:=∃ t,stl c 65 s=some t/\sst (rnd c t) s=true
def rstP (c:Aa):Nat->Ad->Int->Prop
 | 0,_,_=>False
 | k + 1,s,x=>match stl c 65 s with
  | none=>False
  | some t=>(DP c 65 s x\/rnP c t x)\/(sst (rnd c t) s=false/\rstP c k (rnd c t) x)
theorem BM {a b:LH} (h:a.length + b.length<=400000000):∃ l,RF FF a b=some l/\l.length<=a.length + b.length/\Cs l λx=>x∈a\/x∈b:=by
 unfold RF;obtain ⟨r1,r2,e2,e3,l3,hC⟩:=Wj (l:=a ++ b) so_;rw [Nc om_ om_,ob_,e2,ob_,e3];exact ⟨r2,rfl,by rw [GB] at l3;omega,hC.iff λx=>GZ⟩
theorem Eh {c:Aa} (hc:Rc c):∀ (k n j:Nat) (s:Ad) (q:LH),j + k=65->k < n->Fit c s->q.length<=9000 * j ->
  match rst c k s with
  | some t=>∃ l,Bw FF c n ((j:Int),s,q)=some (.ret (t,0,l))/\l.length<=600000/\Cs l λx=>x∈q\/rstP c k s x
  | none=>Bw FF c n ((j:Int),s,q)=some (.ret (z0,21,[]))\/∃ q',Bw FF c n ((j:Int),s,q)=some (.brk q')
 | _,0,_,_,_,_,h,_,_=>by omega
 | 0,n + 1,j,s,q,h1,h2,hf,hq=>by
  unfold rst Bw;dsimp only;rw [show decide ((j:Int) < 65)=false by simp;omega,cf_];exact .inr ⟨_,rfl⟩
 | k + 1,n + 1,j,s,q,h1,h2,hf,hq=>by
  have hb:=hc.rt.bd;have h:=Tt hc hf;unfold rst Bw;dsimp only;rw [show decide ((j:Int) < 65)=true by simp;omega,ct_];cases hs:stl c 65 s with
  | none=>rw [hs] at h;rw [h];exact .inl rfl
  | some t=>
   rw [hs] at h;obtain ⟨l,h,hl,hmm⟩:=h;obtain ⟨ht,_,_⟩:=Sd hf hs;have hr:=Vc ht;obtain ⟨l2,e2,hl2,hC2⟩:=BM (a:=q) (b:=l) om_;rw [h,ob_];dsimp only;rw [zf_,cf_,e2,ob_,Nd (n:=1000) (hr.sm hb) uF om_,ob_];cases hq2:sst (rnd c t) s with
   | true=>
    rw [if_pos rfl,ct_,Lx.1 hq2];refine ⟨l2,rfl,by omega,hC2.iff λx=>?_⟩;rw [hmm,rstP,hs];dsimp only;rw [hq2];simp
   | false=>
    rw [if_neg As,cf_,Am om_];have ih:=Eh hc k n (j + 1) (rnd c t) l2 om_ om_ hr om_;cases hst:rst c k (rnd c t) with
    | none=>rw [hst] at ih;exact ih
    | some u=>
     rw [hst] at ih;obtain ⟨l',e4,hl',hC⟩:=ih;refine ⟨l',e4,hl',hC.iff λx=>?_⟩;rw [hC2.2];show (x∈q\/x∈l)\/rstP c k (rnd c t) x↔_;rw [hmm,rstP,hs];dsimp only;rw [hq2];simp [or_assoc]
theorem B9 {c:Aa} {s:Ad} (hc:Rc c) (hf:Fit c s):match rst c 65 s with
  | some t=>∃ l,RH FF c s=some (t,0,l)/\l.length<=600000/\Cs l (rstP c 65 s)
  | none=>RH FF c s=some (z0,21,[]):=by
 have h:=Eh hc 65 FF 0 s [] om_ uF hf As;rw [n0] at h;unfold RH;rw [Lm hc,(Bm hc.rt.bd).2 hf,ob_,zf_,cf_];cases hs:rst c 65 s with
 | none=>
  rw [hs] at h;rcases h with h | ⟨q,h⟩ <;> rw [h] <;> rfl
 | some t=>rw [hs] at h;obtain ⟨l,h,hl,hC⟩:=h;rw [h];exact ⟨l,rfl,hl,hC.iff λx=>by simp⟩
theorem Ue {c:Aa}:∀ {n z},Ce FF c n z=(Bw FF c n z).map λo=>match o with | .brk q=>.brk q | .ret r=>.ret (r.1,r.2.2,r.2.1):=by
 intro n
 induction n with
 | zero=>intro z;rfl
 | succ n ih=>
  intro z;rw [Ce,Bw];cases decide (z.1 < 65) with
  | false=>rfl
  | true=>
   rw [ct_,ct_];cases NZ FF c z.2.1 with
   | none=>rfl
   | some x=>
    rw [ob_,ob_];cases x.2.1 != 0 with
    | true=>rfl
    | false=>
     rw [cf_,cf_];cases RF FF z.2.2 x.2.2 with
     | none=>rfl
     | some y=>
      rw [ob_,ob_];cases NN FF x.1 z.2.1 with
      | none=>rfl
      | some b=>
       rw [ob_,ob_];cases b with
       | true=>rfl
       | false=>rw [cf_,cf_];exact ih
theorem Vv {c:Aa} {s:Ad} (hc:Rc c) (hf:Fit c s):match rst c 65 s with
  | some t=>∃ l,Pg FF c s=some (t,l,0)/\l.length<=600000/\Cs l (rstP c 65 s)
  | none=>Pg FF c s=some (z0,[],21):=by
 have h:=Eh hc 65 FF 0 s [] om_ uF hf As;rw [n0] at h;unfold Pg;rw [Lm hc,(Bm hc.rt.bd).2 hf,ob_,zf_,cf_,Ue];cases hs:rst c 65 s with
 | none=>
  rw [hs] at h;rcases h with h | ⟨q,h⟩ <;> rw [h] <;> rfl
 | some t=>rw [hs] at h;obtain ⟨l,h,hl,hC⟩:=h;rw [h];exact ⟨l,rfl,hl,hC.iff λx=>by simp⟩
def qtE (c:Aa) (s:Ad):Int:=if Xl c s=0 then (match stl c 65 s with | some t=>if sst (rnd c t) s=true then 0 else 14 | none=>14) else Xl c s
theorem Ud {c:Aa} {s:Ad} (hc:Rc c):N2 FF c s=some (qtE c s):=by
 unfold N2 N1 qtE;rw [Lm hc,ob_];by_cases h0:Xl c s=0
 ·have hf:=(Bm hc.rt.bd).1 h0;have h:=Tt hc hf;rw [if_pos h0,h0,zf_,cf_];cases hs:stl c 65 s with
  | none=>rw [hs] at h;rw [h];rfl
  | some t=>
   rw [hs] at h;obtain ⟨l,h,hl⟩:=h;obtain ⟨ht,_,_⟩:=Sd hf hs;rw [h,ob_];dsimp only;rw [show ((0:Int) == 0)=true by rfl,ct_,Nd (n:=1000) ((Vc ht).sm hc.rt.bd) uF om_];cases sst (rnd c t) s <;> rfl
 ·rw [if_neg h0,show (Xl c s != 0)=true by simpa using h0,ct_,ob_];dsimp only;rw [show (Xl c s != 0)=true by simpa using h0,ct_]
theorem Wq {c:Aa} {s:Ad} (hb:Bd_ c):qtE c s=0↔Fit c s/\Qt c s:=by
 unfold qtE Qt;rw [← Bm hb];by_cases h0:Xl c s=0
 ·rw [if_pos h0];cases stl c 65 s with
  | none=>simp
  | some t=>simp [h0]
 ·rw [if_neg h0];simp [h0]
def act (s:Ad) (x:Af):Option Ad:=
 if x.Kind=0 then (match idx s.Ends x.Index with
  | some e=>if e=1 then some { s with Ends:=s.Ends.set x.Index.toNat 2 } else if e=3 then some { s with Ends:=s.Ends.set x.Index.toNat 0 } else none
  | none=>none)
 else if x.Kind=1 then (match idx s.Timers x.Index with
  | some t=>if t=1 then some { s with Values:=s.Values.set x.Index.toNat true,Timers:=s.Timers.set x.Index.toNat 2 } else none
  | none=>none)
 else (match idx s.Inputs x.Index with
  | some v=>if v=x.Value then none else some { s with Inputs:=s.Inputs.set x.Index.toNat x.Value }
  | none=>none)
def aft (c:Aa) (s:Ad) (x:Af):Ad×Int:=
 if x.Kind < 0\/3<=x.Kind then (z0,1) else match act s x with
  | none=>(z0,14)
  | some s'=>match rst c 65 s' with
   | none=>(z0,21)
   | some t=>(t,0)
theorem Vi {α:Type} {l:List α} {i:Nat} {y a:α} (h:a∈l.set i y):a∈l\/a=y:=by
 rcases List.mem_or_eq_of_mem_set h with h | h
 ·exact .inl h
 ·exact .inr h
theorem Ru {c:Aa} {s s':Ad} {x:Af} (h:Fit c s) (ha:act s x=some s'):Fit c s':=by
 unfold act at ha;split at ha
 ·split at ha
  ·rename_i e he;split at ha
   ·obtain rfl:=Option.some.inj ha;exact ⟨(HY ..).trans h.e,h.v,h.i,h.x,h.t,λa ha=>(Vi ha).elim (h.ee a) (λe=>by omega),h.tt,h.k⟩
   ·split at ha
    ·obtain rfl:=Option.some.inj ha;exact ⟨(HY ..).trans h.e,h.v,h.i,h.x,h.t,λa ha=>(Vi ha).elim (h.ee a) (λe=>by omega),h.tt,h.k⟩
    ·cases ha
  ·cases ha
 ·split at ha
  ·split at ha
   ·rename_i t ht;split at ha
    ·rename_i h1;obtain rfl:=Option.some.inj ha;obtain ⟨i0,i1,i2⟩:=Ba ht;refine ⟨h.e,h.v,h.i,(HY ..).trans h.x,(HY ..).trans h.t,h.ee,λa ha=>(Vi ha).elim (h.tt a) (λe=>by omega),?_⟩;intro i y t' v' hy ht' hv';dsimp only at ht' hv';by_cases e:i=x.Index.toNat
     ·subst e;rw [H8 om_] at ht';rw [H8 (by have:=h.x;have:=h.t;omega)] at hv';obtain rfl:=Option.some.inj ht';obtain rfl:=Option.some.inj hv';refine ⟨λhk=>?_,λ_=>rfl⟩;have hlt:x.Index.toNat < s.Values.length:=by rw [h.x,← h.t];exact (GC.1 i2).1
      have hvo:s.Values[x.Index.toNat]?=some s.Values[x.Index.toNat]:=gE_ hlt;have:=(h.k _ y t _ hy i2 hvo).1 hk;omega
     ·rw [JE om_] at ht' hv';exact h.k i y t' v' hy ht' hv'
    ·cases ha
   ·cases ha
  ·split at ha
   ·split at ha
    ·cases ha
    ·obtain rfl:=Option.some.inj ha;exact ⟨h.e,h.v,(HY ..).trans h.i,h.x,h.t,h.ee,h.tt,h.k⟩
   ·cases ha
def afP (c:Aa) (s:Ad) (x:Af) (y:Int):Prop:=(aft c s x).2=0/\∃ s',act s x=some s'/\rstP c 65 s' y
theorem B8 {c:Aa} {s:Ad} {x:Af} (hc:Rc c) (hf:Fit c s):∃ l,RQ FF c s x=some ((aft c s x).1,l,(aft c s x).2)/\l.length<=600000/\Cs l (afP c s x):=by
 have hb:=hc.rt.bd;unfold RQ afP aft;rw [Tr (hf.sm hb),ob_];by_cases hk:x.Kind < 0\/3<=x.Kind
 ·rw [if_pos hk,show (decide (x.Kind < 0) || decide (x.Kind>=(3:Int)))=true by simpa using hk];exact ⟨_,rfl,by simp,Cs.nil λx h=>by cases h.1⟩
 ·rw [if_neg hk,show (decide (x.Kind < 0) || decide (x.Kind>=(3:Int)))=false by simp;omega,cf_]
  -- what the act gives
  have key:∃ r:Bool×LH×LJ×LJ×LJ×LH,((idx (List.range 3) x.Kind).bind λx6=>(bif x6 == 0 then RN FF x (tup s).1 (tup s).2.1 (tup s).2.2.1 (tup s).2.2.2.1 (tup s).2.2.2.2 else bif x6 == 1 then RO FF x (tup s).1 (tup s).2.1 (tup s).2.2.1 (tup s).2.2.2.1 (tup s).2.2.2.2 else bif x6 == 2 then RP FF x (tup s).1 (tup s).2.1 (tup s).2.2.1 (tup s).2.2.2.1 (tup s).2.2.2.2 else none))=some r /\
    (match act s x with | none=>r.1=false | some s'=>r=(true,s'.Ends,s'.Valves,s'.Inputs,s'.Values,s'.Timers)):=by
   unfold tup act;dsimp only;have hkk:x.Kind=0\/x.Kind=1\/x.Kind=2:=by omega
   rcases hkk with k | k | k <;> rw [k]
   ·rw [show idx (List.range 3) (0:Int)=some 0 by rfl,ob_,show ((0:Nat) == 0)=true by rfl,ct_,if_pos rfl];unfold RN;by_cases hr:x.Index < 0\/(s.Ends.length:Int)<=x.Index
    ·rw [show (decide (x.Index < 0) || decide (x.Index>=(s.Ends.length:Int)))=true by simpa using hr,ct_];have:idx s.Ends x.Index=none:=by
      cases he:idx s.Ends x.Index with
      | none=>rfl
      | some e=>have:=Ba he;omega
     rw [this];exact ⟨_,rfl,rfl⟩
    ·rw [show (decide (x.Index < 0) || decide (x.Index>=(s.Ends.length:Int)))=false by simp;omega,cf_];obtain ⟨e,he,_⟩:=Ph (xs:=s.Ends) (i:=x.Index) om_ om_;rw [he,ob_];dsimp only;by_cases h1:e=1
     ·rw [if_pos h1,show (e == 1)=true by simpa using h1,ct_];exact ⟨_,rfl,rfl⟩
     ·rw [if_neg h1,show (e == 1)=false by simpa using h1,cf_];by_cases h3:e=3
      ·rw [if_pos h3,show (e == 3)=true by simpa using h3,ct_];exact ⟨_,rfl,rfl⟩
      ·rw [if_neg h3,show (e == 3)=false by simpa using h3,cf_];exact ⟨_,rfl,rfl⟩
   ·rw [show idx (List.range 3) (1:Int)=some 1 by rfl,ob_,show ((1:Nat) == 0)=false by rfl,cf_,show ((1:Nat) == 1)=true by rfl,ct_,if_neg om_,if_pos rfl];unfold RO;by_cases hr:x.Index < 0\/(s.Timers.length:Int)<=x.Index
    ·rw [show (decide (x.Index < 0) || decide (x.Index>=(s.Timers.length:Int)))=true by simpa using hr,ct_,ob_];have:idx s.Timers x.Index=none:=by
      cases he:idx s.Timers x.Index with
      | none=>rfl
      | some e=>have:=Ba he;omega
     rw [this];exact ⟨_,rfl,rfl⟩
    ·rw [show (decide (x.Index < 0) || decide (x.Index>=(s.Timers.length:Int)))=false by simp;omega,cf_];obtain ⟨e,he,_⟩:=Ph (xs:=s.Timers) (i:=x.Index) om_ om_;obtain ⟨v,hv,_⟩:=Ph (xs:=s.Values) (i:=x.Index) om_ (by have:=hf.x;have:=hf.t;omega);rw [he,ob_,ob_];dsimp only;by_cases h1:e=1
     ·rw [if_pos h1,show (e != 1)=false by simpa using h1,cf_,ob_,hv];exact ⟨_,rfl,rfl⟩
     ·rw [if_neg h1,show (e != 1)=true by simpa using h1,ct_];exact ⟨_,rfl,rfl⟩
   ·rw [show idx (List.range 3) (2:Int)=some 2 by rfl,ob_,show ((2:Nat) == 0)=false by rfl,cf_,show ((2:Nat) == 1)=false by rfl,cf_,show ((2:Nat) == 2)=true by rfl,ct_,if_neg om_,if_neg om_];unfold RP;by_cases hr:x.Index < 0\/(s.Inputs.length:Int)<=x.Index
    ·rw [show (decide (x.Index < 0) || decide (x.Index>=(s.Inputs.length:Int)))=true by simpa using hr,ct_,ob_];have:idx s.Inputs x.Index=none:=by
      cases he:idx s.Inputs x.Index with
      | none=>rfl
      | some e=>have:=Ba he;omega
     rw [this];exact ⟨_,rfl,rfl⟩
    ·rw [show (decide (x.Index < 0) || decide (x.Index>=(s.Inputs.length:Int)))=false by simp;omega,cf_];obtain ⟨e,he,_⟩:=Ph (xs:=s.Inputs) (i:=x.Index) om_ om_;rw [he,ob_,ob_];dsimp only;by_cases h1:e=x.Value
     ·rw [if_pos h1,show (e == x.Value)=true by simpa using h1,ct_];exact ⟨_,rfl,rfl⟩
     ·rw [if_neg h1,show (e == x.Value)=false by simpa using h1,cf_,ob_];exact ⟨_,rfl,rfl⟩
  obtain ⟨r,hr,hm⟩:=key;obtain ⟨x6,h6,hr⟩:=HU.1 hr;rw [h6,ob_,hr,ob_];cases ha:act s x with
  | none=>
   rw [ha] at hm;rw [hm,nf_,ct_];exact ⟨_,rfl,by simp,Cs.nil λx h=>by cases h.1⟩
  | some s'=>
   rw [ha] at hm;subst hm;have h:=Vv hc (Ru hf ha);dsimp only;rw [nt_,cf_];rw [show (⟨s'.Ends,s'.Valves,s'.Inputs,s'.Values,s'.Timers⟩:Ad)=s' from rfl];cases hs:rst c 65 s' with
   | none=>rw [hs] at h;rw [h];exact ⟨_,rfl,by simp,Cs.nil λx h=>by cases h.1⟩
   | some t=>rw [hs] at h;obtain ⟨l,h,hl,hC⟩:=h;rw [h];exact ⟨_,rfl,hl,hC.iff λx=>by simp⟩
theorem FL {c:Aa} {s:Ad} {x:Af} (hc:Rc c) (hf:Fit c s) (hq:Qt c s):∃ l,m41 FF c s x=some ((aft c s x).1,l,(aft c s x).2)/\l.length<=600000/\Cs l (afP c s x):=by
 obtain ⟨l,h,hl,hC⟩:=B8 (x:=x) hc hf;unfold m41;rw [Ud hc,(Wq hc.rt.bd).2 ⟨hf,hq⟩,ob_,zf_,cf_,h];exact ⟨l,rfl,hl,hC⟩
end Go.Pn
namespace Go.Pn
open Go
def Zo (s:Ad) (i:Nat):Option Af:=if s.Ends.getD i 0=1\/s.Ends.getD i 0=3 then some ⟨0,(i:Int),false⟩ else none
def DH (s:Ad) (i:Nat):Option Af:=if s.Timers.getD i 0=1 then some ⟨1,(i:Int),false⟩ else none
def pend (s:Ad):List Af:=(List.range s.Ends.length).filterMap (Zo s) ++ (List.range s.Timers.length).filterMap (DH s)
theorem Gg {α:Type} {g:Nat->Option α} {n:Nat}:((List.range n).filterMap g).length<=n:=by
 have:=List.length_filterMap_le g (List.range n);rw [GV] at this;exact this
theorem Ri {α:Type} {g:Nat->Option α} {n:Nat}:(List.range (n + 1)).filterMap g=(List.range n).filterMap g ++ (match g n with | some y=>[y] | none=>[]):=by
 rw [G5,List.filterMap_append];cases h:g n <;> simp [h]
def Yj (c:Aa) (i:Nat):Bool:=((c.Signals[i]?).map (·.Init)).getD false
def ini (c:Aa):Ad:=⟨List.replicate (cA c) 0,List.replicate (cA c) false,List.replicate c.Inputs.length false,(List.range c.Signals.length).map (Yj c),List.replicate c.Signals.length 0⟩
theorem Rb {c:Aa} (hc:Rt c):Fit c (ini c):=by
 refine ⟨by simp [ini],by simp [ini],by simp [ini],by simp [ini],by simp [ini],?_,?_,?_⟩
 ·intro a ha;have:=List.eq_of_mem_replicate ha;omega
 ·intro a ha;have:=List.eq_of_mem_replicate ha;omega
 ·intro i x t v hx ht hv;have hi:=(GC.1 hx).1;have ht':(List.replicate c.Signals.length (0:Int))[i]?=some t:=ht;have hv':((List.range c.Signals.length).map (Yj c))[i]?=some v:=hv;rw [HZ,if_pos hi] at ht';rw [GO,GM hi] at hv';have ht':=Option.some.inj ht';have hv':=Option.some.inj hv';subst ht';refine ⟨λ_=>rfl,λhk=>?_⟩;have:=hc.ini x (GX hx) hk;unfold Yj at hv';rw [hx] at hv';have hv':x.Init=v:=hv';rw [← hv',this];rfl
theorem Uf {c:Aa} (hb:Bd_ c):∃ z,Gc c FF ((0:Int),List.replicate c.Signals.length false)=some (z,(List.range c.Signals.length).map (Yj c)):=by
 have h3:=hb.s;obtain ⟨v,hv,hl⟩:=Rx (L:=Gc c) (mk:=λi (v:LJ)=>((i:Int),v)) (N:=c.Signals.length) (I:=λi v=>v=upd (Yj c) (List.replicate c.Signals.length false) i) (λn i v hi hI=>by
  subst hI;refine ⟨_,rfl,?_⟩;have hg:(upd (Yj c) (List.replicate c.Signals.length false) i)[i]?=some false:=by rw [Ff (GT i),HZ,if_pos hi]
  rw [Gc];dsimp only;rw [Ak,dt_ hi,ct_,Aj,gE_ hi,ob_,Aj,hg,ob_,Am om_,HG,Lv (by simpa using hi) (by unfold Yj;rw [gE_ hi];rfl)]) (λn v _=>by
  rw [Gc];dsimp only;rw [Ak,df_ om_,cf_]) FF 0 _ om_ uF Gl.symm
 subst hv;try dsimp only at hl
 rw [n0] at hl;rw [hl];have:=Lw (f:=Yj c) (l:=List.replicate c.Signals.length false);rw [List.length_replicate] at this;rw [this];exact ⟨_,rfl⟩
theorem Ob {α:Type} {z:α} {n:Nat} (h:n<=1000):mks z (n:Int)=some (List.replicate n z):=by
 unfold mks;rw [if_pos om_,HG]
theorem CA {c:Aa} (hc:Rc c):P1 FF c=some (0,(gates c (ini c)).Ends,(gates c (ini c)).Valves,(gates c (ini c)).Inputs,(gates c (ini c)).Values,(gates c (ini c)).Timers):=by
 have hb:=hc.rt.bd;have h1:=hb.a';have h2:=hb.i;have h3:=hb.s;obtain ⟨z,hz⟩:=Uf hb;unfold P1;rw [hc.ck,ob_,zf_,cf_,hb.a,Ob om_,ob_,Ob om_,ob_,Ob om_,ob_,Ob om_,ob_,Ob om_,ob_,hz,ob_];dsimp only;rw [show (⟨List.replicate (cA c) 0,List.replicate (cA c) false,List.replicate c.Inputs.length false,(List.range c.Signals.length).map (Yj c),List.replicate c.Signals.length 0⟩:Ad)=ini c from rfl,BN hc.rt hc.fw (Rb hc.rt)];rfl
theorem Ww {c:Aa} (hc:Rc c):match rst c 65 (gates c (ini c)) with
  | some t=>∃ l,m40 FF c=some (t,0,l)/\l.length<=600000/\Cs l (rstP c 65 (gates c (ini c)))
  | none=>m40 FF c=some (z0,21,[]):=by
 have h:=B9 hc (Hl (Rb hc.rt));unfold m40;rw [CA hc,ob_,zf_,cf_];dsimp only;rw [show (⟨(gates c (ini c)).Ends,(gates c (ini c)).Valves,(gates c (ini c)).Inputs,(gates c (ini c)).Values,(gates c (ini c)).Timers⟩:Ad)=gates c (ini c) from rfl];cases hs:rst c 65 (gates c (ini c)) with
 | none=>rw [hs] at h;rw [h];rfl
 | some t=>rw [hs] at h;obtain ⟨l,h,hl,hC⟩:=h;rw [h];exact ⟨l,rfl,hl,hC⟩
end Go.Pn
namespace Go.Pn
open Go
def lnx (n:Nat):Expr:=⟨1,(n:Int),[]⟩
def Bp (op:Int):LK->Expr
 | [n]=>lnx n
 | l=>⟨op,0,l.map lnx⟩
theorem Ps {d n:Nat} {ls:LJ}:ev (d + 1) ls (lnx n)=ls.getD n false:=by
 unfold ev lnx;rw [if_neg (by show ¬ (1:Int)=0;omega),if_pos rfl];show (idx ls (n:Int)).getD false=_;rw [Aj,F7]
theorem Nl {d:Nat} {ls:LJ} {l:LK}:ev (d + 2) ls (Bp 3 l)=l.all λn=>ls.getD n false:=by
 have key:ev (d + 2) ls ⟨3,0,l.map lnx⟩=l.all λn=>ls.getD n false:=by
  unfold ev;rw [if_neg (by show ¬ (3:Int)=0;omega),if_neg (by show ¬ (3:Int)=1;omega),if_neg (by show ¬ (3:Int)=2;omega),if_pos rfl];show (l.map lnx).all (ev (d + 1) ls)=_;rw [List.all_map];refine List.all_congr rfl λn=>?_;exact Ps
 match l,key with
 | [],key=>exact key
 | [n],_=>show ev (d + 2) ls (lnx n)=_;rw [Ps];simp
 | _ :: _ :: _,key=>exact key
theorem ev_or {d:Nat} {ls:LJ} {l:LK}:ev (d + 2) ls (Bp 4 l)=l.any λn=>ls.getD n false:=by
 have key:ev (d + 2) ls ⟨4,0,l.map lnx⟩=l.any λn=>ls.getD n false:=by
  unfold ev;rw [if_neg (by show ¬ (4:Int)=0;omega),if_neg (by show ¬ (4:Int)=1;omega),if_neg (by show ¬ (4:Int)=2;omega),if_neg (by show ¬ (4:Int)=3;omega)];show (l.map lnx).any (ev (d + 1) ls)=_;rw [List.any_map];refine List.any_congr rfl λn=>?_;exact Ps
 match l,key with
 | [],key=>exact key
 | [n],_=>show ev (d + 2) ls (lnx n)=_;rw [Ps];simp
 | _ :: _ :: _,key=>exact key
theorem CT {d n:Nat} {ls:LJ}:ev (d + 2) ls ⟨2,0,[lnx n]⟩=!(ls.getD n false):=by
 unfold ev;rw [if_neg (by show ¬ (2:Int)=0;omega),if_neg (by show ¬ (2:Int)=1;omega),if_pos rfl];show (!([lnx n].any (ev (d + 1) ls)))=_;simp [Ps]
def lv (s:Ad) (n:Nat):Bool:=(vals s).getD n false
theorem Rl {s:Ad}:(Ym s).length=2 * s.Ends.length:=Pp
theorem lv_sw {c:Aa} {s:Ad} (h:Fit c s) {a:Nat} (ha:a < cA c) (o:Bool):lv s (2 * a + o.toNat)=(s.Ends.getD a 0 == (if o=true then 2 else 0)):=by
 have he:=h.e;have hel:=Rl (s:=s);have hb:o.toNat<=1:=by cases o <;> decide
 unfold lv vals pre;rw [F7,GU,GJ om_];unfold Ym;rw [CP];have h1:(2 * a + o.toNat) / 2=a:=by omega
 have h2:(2 * a + o.toNat) % 2=o.toNat:=by omega
 rw [h1,h2,gE_ om_,F7,gE_ om_];cases o <;> simp
theorem lv_in {c:Aa} {s:Ad} (h:Fit c s) {i:Nat} (hi:i < c.Inputs.length):lv s (2 * cA c + i)=s.Inputs.getD i false:=by
 have he:=h.e;have hn:=h.i;have hel:=Rl (s:=s);unfold lv vals pre;rw [F7,GU,F9 om_,GJ om_,F7];congr 2;omega
theorem Zl {c:Aa} {s:Ad} (h:Fit c s):(pre s).length=cS c:=by
 have he:=h.e;have hn:=h.i;unfold pre cS;rw [GB,Rl,he,hn]
theorem lv_sg {c:Aa} {s:Ad} (h:Fit c s) (i:Nat):lv s (cS c + i)=s.Values.getD i false:=by
 have:=Zl h;unfold lv vals;rw [F7,F9 om_,F7];congr 2;omega
theorem Re {c:Aa} {s:Ad} {i:Nat}:∀ {j:Nat},i<=j->∀ k,k < i->(De c s j)[k]?=(De c s i)[k]?
 | 0,h,k,hk=>by omega
 | j + 1,h,k,hk=>by
  rcases G8 h with h | h
  ·subst h;rfl
  ·have ih:=Re (c:=c) (s:=s) (show i<=j by omega) k hk;rw [← ih];show (Gf c (pre s) j (De c s j))[k]?=_;unfold Gf;split
   ·split
    ·rw [JE om_]
    ·rfl
   ·rfl
theorem Lp {c:Aa} {s:Ad} {k:Nat} {y:Ae} (hy:c.Signals[k]?=some y) (hk:y.Kind≠0):∀ (j:Nat),(De c s j)[k]?=s.Values[k]?
 | 0=>rfl
 | j + 1=>by
  have ih:=Lp (s:=s) hy hk j;rw [← ih];show (Gf c (pre s) j (De c s j))[k]?=_;unfold Gf;split
  ·rename_i x hx;split
   ·rename_i h0;by_cases e:j=k
    ·subst e;rw [hy] at hx;obtain rfl:=Option.some.inj hx;exact absurd h0 hk
    ·rw [JE e]
   ·rfl
  ·rfl
def Rdy (c:Aa) (i n:Nat):Prop:=n < cS c\/∃ k,n=cS c + k/\(k < i\/∃ y,c.Signals[k]?=some y/\y.Kind≠0)
theorem Kl {c:Aa} {s:Ad} (hf:Fit c s) {i:Nat} {x:Ae} (hx:c.Signals[i]?=some x) (hk:x.Kind=0)
  (hd:∀ u v:LJ,(∀ n,Rdy c i n->u.getD n false=v.getD n false)->ev 16 u x.On=ev 16 v x.On) :
  (gates c s).Values.getD i false=ev 16 (vals (gates c s)) x.On:=by
 have him:=(GC.1 hx).1;have hv:=hf.x;have hp:=Zl hf;show (De c s c.Signals.length).getD i false=ev 16 (pre s ++ De c s c.Signals.length) x.On;rw [F7,Re (show i + 1<=c.Signals.length by omega) i om_];show ((Gf c (pre s) i (De c s i))[i]?).getD false=_;unfold Gf;rw [hx];dsimp only;rw [if_pos hk,H8 (by rw [Cm];omega),JH];refine hd _ _ λn hn=>?_;rw [F7,F7];rcases hn with h | ⟨k,rfl,h⟩
 ·rw [GJ om_,GJ om_]
 ·rw [F9 om_,F9 om_,hp,show cS c + k - cS c=k by omega];rcases h with h | ⟨y,hy,hk⟩
  ·rw [Re (show i<=c.Signals.length by omega) k h]
  ·rw [Lp hy hk,Lp hy hk]
theorem CM {c:Aa} {s:Ad} (hf:Fit c s) {i:Nat} {x:Ae} (hx:c.Signals[i]?=some x) (hk:x.Kind=0) {l:LK} (ho:x.On=Bp 3 l) (hl:∀ n∈l,Rdy c i n) :
  (gates c s).Values.getD i false=l.all (lv (gates c s)):=by
 have h:=Kl hf hx hk λu v h=>by
  rw [ho,Nl,Nl];rw [G0,GG,GG];exact ⟨λk n hn=>by rw [← h n (hl n hn)];exact k n hn,λk n hn=>by rw [h n (hl n hn)];exact k n hn⟩
 rw [h,ho,Nl];rfl
theorem ES {c:Aa} {s:Ad} (hf:Fit c s) {i:Nat} {x:Ae} (hx:c.Signals[i]?=some x) (hk:x.Kind=0) {l:LK} (ho:x.On=Bp 4 l) (hl:∀ n∈l,Rdy c i n) :
  (gates c s).Values.getD i false=l.any (lv (gates c s)):=by
 have h:=Kl hf hx hk λu v h=>by
  rw [ho,ev_or,ev_or];rw [G0,GK,GK];exact ⟨λ⟨n,hn,k⟩=>⟨n,hn,by rw [← h n (hl n hn)];exact k⟩,λ⟨n,hn,k⟩=>⟨n,hn,by rw [h n (hl n hn)];exact k⟩⟩
 rw [h,ho,ev_or];rfl
theorem CL {c:Aa} {s:Ad} (hf:Fit c s) {i:Nat} {x:Ae} (hx:c.Signals[i]?=some x) (hk:x.Kind=0) {n:Nat} (ho:x.On=⟨2,0,[lnx n]⟩) (hl:Rdy c i n) :
  (gates c s).Values.getD i false=!(lv (gates c s) n):=by
 have h:=Kl hf hx hk λu v h=>by
  rw [ho,CT,CT,h n hl]
 rw [h,ho,CT];rfl
theorem Ul {c:Aa} {s:Ad} {k:Nat} {y:Ae} (hy:c.Signals[k]?=some y) (hk:y.Kind≠0):(gates c s).Values.getD k false=s.Values.getD k false:=by
 show (De c s c.Signals.length).getD k false=_;rw [F7,Lp hy hk,F7]
theorem Cw {α:Type} {f:Nat->α} {n i:Nat} {d:α} (h:i < n):((List.range n).map f).getD i d=f i:=by
 rw [F7,GO,GM h];rfl
theorem Qg {c:Aa} {s:Ad} (hf:Fit c s) {i:Nat} {x:Ae} (hx:c.Signals[i]?=some x):(once c s).Values.getD i false=(chg (vals (gates c s)) x ((gates c s).Values.getD i false) (s.Timers.getD i 0)).1:=by
 have him:=(GC.1 hx).1;have hv:(gates c s).Values.length=c.Signals.length:=Cm.trans hf.x;show ((List.range (gates c s).Values.length).map λi=>(Lq c (gates c s) i).1).getD i false=_;rw [Cw om_];unfold Lq;rw [hx];rfl
theorem D1 {c:Aa} {s:Ad} (hf:Fit c s) {i:Nat} {x:Ae} (hx:c.Signals[i]?=some x):(once c s).Timers.getD i 0=(chg (vals (gates c s)) x ((gates c s).Values.getD i false) (s.Timers.getD i 0)).2:=by
 have him:=(GC.1 hx).1;have hv:=hf.t;show ((List.range s.Timers.length).map λi=>(Lq c (gates c s) i).2).getD i 0=_;rw [Cw om_];unfold Lq;rw [hx];rfl
theorem Co {α:Type} {a b:List α} {d:α} (hl:a.length=b.length) (h:∀ i,i < a.length->a.getD i d=b.getD i d):a=b:=by
 refine List.ext_getElem hl λi h1 h2=>?_;have:=h i h1;rw [F7,F7,gE_ h1,gE_ h2] at this;exact this
theorem E8 {s t:Ad} (h1:s.Ends=t.Ends) (h2:s.Valves=t.Valves) (h3:s.Inputs=t.Inputs) (h4:s.Values=t.Values) (h5:s.Timers=t.Timers):s=t:=by
 cases s;cases t;simp_all
theorem Yy {c:Aa} {k:Nat} {t:Ad} (h:once c t=t):stl c (k + 1) t=some t:=by
 unfold stl;rw [h,Gp,if_pos rfl]
theorem Wi {c:Aa} {k:Nat} {s:Ad}:stl c (k + 2) s=stl c (k + 1) (once c s):=by
 show (if sst s (once c s)=true then some s else stl c (k + 1) (once c s))=_
 split
 ·rename_i h;have h:=Lx.1 h;rw [← h,Yy h.symm]
 ·rfl
theorem Zg {c:Aa} {k:Nat} {s t:Ad} (h:stl c 65 s=some t) (h2:rnd c t=s):rst c (k + 1) s=some s:=by
 unfold rst;rw [h];dsimp only;rw [h2,Gp,if_pos rfl]
theorem Wm {c:Aa} {k:Nat} {s t:Ad} (h:stl c 65 s=some t):rst c (k + 2) s=rst c (k + 1) (rnd c t):=by
 show (match stl c 65 s with
  | none=>none
  | some t=>if sst (rnd c t) s=true then some s else rst c (k + 1) (rnd c t))=_
 rw [h];dsimp only;split
 ·rename_i h2;have h2:=Lx.1 h2;rw [h2,Zg h h2]
 ·rfl
theorem onP_no {c:Aa} {s:Ad} (h:∀ (i:Nat) (x:Ae),c.Signals[i]?=some x->x.Kind=1->(ev 16 (vals (gates c s)) x.On && ev 16 (vals (gates c s)) x.Off)=false) (y:Int):¬ onP c s y:=by
 rintro ⟨j,x,hj,hx,rfl,he⟩;unfold ofb at he;cases hk:x.Kind == 1 with
 | false=>rw [hk] at he;simp at he
 | true=>
  have:=h j x hx (by simpa using hk);rw [hk,H0] at he;rw [this] at he;cases he
end Go.Pn
namespace Go.Pn
open Go
inductive Sg where
 | gl (j:Nat)
 | tm (k:Nat)
 | sg (k:Nat)
 | pl (a:Nat) (o:Bool)
structure CasD where
 A:Nat
 n:Nat
 G:Nat
 S:Nat->List (Nat×Bool)
 W:Nat->Bool
 g:Nat->Nat
 la:Nat->Nat
 no:Sg->Nat
 ch:Bool
namespace CasD
def ok (q:CasD):Sg->Prop
 | .gl j=>j < q.G
 | .tm k=>k < q.n/\q.W k=true
 | .sg k=>k < q.n
 | .pl a _=>a < q.A
def L (q:CasD) (x:Sg):Nat:=2 * q.A + 1 + q.no x
def sw (x:Nat×Bool):Nat:=2 * x.1 + x.2.toNat
def en (q:CasD) (k:Nat):LK:=if q.W k=true then [q.L (.tm k)] else (q.S k).map sw
def nx (q:CasD) (j:Nat):Nat:=if j + 1 < q.G then j + 1 else 0
def pv (q:CasD) (j:Nat):Nat:=if j=0 then q.G - 1 else j - 1
def bg (q:CasD) (k:Nat):LK:=if k=0 then [2 * q.A] else if q.g (k - 1)=q.g k then q.en (k - 1) else []
def ex (q:CasD) (j:Nat):LK:=q.en (q.la j) ++ (if q.ch=true/\j + 1=q.G then [2 * q.A] else [])
def at_ (q:CasD) (a:Nat) (o:Bool):LK:=(List.range q.n).filter λk=>decide ((a,o)∈q.S k)
end CasD
structure CasP (c:Aa) (q:CasD):Prop where
 a:cA c=q.A
 i:c.Inputs.length=1
 g2:2<=q.G
 gn:∀ k,k < q.n->q.g k < q.G
 ln:∀ j,j < q.G->q.la j < q.n
 Sa:∀ k,k < q.n->∀ x∈q.S k,x.1 < q.A
 sur:∀ i,i < c.Signals.length->∃ x,q.ok x/\q.no x=i/\∀ k,x=.sg k->q.ch=false
 tmS:∀ k,k < q.n->q.W k=true->∃ x,c.Signals[q.no (.tm k)]?=some x/\x.Kind=2/\x.On=Bp 3 (q.L (.gl (q.g k)) :: (q.S k).map CasD.sw)
 sgS:q.ch=false->∀ k,k < q.n->∃ x,c.Signals[q.no (.sg k)]?=some x/\x.Kind=0/\x.On=Bp 3 (q.L (.gl (q.g k)) :: q.bg k)
 chn:q.ch=true->q.G=q.n/\∀ k,q.g k=k/\q.la k=k/\q.no (.sg k)=q.no (.gl k)
 plS:∀ a o,a < q.A->∃ x,c.Signals[q.no (.pl a o)]?=some x/\x.Kind=0/\x.On=Bp 4 ((q.at_ a o).map λk=>q.L (.sg k))
 glS:q.G≠2->∀ j,j < q.G->∃ x,c.Signals[q.no (.gl j)]?=some x/\x.Kind=1/\x.On=Bp 3 (q.L (.gl (q.pv j)) :: q.ex (q.pv j))/\x.Off=lnx (q.L (.gl (q.nx j)))
 glT:q.G=2->∃ x,c.Signals[q.no (.gl 1)]?=some x/\x.Kind=1/\x.On=Bp 3 (q.ex 0)/\x.Off=Bp 3 (q.ex 1)
 glU:q.G=2->∃ x,c.Signals[q.no (.gl 0)]?=some x/\x.Kind=0/\x.On=⟨2,0,[lnx (q.L (.gl 1))]⟩
 ogs:q.ch=false->q.G=2->∀ k,k < q.n->q.no (.gl 0) < q.no (.sg k)
 osp:∀ k a o,k < q.n->a < q.A->q.no (.sg k) < q.no (.pl a o)
 pls:∀ a,a < q.A->c.Plus.getD a 0=((q.L (.pl a true):Nat):Int)
 mns:∀ a,a < q.A->c.Minus.getD a 0=((q.L (.pl a false):Nat):Int)
structure Bs (c:Aa) (q:CasD) (s:Ad) (E:Nat->Int) (V:Nat->Bool) (M:Nat->Bool) (T:Nat->Int) (st:Bool):Prop where
 fit:Fit c s
 e:∀ a,a < q.A->s.Ends.getD a 0=E a
 v:∀ a,a < q.A->s.Valves.getD a false=V a
 i:s.Inputs.getD 0 false=st
 m:∀ j,j < q.G->(q.G=2->j=1)->s.Values.getD (q.no (.gl j)) false=M j
 m0:q.G=2->M 0=!M 1
 t:∀ k,k < q.n->q.W k=true->s.Timers.getD (q.no (.tm k)) 0=T k/\s.Values.getD (q.no (.tm k)) false=(T k == 2)
def Wd (o:Bool):Int:=if o=true then 2 else 0
def CasD.cm (q:CasD) (E:Nat->Int) (k:Nat):Bool:=(q.S k).all λx=>E x.1 == Wd x.2
def CasD.EN (q:CasD) (E:Nat->Int) (T:Nat->Int) (k:Nat):Bool:=if q.W k=true then T k == 2 else q.cm E k
def CasD.SG (q:CasD) (E:Nat->Int) (M:Nat->Bool) (T:Nat->Int) (st:Bool) (k:Nat):Bool:=M (q.g k) && (if q.ch=true then true else if k=0 then st else if q.g (k - 1)=q.g k then q.EN E T (k - 1) else true)
def CasD.EX (q:CasD) (E:Nat->Int) (T:Nat->Int) (st:Bool) (j:Nat):Bool:=q.EN E T (q.la j) && (if q.ch=true/\j + 1=q.G then st else true)
def CasD.PL (q:CasD) (E:Nat->Int) (M:Nat->Bool) (T:Nat->Int) (st:Bool) (a:Nat) (o:Bool):Bool:=(q.at_ a o).any λk=>q.SG E M T st k
variable {c:Aa} {q:CasD} {s:Ad} {E:Nat->Int} {V M:Nat->Bool} {T:Nat->Int} {st:Bool}
theorem CasP.cs (hc:CasP c q):cS c=2 * q.A + 1:=by unfold cS;rw [hc.a,hc.i]
theorem CasP.lvL (hc:CasP c q) {s:Ad} (h:Fit c s) (x:Sg):lv s (q.L x)=s.Values.getD (q.no x) false:=by
 rw [← lv_sg h];unfold CasD.L;rw [hc.cs]
theorem CasP.rdyN (hc:CasP c q) {i:Nat} {x:Sg} (h:q.no x < i\/∃ y,c.Signals[q.no x]?=some y/\y.Kind≠0):Rdy c i (q.L x):=.inr ⟨q.no x,by unfold CasD.L;rw [hc.cs],h⟩
theorem CasP.rdyS (hc:CasP c q) {i k:Nat} (hk:k < q.n):∀ n∈(q.S k).map CasD.sw,Rdy c i n:=by
 intro n hn;obtain ⟨x,hx,rfl⟩:=GQ.1 hn;have:=hc.Sa k hk x hx;have hb:x.2.toNat<=1:=by cases x.2 <;> decide
 refine .inl ?_;rw [hc.cs];unfold CasD.sw;omega
theorem CasP.rdyE (hc:CasP c q) {i k:Nat} (hk:k < q.n):∀ n∈q.en k,Rdy c i n:=by
 intro n hn;unfold CasD.en at hn;split at hn
 ·rename_i hw;obtain rfl:=HF.1 hn;obtain ⟨x,h1,h2,_⟩:=hc.tmS k hk hw;exact hc.rdyN (.inr ⟨x,h1,by omega⟩)
 ·exact hc.rdyS hk n hn
theorem CasP.rdyG (hc:CasP c q) {i j:Nat} (hj:j < q.G) (hi:q.G=2->q.no (.gl 0) < i):Rdy c i (q.L (.gl j)):=by
 by_cases h:q.G=2
 ·obtain ⟨x,h1,h2,_⟩:=hc.glT h;by_cases e:j=1
  ·subst e;exact hc.rdyN (.inr ⟨x,h1,by omega⟩)
  ·obtain rfl:j=0:=by omega
   exact hc.rdyN (.inl (hi h))
 ·obtain ⟨x,h1,h2,_⟩:=hc.glS h j hj;exact hc.rdyN (.inr ⟨x,h1,by omega⟩)
theorem CasP.rdyB (hc:CasP c q) {i k:Nat} (hk:k < q.n):∀ n∈q.bg k,Rdy c i n:=by
 intro n hn;unfold CasD.bg at hn;split at hn
 ·obtain rfl:=HF.1 hn;exact .inl (by rw [hc.cs];omega)
 ·split at hn
  ·exact hc.rdyE om_ n hn
  ·cases hn
theorem Bs.sw (hc:CasP c q) (h:Bs c q s E V M T st) {x:Nat×Bool} (hx:x.1 < q.A):lv s (CasD.sw x)=(E x.1 == Wd x.2):=by
 unfold CasD.sw;rw [lv_sw h.fit (by rw [hc.a];exact hx),h.e _ hx];rfl
theorem Bs.cmv (hc:CasP c q) (h:Bs c q s E V M T st) {k:Nat} (hk:k < q.n):((q.S k).map CasD.sw).all (lv s)=q.cm E k:=by
 unfold CasD.cm;rw [List.all_map];rw [G0,GG,GG];exact ⟨λg x hx=>by rw [← h.sw hc (hc.Sa k hk x hx)];exact g x hx,λg x hx=>by show lv s (CasD.sw x)=true;rw [h.sw hc (hc.Sa k hk x hx)];exact g x hx⟩
theorem Bs.env (hc:CasP c q) (h:Bs c q s E V M T st) {k:Nat} (hk:k < q.n):(q.en k).all (lv s)=q.EN E T k:=by
 unfold CasD.en CasD.EN;split
 ·rename_i hw;rw [JZ,List.all_nil,JK,hc.lvL h.fit,(h.t k hk hw).2]
 ·exact h.cmv hc hk
theorem Bs.inv (hc:CasP c q) (h:Bs c q s E V M T st):lv s (2 * q.A)=st:=by
 have:=lv_in h.fit (i:=0) (by rw [hc.i];omega);rw [hc.a] at this;rw [show 2 * q.A=2 * q.A + 0 from rfl,this];exact h.i
theorem Bs.exv (hc:CasP c q) (h:Bs c q s E V M T st) {j:Nat} (hj:j < q.G):(q.ex j).all (lv s)=q.EX E T st j:=by
 unfold CasD.ex CasD.EX;rw [List.all_append,h.env hc (hc.ln j hj)];congr 1;split
 ·rw [JZ,List.all_nil,JK];exact h.inv hc
 ·rfl
theorem CasP.sgC (hc:CasP c q) (h:q.ch=true) {k:Nat} (hk:k < q.n):k < q.G/\q.no (.sg k)=q.no (.gl k)/\q.SG E M T st k=M k:=by
 obtain ⟨h1,h2⟩:=hc.chn h;obtain ⟨h3,_,h4⟩:=h2 k;refine ⟨by omega,h4,?_⟩;unfold CasD.SG;rw [if_pos h,h3,JK]
structure Gk (c:Aa) (q:CasD) (s:Ad) (E:Nat->Int) (M:Nat->Bool) (T:Nat->Int) (st:Bool):Prop where
 gl:∀ j,j < q.G->s.Values.getD (q.no (.gl j)) false=M j
 sg:∀ k,k < q.n->s.Values.getD (q.no (.sg k)) false=q.SG E M T st k
 pl:∀ a o,a < q.A->s.Values.getD (q.no (.pl a o)) false=q.PL E M T st a o
theorem Bs.gates (hc:CasP c q) (h:Bs c q s E V M T st):Bs c q (gates c s) E V M T st:=by
 refine ⟨Hl h.fit,h.e,h.v,h.i,λj hj hg=>?_,h.m0,λk hk hw=>⟨(h.t k hk hw).1,?_⟩⟩
 ·have:∃ x,c.Signals[q.no (.gl j)]?=some x/\x.Kind=1:=by
   by_cases h2:q.G=2
   ·obtain rfl:=hg h2;obtain ⟨x,h1,h3,_⟩:=hc.glT h2;exact ⟨x,h1,h3⟩
   ·obtain ⟨x,h1,h3,_⟩:=hc.glS h2 j hj;exact ⟨x,h1,h3⟩
  obtain ⟨x,h1,h2⟩:=this;rw [Ul h1 om_];exact h.m j hj hg
 ·obtain ⟨x,h1,h2,_⟩:=hc.tmS k hk hw;rw [Ul h1 om_];exact (h.t k hk hw).2
theorem Bs.gk (hc:CasP c q) (h:Bs c q s E V M T st):Gk c q (Pn.gates c s) E M T st:=by
 have hg:=h.gates hc;have hf:=h.fit;have gl:∀ j,j < q.G->(Pn.gates c s).Values.getD (q.no (.gl j)) false=M j:=by
  intro j hj;by_cases h2:q.G=2
  ·by_cases e:j=1
   ·exact hg.m j hj λ_=>e
   ·obtain rfl:j=0:=by omega
    obtain ⟨x,h1,h3,h4⟩:=hc.glU h2;obtain ⟨y,g1,g3,_⟩:=hc.glT h2;rw [CL hf h1 h3 h4 (hc.rdyN (.inr ⟨y,g1,by omega⟩)),hc.lvL hg.fit,hg.m 1 om_ λ_=>rfl,h.m0 h2]
  ·exact hg.m j hj λe=>absurd e h2
 have sg:∀ k,k < q.n->(Pn.gates c s).Values.getD (q.no (.sg k)) false=q.SG E M T st k:=by
  intro k hk;by_cases hch:q.ch=true
  ·obtain ⟨h1,h2,h3⟩:=hc.sgC (E:=E) (M:=M) (T:=T) (st:=st) hch hk;rw [h2,gl k h1,h3]
  have hcf:q.ch=false:=by simpa using hch
  obtain ⟨x,h1,h2,h3⟩:=hc.sgS hcf k hk;rw [CM hf h1 h2 h3 (λn hn=>by
   rcases GR.1 hn with rfl | hn
   ·exact hc.rdyG (hc.gn k hk) λe=>hc.ogs hcf e k hk
   ·exact hc.rdyB hk n hn),JZ,hc.lvL hg.fit,gl _ (hc.gn k hk)]
  unfold CasD.SG CasD.bg;rw [if_neg hch];congr 1;by_cases e:k=0
  ·rw [if_pos e,if_pos e,JZ,List.all_nil,JK];exact hg.inv hc
  ·rw [if_neg e,if_neg e];split
   ·exact hg.env hc om_
   ·rfl
 refine ⟨gl,sg,λa o ha=>?_⟩;obtain ⟨x,h1,h2,h3⟩:=hc.plS a o ha;have hmem:∀ k∈q.at_ a o,k < q.n:=λk hk=>GE.1 (HX.1 hk).1;rw [ES hf h1 h2 h3 (λn hn=>by
  obtain ⟨k,hk,rfl⟩:=GQ.1 hn;exact hc.rdyN (.inl (hc.osp k a o (hmem k hk) ha))),List.any_map]
 unfold CasD.PL;rw [G0,GK,GK];exact ⟨λ⟨k,hk,g⟩=>⟨k,hk,by rw [← sg k (hmem k hk),← hc.lvL hg.fit];exact g⟩,λ⟨k,hk,g⟩=>⟨k,hk,by show lv _ (q.L (.sg k))=true;rw [hc.lvL hg.fit,sg k (hmem k hk)];exact g⟩⟩
end Go.Pn
namespace Go.Pn
open Go
variable {c:Aa} {q:CasD} {s:Ad} {E:Nat->Int} {V M:Nat->Bool} {T:Nat->Int} {st:Bool}
theorem Bs.eq (hc:CasP c q) {t:Ad} (hs:Bs c q s E V M T st) (ht:Bs c q t E V M T st) (gs:Gk c q s E M T st) (gt:Gk c q t E M T st):s=t:=by
 have f:=hs.fit;have f':=ht.fit;have ha:=hc.a;have hi:=hc.i;refine E8 ?_ ?_ ?_ ?_ ?_
 ·exact Co (d:=0) (f.e.trans f'.e.symm) λi h=>by rw [hs.e i (by have:=f.e;omega),ht.e i (by have:=f.e;omega)]
 ·exact Co (d:=false) (f.v.trans f'.v.symm) λi h=>by rw [hs.v i (by have:=f.v;omega),ht.v i (by have:=f.v;omega)]
 ·refine Co (d:=false) (f.i.trans f'.i.symm) λi h=>?_;obtain rfl:i=0:=by have:=f.i;omega
  rw [hs.i,ht.i]
 ·refine Co (d:=false) (f.x.trans f'.x.symm) λi h=>?_;obtain ⟨x,hx,rfl,_⟩:=hc.sur i (by have:=f.x;omega);cases x with
  | gl j=>rw [gs.gl j hx,gt.gl j hx]
  | tm k=>rw [(hs.t k hx.1 hx.2).2,(ht.t k hx.1 hx.2).2]
  | sg k=>rw [gs.sg k hx,gt.sg k hx]
  | pl a o=>rw [gs.pl a o hx,gt.pl a o hx]
 ·refine Co (d:=0) (f.t.trans f'.t.symm) λi h=>?_;have hlt:i < c.Signals.length:=by have:=f.t;omega
  have hz:∀ u:Ad,Fit c u->c.Signals[i].Kind≠2->u.Timers.getD i 0=0:=λu fu hk=>by
   have h1:i < u.Timers.length:=by rw [fu.t];exact hlt
   have h2:i < u.Values.length:=by rw [fu.x];exact hlt
   have:=(fu.k i _ _ _ (gE_ hlt) (gE_ h1) (gE_ h2)).1 hk;rw [F7,gE_ h1];exact this
  by_cases hk:c.Signals[i].Kind=2
  ·obtain ⟨x,hx,rfl,hsg⟩:=hc.sur i hlt;have hg:=gE_ hlt;cases x with
   | gl j=>
    exfalso;by_cases h2:q.G=2
    ·by_cases e:j=1
     ·subst e;obtain ⟨y,h1,h3,_⟩:=hc.glT h2;rw [hg] at h1;rw [Option.some.inj h1] at hk;omega
     ·obtain rfl:j=0:=by have:j < q.G:=hx;omega
      obtain ⟨y,h1,h3,_⟩:=hc.glU h2;rw [hg] at h1;rw [Option.some.inj h1] at hk;omega
    ·obtain ⟨y,h1,h3,_⟩:=hc.glS h2 j hx;rw [hg] at h1;rw [Option.some.inj h1] at hk;omega
   | tm k=>rw [(hs.t k hx.1 hx.2).1,(ht.t k hx.1 hx.2).1]
   | sg k=>exfalso;obtain ⟨y,h1,h3,_⟩:=hc.sgS (hsg k rfl) k hx;rw [hg] at h1;rw [Option.some.inj h1] at hk;omega
   | pl a o=>exfalso;obtain ⟨y,h1,h3,_⟩:=hc.plS a o hx;rw [hg] at h1;rw [Option.some.inj h1] at hk;omega
  ·rw [hz s f hk,hz t f' hk]
theorem Bs.gg (hc:CasP c q) (h:Bs c q s E V M T st):Pn.gates c (Pn.gates c s)=Pn.gates c s:=
 Bs.eq hc ((h.gates hc).gates hc) (h.gates hc) ((h.gates hc).gk hc) (h.gk hc)
def CasD.on (q:CasD) (E:Nat->Int) (M:Nat->Bool) (T:Nat->Int) (st:Bool) (j:Nat):Bool:=if q.G=2 then q.EX E T st 0 else M (q.pv j) && q.EX E T st (q.pv j)
def CasD.off (q:CasD) (E:Nat->Int) (M:Nat->Bool) (T:Nat->Int) (st:Bool) (j:Nat):Bool:=if q.G=2 then q.EX E T st 1 else M (q.nx j)
def CasD.md (q:CasD) (E:Nat->Int) (M:Nat->Bool) (T:Nat->Int) (st:Bool) (j:Nat):Bool:=if q.on E M T st j=q.off E M T st j then M j else q.on E M T st j
def CasD.M1 (q:CasD) (E:Nat->Int) (M:Nat->Bool) (T:Nat->Int) (st:Bool) (j:Nat):Bool:=if q.G=2/\j=0 then !(q.md E M T st 1) else q.md E M T st j
def CasD.T1 (q:CasD) (E:Nat->Int) (M:Nat->Bool) (T:Nat->Int) (k:Nat):Int:=if (M (q.g k) && q.cm E k)=false then 0 else if T k=0 then 1 else T k
theorem CasD.pvl {q:CasD} (h:2<=q.G) {j:Nat} (hj:j < q.G):q.pv j < q.G:=by unfold CasD.pv; split <;> omega
theorem CasD.nxl {q:CasD} (h:2<=q.G) {j:Nat}:q.nx j < q.G:=by unfold CasD.nx; split <;> omega
theorem CasP.mem (hc:CasP c q) (h:Bs c q s E V M T st) {j:Nat} (hj:j < q.G) (hg:q.G=2->j=1):∃ x,c.Signals[q.no (.gl j)]?=some x/\x.Kind=1/\ev 16 (vals (gates c s)) x.On=q.on E M T st j/\ev 16 (vals (gates c s)) x.Off=q.off E M T st j:=by
 have gb:=h.gates hc;have gk:=h.gk hc;have h2:=hc.g2;by_cases e:q.G=2
 ·obtain rfl:=hg e;obtain ⟨x,a1,a2,a3,a4⟩:=hc.glT e;refine ⟨x,a1,a2,?_,?_⟩
  ·rw [a3,Nl];unfold CasD.on;rw [if_pos e];exact gb.exv hc om_
  ·rw [a4,Nl];unfold CasD.off;rw [if_pos e];exact gb.exv hc om_
 ·obtain ⟨x,a1,a2,a3,a4⟩:=hc.glS e j hj;have p1:=CasD.pvl h2 hj;refine ⟨x,a1,a2,?_,?_⟩
  ·rw [a3,Nl];unfold CasD.on;rw [if_neg e];have h3:=gb.exv hc p1;have h4:lv (gates c s) (q.L (.gl (q.pv j)))=M (q.pv j):=by rw [hc.lvL gb.fit,gk.gl _ p1]
   show ((q.L (.gl (q.pv j)) :: q.ex (q.pv j)).all (lv (gates c s)))=_;rw [JZ,h3,h4]
  ·rw [a4];unfold CasD.off;rw [if_neg e];rw [show (16:Nat)=15 + 1 from rfl,Ps];show lv (gates c s) (q.L (.gl (q.nx j)))=_;rw [hc.lvL gb.fit,gk.gl _ (CasD.nxl h2)]
theorem CasP.tim (hc:CasP c q) (h:Bs c q s E V M T st) {k:Nat} (hk:k < q.n) (hw:q.W k=true):∃ x,c.Signals[q.no (.tm k)]?=some x/\x.Kind=2/\ev 16 (vals (gates c s)) x.On=(M (q.g k) && q.cm E k):=by
 have gb:=h.gates hc;have gk:=h.gk hc;obtain ⟨x,a1,a2,a3⟩:=hc.tmS k hk hw;refine ⟨x,a1,a2,?_⟩;rw [a3,Nl];have h3:=gb.cmv hc hk;have h4:lv (gates c s) (q.L (.gl (q.g k)))=M (q.g k):=by rw [hc.lvL gb.fit,gk.gl _ (hc.gn k hk)]
 show ((q.L (.gl (q.g k)) :: (q.S k).map CasD.sw).all (lv (gates c s)))=_;rw [JZ,h3,h4]
theorem Bs.once (hc:CasP c q) (h:Bs c q s E V M T st):Bs c q (Pn.once c s) E V (q.M1 E M T st) (q.T1 E M T) st:=by
 have gb:=h.gates hc;have gk:=h.gk hc;refine ⟨Qh h.fit,h.e,h.v,h.i,λj hj hg=>?_,λe=>?_,λk hk hw=>?_⟩
 ·obtain ⟨x,a1,a2,a3,a4⟩:=hc.mem h hj hg;rw [Qg h.fit a1];unfold chg;rw [if_pos a2];unfold ofb;rw [a3,a4,a2,gb.m j hj hg,show ((1:Int) == 1)=true from rfl,H0];have hM1:q.M1 E M T st j=q.md E M T st j:=by
   unfold CasD.M1;exact if_neg (λe=>by have:=hg e.1;omega)
  rw [hM1];unfold CasD.md;by_cases h7:q.on E M T st j=q.off E M T st j
  ·rw [if_pos h7,if_pos h7]
  ·rw [if_neg h7,if_neg h7]
 ·unfold CasD.M1;rw [if_pos ⟨e,rfl⟩,if_neg om_]
 ·obtain ⟨x,a1,a2,a3⟩:=hc.tim h hk hw;have h1:=gb.t k hk hw;have h2:=h.t k hk hw;rw [Qg h.fit a1,D1 h.fit a1,h2.1,h1.2];unfold chg CasD.T1;rw [if_neg om_,if_pos a2,a3];by_cases h5:(M (q.g k) && q.cm E k)=false
  ·rw [if_pos h5,if_pos h5];exact ⟨rfl,rfl⟩
  ·rw [if_neg h5,if_neg h5];by_cases h6:T k=0
   ·rw [if_pos h6,if_pos h6];rw [h6];exact ⟨rfl,rfl⟩
   ·rw [if_neg h6,if_neg h6];exact ⟨rfl,rfl⟩
theorem Bs.once_gk (hc:CasP c q) (h:Bs c q s E V M T st) (hM:∀ j,j < q.G->q.M1 E M T st j=M j):Gk c q (Pn.once c s) E M T st:=by
 have gk:=h.gk hc;have key:∀ i x,c.Signals[i]?=some x->x.Kind=0->(Pn.once c s).Values.getD i false=(Pn.gates c s).Values.getD i false:=λi x hx hk=>by
  rw [Qg h.fit hx];unfold chg;rw [if_neg om_,if_neg om_]
 have gl:∀ j,j < q.G->(Pn.once c s).Values.getD (q.no (.gl j)) false=M j:=λj hj=>by
  by_cases e:q.G=2/\j=0
  ·obtain ⟨e1,rfl⟩:=e;obtain ⟨x,a1,a2,_⟩:=hc.glU e1;rw [key _ _ a1 a2,gk.gl 0 hj]
  ·rw [(h.once hc).m j hj (λe1=>by omega),hM j hj]
 refine ⟨gl,λk hk=>?_,λa o ha=>?_⟩
 ·by_cases hch:q.ch=true
  ·obtain ⟨h1,h2,h3⟩:=hc.sgC (E:=E) (M:=M) (T:=T) (st:=st) hch hk;rw [h2,gl k h1,h3]
  obtain ⟨x,a1,a2,_⟩:=hc.sgS (by simpa using hch) k hk;rw [key _ _ a1 a2,gk.sg k hk]
 ·obtain ⟨x,a1,a2,_⟩:=hc.plS a o ha;rw [key _ _ a1 a2,gk.pl a o ha]
theorem Bs.cong (h:Bs c q s E V M T st) (hq:2<=q.G) {E':Nat->Int} {V' M':Nat->Bool} {T':Nat->Int} (hE:∀ a,a < q.A->E a=E' a) (hV:∀ a,a < q.A->V a=V' a) (hM:∀ j,j < q.G->M j=M' j) (hT:∀ k,k < q.n->q.W k=true->T k=T' k):Bs c q s E' V' M' T' st:=
 ⟨h.fit,λa ha=>by rw [h.e a ha,hE a ha],λa ha=>by rw [h.v a ha,hV a ha],h.i,λj hj hg=>by rw [h.m j hj hg,hM j hj],λe=>by rw [← hM 0 om_,← hM 1 om_];exact h.m0 e,λk hk hw=>by rw [← hT k hk hw];exact h.t k hk hw⟩
theorem Bs.stl (hc:CasP c q) (h:Bs c q s E V M T st) (hM:∀ j,j < q.G->q.M1 E M T st j=M j) (hT:∀ k,k < q.n->q.W k=true->q.T1 E M T k=T k) (k:Nat):Pn.stl c (k + 2) s=some (Pn.gates c s):=by
 have key:∀ u,Bs c q u E V M T st->Pn.once c u=Pn.gates c u:=λu hu=>by
  have h1:=hu.once hc;exact Bs.eq hc (h1.cong hc.g2 (λ_ _=>rfl) (λ_ _=>rfl) hM hT) (hu.gates hc) (hu.once_gk hc hM) (hu.gk hc)
 rw [Wi,key s h];exact Yy ((key _ (h.gates hc)).trans (h.gg hc))
theorem Bs.noc (hc:CasP c q) (h:Bs c q s E V M T st) (hn:∀ j,j < q.G->(q.G=2->j=1)->(q.on E M T st j && q.off E M T st j)=false) (y:Int):¬ onP c s y:=by
 refine onP_no (λi x hx hk=>?_) y;have hlt:=(GC.1 hx).1;obtain ⟨z,hz,rfl,hsg⟩:=hc.sur i hlt;cases z with
 | gl j=>
  have hj:j < q.G:=hz;have hg:q.G=2->j=1:=λe=>by
   by_cases e1:j=1
   ·exact e1
   ·obtain rfl:j=0:=by omega
    obtain ⟨y,h1,h3,_⟩:=hc.glU e;rw [hx] at h1;rw [Option.some.inj h1] at hk;omega
  obtain ⟨y,a1,a2,a3,a4⟩:=hc.mem h hj hg;rw [hx] at a1;obtain rfl:=Option.some.inj a1;rw [a3,a4];exact hn j hj hg
 | tm k=>obtain ⟨y,h1,h3,_⟩:=hc.tmS k hz.1 hz.2;rw [hx] at h1;rw [Option.some.inj h1] at hk;omega
 | sg k=>obtain ⟨y,h1,h3,_⟩:=hc.sgS (hsg k rfl) k hz;rw [hx] at h1;rw [Option.some.inj h1] at hk;omega
 | pl a o=>obtain ⟨y,h1,h3,_⟩:=hc.plS a o hz;rw [hx] at h1;rw [Option.some.inj h1] at hk;omega
end Go.Pn
namespace Go.Pn
open Go
variable {c:Aa} {q:CasD} {s:Ad} {E:Nat->Int} {V M:Nat->Bool} {T:Nat->Int} {st:Bool}
def CasD.V1 (q:CasD) (E:Nat->Int) (V M:Nat->Bool) (T:Nat->Int) (st:Bool) (a:Nat):Bool:=if q.PL E M T st a true=q.PL E M T st a false then V a else q.PL E M T st a true
def CasD.E1 (q:CasD) (E:Nat->Int) (V M:Nat->Bool) (T:Nat->Int) (st:Bool) (a:Nat):Int:=Ns (q.V1 E V M T st a) (E a)
theorem Bs.lin (hc:CasP c q) (h:Bs c q s E V M T st) (g:Gk c q s E M T st) {a:Nat} (ha:a < q.A) (o:Bool):Pn.lin s (if o=true then c.Plus.getD a 0 else c.Minus.getD a 0)=q.PL E M T st a o:=by
 have key:Pn.lin s ((q.L (.pl a o):Nat):Int)=q.PL E M T st a o:=by
  unfold Pn.lin;rw [HG];show lv s (q.L (.pl a o))=_;rw [hc.lvL h.fit,g.pl a o ha]
 cases o with
 | true=>rw [if_pos rfl,hc.pls a ha];exact key
 | false=>rw [if_neg (by decide),hc.mns a ha];exact key
theorem Bs.vlv (hc:CasP c q) (h:Bs c q s E V M T st) (g:Gk c q s E M T st) {a:Nat} (ha:a < q.A):Pn.vlv c s a=q.V1 E V M T st a:=by
 have h1:=h.lin hc g ha true;have h2:=h.lin hc g ha false;rw [if_pos rfl] at h1;rw [if_neg (by decide)] at h2;unfold Pn.vlv CasD.V1;rw [h1,h2,h.v a ha]
theorem Bs.rnd (hc:CasP c q) (h:Bs c q s E V M T st) (g:Gk c q s E M T st):Bs c q (Pn.rnd c s) (q.E1 E V M T st) (q.V1 E V M T st) M T st:=by
 have ha:=hc.a;refine ⟨Vc h.fit,λa h1=>?_,λa h1=>?_,h.i,h.m,h.m0,h.t⟩
 ·show ((List.range s.Ends.length).map λi=>Ns (Pn.vlv c s i) (s.Ends.getD i 0)).getD a 0=_;rw [Cw (by rw [h.fit.e];omega),h.vlv hc g h1,h.e a h1];rfl
 ·show ((List.range s.Valves.length).map (Pn.vlv c s)).getD a false=_;rw [Cw (by rw [h.fit.v];omega),h.vlv hc g h1]
theorem Bs.rnd_same (hc:CasP c q) (h:Bs c q s E V M T st) (g:Gk c q s E M T st) (hE:∀ a,a < q.A->q.E1 E V M T st a=E a) (hV:∀ a,a < q.A->q.V1 E V M T st a=V a):Pn.rnd c s=s:=by
 have hr:=h.rnd hc g;have ha:=hc.a;refine E8 ?_ ?_ rfl rfl rfl
 ·exact Co (d:=0) (hr.fit.e.trans h.fit.e.symm) λi hi=>by
   have:=hr.fit.e;rw [hr.e i om_,h.e i om_,hE i om_]
 ·exact Co (d:=false) (hr.fit.v.trans h.fit.v.symm) λi hi=>by
   have:=hr.fit.v;rw [hr.v i om_,h.v i om_,hV i om_]
theorem Bs.nop (hc:CasP c q) (h:Bs c q s E V M T st) (g:Gk c q s E M T st) (hn:∀ a,a < q.A->(q.PL E M T st a true && q.PL E M T st a false)=false) (y:Int):¬ rnP c s y:=by
 rintro ⟨a,ha,_,hy⟩;have ha':a < q.A:=by rw [← hc.a];exact ha
 have h1:=h.lin hc g ha' true;have h2:=h.lin hc g ha' false;rw [if_pos rfl] at h1;rw [if_neg (by decide)] at h2;rw [h1,h2,hn a ha'] at hy;cases hy
def CasD.nc (q:CasD) (E:Nat->Int) (M:Nat->Bool) (T:Nat->Int) (st:Bool):Prop:=∀ j,j < q.G->(q.G=2->j=1)->(q.on E M T st j && q.off E M T st j)=false
inductive Setl (q:CasD) (E:Nat->Int) (st:Bool):Nat->(Nat->Bool)->(Nat->Int)->(Nat->Bool)->(Nat->Int)->Prop
 | fix {M:Nat->Bool} {T:Nat->Int} (hM:∀ j,j < q.G->q.M1 E M T st j=M j) (hT:∀ k,k < q.n->q.W k=true->q.T1 E M T k=T k) (hn:q.nc E M T st):Setl q E st 0 M T M T
 | step {r:Nat} {M M' Ms:Nat->Bool} {T T' Ts:Nat->Int} (hM:∀ j,j < q.G->q.M1 E M T st j=M' j) (hT:∀ k,k < q.n->q.W k=true->q.T1 E M T k=T' k) (hn:q.nc E M T st) (h:Setl q E st r M' T' Ms Ts):Setl q E st (r + 1) M T Ms Ts
theorem Setl.run (hc:CasP c q) {r:Nat} {Ms:Nat->Bool} {Ts:Nat->Int} (h:Setl q E st r M T Ms Ts):∀ {s:Ad} {k:Nat},Bs c q s E V M T st->r + 2<=k ->
  ∃ t,stl c k s=some t/\Bs c q t E V Ms Ts st/\Gk c q t E Ms Ts st/\gates c t=t/\∀ y,¬ DP c k s y:=by
 induction h with
 | fix hM hT hn=>
  intro s k hb hk;obtain ⟨k,rfl⟩:∃ k',k=k' + 2:=⟨k - 2,by omega⟩;have g:=hb.gates hc;refine ⟨gates c s,hb.stl hc hM hT k,g,hb.gk hc,hb.gg hc,λy hy=>?_⟩;have h1:=g.stl hc hM hT 0;rw [hb.gg hc] at h1;have key:∀ u,Bs c q u E V _ _ st->once c u=gates c u:=λu hu=>by
   have h1:=hu.once hc;exact Bs.eq hc (h1.cong hc.g2 (λ_ _=>rfl) (λ_ _=>rfl) hM hT) (hu.gates hc) (hu.once_gk hc hM) (hu.gk hc)
  rcases hy with hy | ⟨_,hy⟩
  ·exact hb.noc hc hn y hy
  ·rw [key s hb] at hy;rcases hy with hy | ⟨hy,_⟩
   ·exact g.noc hc hn y hy
   ·rw [key _ g,hb.gg hc,Gp] at hy;cases hy
 | step hM hT hn h ih=>
  intro s k hb hk;obtain ⟨k,rfl⟩:∃ k',k=k' + 2:=⟨k - 2,by omega⟩;have h1:=(hb.once hc).cong hc.g2 (λ_ _=>rfl) (λ_ _=>rfl) hM hT;obtain ⟨t,h2,h3,h4,h5,h6⟩:=ih (k:=k + 1) h1 om_;refine ⟨t,by rw [Wi,h2],h3,h4,h5,λy hy=>?_⟩;rcases hy with hy | ⟨_,hy⟩
  ·exact hb.noc hc hn y hy
  ·exact h6 y hy
structure Rst (q:CasD) (E:Nat->Int) (V M:Nat->Bool) (T:Nat->Int) (st:Bool):Prop where
 fM:∀ j,j < q.G->q.M1 E M T st j=M j
 fT:∀ k,k < q.n->q.W k=true->q.T1 E M T k=T k
 fE:∀ a,a < q.A->q.E1 E V M T st a=E a
 fV:∀ a,a < q.A->q.V1 E V M T st a=V a
 fn:q.nc E M T st
 fp:∀ a,a < q.A->(q.PL E M T st a true && q.PL E M T st a false)=false
structure At_ (c:Aa) (q:CasD) (s:Ad) (E:Nat->Int) (V M:Nat->Bool) (T:Nat->Int) (st:Bool):Prop where
 b:Bs c q s E V M T st
 g:Gk c q s E M T st
 r:Rst q E V M T st
theorem At_.gates (hc:CasP c q) (h:At_ c q s E V M T st):Pn.gates c s=s:=Bs.eq hc (h.b.gates hc) h.b (h.b.gk hc) h.g
theorem At_.stl (hc:CasP c q) (h:At_ c q s E V M T st):Pn.stl c 65 s=some s:=by
 have:=h.b.stl hc h.r.fM h.r.fT 63;rw [h.gates hc] at this;exact this
theorem At_.rnd (hc:CasP c q) (h:At_ c q s E V M T st):Pn.rnd c s=s:=h.b.rnd_same hc h.g h.r.fE h.r.fV
theorem At_.rst (hc:CasP c q) (h:At_ c q s E V M T st) (k:Nat):Pn.rst c (k + 1) s=some s:=Zg (h.stl hc) (h.rnd hc)
theorem At_.qt (hc:CasP c q) (h:At_ c q s E V M T st):Qt c s:=⟨s,h.stl hc,by rw [h.rnd hc,Gp]⟩
theorem At_.rstP (hc:CasP c q) (h:At_ c q s E V M T st) (k:Nat) (y:Int):¬ Pn.rstP c (k + 1) s y:=by
 intro hy;unfold Pn.rstP at hy;obtain ⟨t,h1,h2,h3,h4,h5⟩:=(Setl.fix h.r.fM h.r.fT h.r.fn).run hc h.b (k:=65) om_;rw [h.stl hc] at h1 hy;obtain rfl:=Option.some.inj h1;rcases hy with (hy | hy) | ⟨hy,_⟩
 ·exact h5 y hy
 ·exact h.b.nop hc h.g h.r.fp y hy
 ·rw [h.rnd hc,Gp] at hy;cases hy
theorem Bs.rest (hc:CasP c q) {r:Nat} {Ms:Nat->Bool} {Ts:Nat->Int} {E':Nat->Int} {V':Nat->Bool} (hb:Bs c q s E V M T st) (h:Setl q E st r M T Ms Ts) (hr:r<=60)
  (hp:∀ a,a < q.A->(q.PL E Ms Ts st a true && q.PL E Ms Ts st a false)=false)
  (hE:∀ a,a < q.A->q.E1 E V Ms Ts st a=E' a) (hV:∀ a,a < q.A->q.V1 E V Ms Ts st a=V' a) (hR:Rst q E' V' Ms Ts st) :
  ∃ u,Pn.rst c 65 s=some u/\At_ c q u E' V' Ms Ts st/\∀ y,¬ Pn.rstP c 65 s y:=by
 obtain ⟨t,h1,h2,h3,h4,h5⟩:=h.run hc hb (k:=65) om_;have b2:=(h2.rnd hc h3).cong hc.g2 hE hV (λ_ _=>rfl) (λ_ _ _=>rfl);obtain ⟨u,g1,g2,g3,g4,g5⟩:=(Setl.fix hR.fM hR.fT hR.fn).run hc b2 (k:=65) om_;have hu:At_ c q u E' V' Ms Ts st:=⟨g2,g3,hR⟩;refine ⟨u,?_,hu,λy hy=>?_⟩
 ·rw [Wm h1,Wm g1,hu.rnd hc,hu.rst hc]
 ·unfold Pn.rstP at hy;rw [h1] at hy;dsimp only at hy;rcases hy with (hy | hy) | ⟨_,hy⟩
  ·exact h5 y hy
  ·exact h2.nop hc h3 hp y hy
  ·unfold Pn.rstP at hy;rw [g1] at hy;dsimp only at hy;rcases hy with (hy | hy) | ⟨_,hy⟩
   ·exact g5 y hy
   ·exact g2.nop hc g3 hR.fp y hy
   ·rw [hu.rnd hc] at hy;exact hu.rstP hc _ y hy
end Go.Pn
namespace Go.Pn
open Go
def CasD.pos (q:CasD):Nat->Nat->Bool
 | 0,_=>false
 | k + 1,a=>if (a,true)∈q.S k then true else if (a,false)∈q.S k then false else q.pos k a
structure SqP (q:CasD):Prop where
 n0:0 < q.n
 ne:∀ k,k < q.n->q.S k≠[]
 fits:∀ k,k < q.n->∀ a o,(a,o)∈q.S k->q.pos k a=!o
 back:∀ a,q.pos q.n a=false
 g0:q.g 0=0
 gs:∀ k,k + 1 < q.n->q.g (k + 1)=q.g k\/q.g (k + 1)=q.g k + 1
 gl:q.g (q.n - 1) + 1=q.G
 gu:∀ i k,i < k->k < q.n->q.g i=q.g k->∀ a o o',(a,o)∈q.S i->(a,o')∈q.S k->False
 gch:q.ch=true->∀ k,q.g k=k
 la:∀ j,j < q.G->q.g (q.la j)=j/\(q.la j + 1 < q.n->q.g (q.la j + 1)=j + 1)
variable {q:CasD}
theorem SqP.pos_in (h:SqP q) {k a:Nat} {o:Bool} (hk:k < q.n) (ha:(a,o)∈q.S k):q.pos (k + 1) a=o:=by
 have h1:=h.fits k hk a o ha;unfold CasD.pos;cases o with
 | true=>rw [if_pos ha]
 | false=>
  rw [if_neg (λe=>by have:=h.fits k hk a true e;rw [h1] at this;cases this),if_pos ha]
theorem Di {k a:Nat} (ha:∀ o,(a,o) ∉ q.S k):q.pos (k + 1) a=q.pos k a:=by
 show (if (a,true)∈q.S k then true else if (a,false)∈q.S k then false else q.pos k a)=_
 rw [if_neg (ha true),if_neg (ha false)]
theorem SqP.mono (h:SqP q) {i:Nat}:∀ {k:Nat},i<=k->k < q.n->q.g i<=q.g k
 | 0,h1,_=>by
  obtain rfl:i=0:=by omega
  exact GT _
 | k + 1,h1,h2=>by
  rcases G8 h1 with e | e
  ·subst e;exact GT _
  ·have:=h.mono (i:=i) (k:=k) om_ om_;rcases h.gs k h2 with e | e <;> omega
theorem SqP.btw (h:SqP q) {i m k:Nat} (h1:i<=m) (h2:m<=k) (h3:k < q.n) (hg:q.g i=q.g k):q.g m=q.g k:=by
 have a:=h.mono h1 om_;have b:=h.mono h2 h3;omega
theorem SqP.posK (h:SqP q) {i a:Nat} {o:Bool} (ha:(a,o)∈q.S i):∀ {k:Nat},i<=k->k < q.n->q.g i=q.g k->q.pos (k + 1) a=o
 | 0,h1,h2,_=>by
  obtain rfl:i=0:=by omega
  exact h.pos_in h2 ha
 | k + 1,h1,h2,hg=>by
  rcases G8 h1 with e | e
  ·subst e;exact h.pos_in h2 ha
  ·have hb:=h.btw (show i<=k by omega) (show k<=k + 1 by omega) h2 hg;rw [Di (λo' ho=>h.gu i (k + 1) e h2 hg a o o' ha ho)];exact h.posK ha om_ om_ om_
theorem SqP.posB (h:SqP q) {f k a:Nat} {o:Bool} (hk:k < q.n) (ha:(a,o)∈q.S k) (hf:f<=k) (hg:q.g f=q.g k):q.pos f a=!o:=by
 have key:∀ d,d<=k - f->q.pos (k - d) a=!o:=by
  intro d
  induction d with
  | zero=>intro _;exact h.fits k hk a o ha
  | succ d ih=>
   intro hd;have h1:=ih om_;have hm:=h.btw (show f<=k - (d + 1) by omega) (show k - (d + 1)<=k by omega) hk hg;rw [show k - d=k - (d + 1) + 1 by omega,Di (λo' ho=>h.gu (k - (d + 1)) k om_ hk hm a o' o ho ha)] at h1;exact h1
 have:=key (k - f) (GT _);rw [show k - (k - f)=f by omega] at this;exact this
def CasD.Ek (q:CasD) (k:Nat) (mv:Nat->Bool) (a:Nat):Int:=if mv a=true then (if q.pos (k + 1) a=true then 1 else 3) else Wd (q.pos (k + 1) a)
def CasD.Ep (q:CasD) (f:Nat) (a:Nat):Int:=Wd (q.pos f a)
theorem Ro {a b:Bool}:(Wd a == Wd b)=(a == b):=by cases a <;> cases b <;> decide
def CasD.mvs (q:CasD) (k:Nat) (mv:Nat->Bool):Prop:=∀ a,mv a=true->∃ o,(a,o)∈q.S k
theorem SqP.cm_lo (h:SqP q) {k i:Nat} {mv:Nat->Bool} (hm:q.mvs k mv) (hi:i < k) (hk:k < q.n) (hg:q.g i=q.g k):q.cm (q.Ek k mv) i=true:=by
 unfold CasD.cm;rw [GG];rintro ⟨a,o⟩ hx;have hma:mv a=false:=by
  cases e:mv a with
  | false=>rfl
  | true=>obtain ⟨o',ho⟩:=hm a e;exact (h.gu i k hi hk hg a o o' hx ho).elim
 show (q.Ek k mv a == Wd o)=true;unfold CasD.Ek;rw [if_neg (by rw [hma];decide),h.posK hx om_ hk hg,Ro];simp
theorem SqP.cm_at (h:SqP q) {k:Nat} {mv:Nat->Bool} (hk:k < q.n):q.cm (q.Ek k mv) k=(q.S k).all λx=>!(mv x.1):=by
 unfold CasD.cm;rw [G0,GG,GG];have key:∀ x∈q.S k,(q.Ek k mv x.1 == Wd x.2)=!(mv x.1):=by
  rintro ⟨a,o⟩ hx;unfold CasD.Ek;rw [h.pos_in hk hx];dsimp only;cases mv a with
  | true=>rw [if_pos rfl]; cases o <;> decide
  | false=>rw [if_neg (by decide),Ro];simp
 exact ⟨λg x hx=>by rw [← key x hx];exact g x hx,λg x hx=>by rw [key x hx];exact g x hx⟩
theorem SqP.cm_B (h:SqP q) {E:Nat->Int} {f k:Nat} (hk:k < q.n) (hf:f<=k) (hg:q.g f=q.g k) (hE:∀ a o,(a,o)∈q.S k->E a=q.Ep f a):q.cm E k=false:=by
 obtain ⟨⟨a,o⟩,hx⟩:=List.exists_mem_of_ne_nil _ (h.ne k hk);cases hc:q.cm E k with
 | false=>rfl
 | true=>
  unfold CasD.cm at hc;have:=GG.1 hc _ hx;dsimp only at this;rw [hE a o hx] at this;unfold CasD.Ep at this;rw [h.posB hk hx hf hg,Ro] at this;cases o <;> cases this
theorem SqP.cm_hi (h:SqP q) {k i:Nat} {mv:Nat->Bool} (hm:q.mvs k mv) (hi:k < i) (hn:i < q.n) (hg:q.g k=q.g i):q.cm (q.Ek k mv) i=false:=by
 have hb:=h.btw (show k<=k + 1 by omega) (show k + 1<=i by omega) hn hg;refine h.cm_B hn (show k + 1<=i by omega) hb λa o hx=>?_;have hma:mv a=false:=by
  cases e:mv a with
  | false=>rfl
  | true=>obtain ⟨o',ho⟩:=hm a e;exact (h.gu k i hi hn hg a o' o ho hx).elim
 unfold CasD.Ek CasD.Ep;rw [if_neg (by rw [hma];decide)]
def CasD.Mj (j:Nat) (i:Nat):Bool:=i == j
def CasD.Tk (q:CasD) (k:Nat) (t:Int) (i:Nat):Int:=if i=k then t else if i < k/\q.g i=q.g k then 2 else 0
theorem SqP.la_le (h:SqP q) {k:Nat} (hk:k < q.n) (hj:q.g k < q.G):k<=q.la (q.g k):=by
 obtain ⟨h1,h2⟩:=h.la _ hj;rcases G9 (q.la (q.g k)) k with h3 | h3
 ·have h4:=h2 om_;have:=h.mono (show q.la (q.g k) + 1<=k by omega) hk;omega
 ·exact h3
def CasD.run (q:CasD) (k:Nat) (mv:Nat->Bool) (t:Int):Prop:=((∃ a o,(a,o)∈q.S k/\mv a=true)/\t=0)\/((∀ a o,(a,o)∈q.S k->mv a=false)/\q.W k=true/\t=1)
theorem SqP.cm_run (h:SqP q) {k:Nat} {mv:Nat->Bool} (hk:k < q.n):q.cm (q.Ek k mv) k=true↔∀ a o,(a,o)∈q.S k->mv a=false:=by
 rw [h.cm_at hk,GG];exact ⟨λg a o hx=>by have:=g _ hx;simpa using this,λg x hx=>by have:=g x.1 x.2 hx;simpa using this⟩
theorem SqP.EN_run (h:SqP q) {k:Nat} {mv:Nat->Bool} {t:Int} (hk:k < q.n) (hr:q.run k mv t):q.EN (q.Ek k mv) (q.Tk k t) k=false:=by
 unfold CasD.EN CasD.Tk;rw [if_pos rfl];rcases hr with ⟨⟨a,o,hx,hm⟩,rfl⟩ | ⟨_,hw,rfl⟩
 ·split
  ·rfl
  ·cases hc:q.cm (q.Ek k mv) k with
   | false=>rfl
   | true=>have:=(h.cm_run hk).1 hc a o hx;rw [hm] at this;cases this
 ·rw [if_pos hw];rfl
theorem SqP.EN_hi (h:SqP q) {k i:Nat} {mv:Nat->Bool} {t:Int} (hm:q.mvs k mv) (hi:k < i) (hn:i < q.n) (hg:q.g k=q.g i):q.EN (q.Ek k mv) (q.Tk k t) i=false:=by
 unfold CasD.EN CasD.Tk;split
 ·rw [if_neg om_,if_neg om_];rfl
 ·exact h.cm_hi hm hi hn hg
theorem EX_f {E T:Nat->Int} {st:Bool} {j:Nat} (h:q.EN E T (q.la j)=false):q.EX E T st j=false:=by unfold CasD.EX;rw [h];rfl
theorem SqP.EN_la (h:SqP q) {k:Nat} {mv:Nat->Bool} {t:Int} (hm:q.mvs k mv) (hk:k < q.n) (hj:q.g k < q.G) (hl:∀ j,j < q.G->q.la j < q.n) (he:q.la (q.g k)=k->q.EN (q.Ek k mv) (q.Tk k t) k=false):q.EN (q.Ek k mv) (q.Tk k t) (q.la (q.g k))=false:=by
 have h1:=h.la_le hk hj;obtain ⟨h2,_⟩:=h.la _ hj;rcases G8 h1 with e | e
 ·rw [← e];exact he e.symm
 ·exact h.EN_hi hm e (hl _ hj) h2.symm
end Go.Pn
namespace Go.Pn
open Go
variable {c:Aa} {q:CasD} {E:Nat->Int} {V M:Nat->Bool} {T:Nat->Int} {st:Bool}
theorem CasD.nx_ne (h2:2<=q.G) {j:Nat} (hj:j < q.G):q.nx j≠j:=by unfold CasD.nx; split <;> omega
theorem CasD.pv_nx (h2:2<=q.G) {j:Nat} (hj:j < q.G):q.pv (q.nx j)=j:=by
 unfold CasD.nx CasD.pv;split
 ·rw [if_neg om_];omega
 ·rw [if_pos rfl];omega
theorem CasD.pv_eq (h2:2<=q.G) {i j:Nat} (hi:i < q.G) (hj:j < q.G) (h:q.pv i=j):i=q.nx j:=by
 unfold CasD.pv at h;unfold CasD.nx;split at h
 ·rw [if_neg om_];assumption
 ·rw [if_pos om_];omega
theorem CasD.nx_inj (h2:2<=q.G) {i j:Nat} (hi:i < q.G) (hj:j < q.G) (h:q.nx i=q.nx j):i=j:=by
 rw [← CasD.pv_nx h2 hi,← CasD.pv_nx h2 hj,h]
theorem Lb {j i:Nat}:CasD.Mj j i=true↔i=j:=by unfold CasD.Mj;simp
theorem F5 {j i:Nat} (h:i≠j):CasD.Mj j i=false:=by unfold CasD.Mj;simpa using h
theorem Yt {j:Nat}:CasD.Mj j j=true:=by unfold CasD.Mj;simp
theorem Mb (h2:2<=q.G) {j:Nat} (hj:j < q.G) (he:q.EX E T st j=false):(∀ i,i < q.G->q.M1 E (CasD.Mj j) T st i=CasD.Mj j i)/\q.nc E (CasD.Mj j) T st:=by
 by_cases e:q.G=2
 ·have hmd:q.md E (CasD.Mj j) T st 1=CasD.Mj j 1:=by
   unfold CasD.md CasD.on CasD.off;rw [if_pos e,if_pos e];rcases (show j=0\/j=1 by omega) with rfl | rfl
   ·rw [he,F5 om_]; split <;> rfl
   ·rw [he,Yt];cases q.EX E T st 0 <;> rfl
  refine ⟨λi hi=>?_,λi hi hg=>?_⟩
  ·unfold CasD.M1;by_cases h0:i=0
   ·subst h0;rw [if_pos ⟨e,rfl⟩,hmd];rcases (show j=0\/j=1 by omega) with rfl | rfl <;> rfl
   ·obtain rfl:i=1:=by omega
    rw [if_neg (λh=>by have:=h.2;omega),hmd]
  ·unfold CasD.on CasD.off;rw [if_pos e,if_pos e];rcases (show j=0\/j=1 by omega) with rfl | rfl
   ·rw [he];rfl
   ·rw [he,JW]
 ·have hon:∀ i,i < q.G->q.on E (CasD.Mj j) T st i=false:=λi hi=>by
   unfold CasD.on;rw [if_neg e];by_cases h:q.pv i=j
   ·rw [h,he,JW]
   ·rw [F5 h];rfl
  refine ⟨λi hi=>?_,λi hi hg=>by rw [hon i hi];rfl⟩;unfold CasD.M1 CasD.md;rw [if_neg (λh=>e h.1),hon i hi];unfold CasD.off;rw [if_neg e];by_cases h:q.nx i=j
  ·rw [h,Yt,if_neg (by decide),F5 (λe=>by subst e;exact CasD.nx_ne h2 hi h)]
  ·rw [F5 h,if_pos rfl]
theorem nextM2 (e:q.G=2) {j:Nat} (hj:j < q.G) (he:q.EX E T st j=true) (he':q.EX E T st (q.nx j)=false):(∀ i,i < q.G->q.M1 E (CasD.Mj j) T st i=CasD.Mj (q.nx j) i)/\q.nc E (CasD.Mj j) T st:=by
 have hx:q.nx j=1 - j:=by unfold CasD.nx; split <;> omega
 rw [hx] at he' ⊢;have hmd:q.md E (CasD.Mj j) T st 1=CasD.Mj (1 - j) 1:=by
  unfold CasD.md CasD.on CasD.off;rw [if_pos e,if_pos e];rcases (show j=0\/j=1 by omega) with rfl | rfl
  ·rw [he,he'];rfl
  ·rw [he,he'];rfl
 refine ⟨λi hi=>?_,λi hi hg=>?_⟩
 ·unfold CasD.M1;by_cases h0:i=0
  ·subst h0;rw [if_pos ⟨e,rfl⟩,hmd];rcases (show j=0\/j=1 by omega) with rfl | rfl <;> rfl
  ·obtain rfl:i=1:=by omega
   rw [if_neg (λh=>by have:=h.2;omega),hmd]
 ·unfold CasD.on CasD.off;rw [if_pos e,if_pos e];rcases (show j=0\/j=1 by omega) with rfl | rfl
  ·rw [he,he'];rfl
  ·rw [he,he'];rfl
def CasD.Mk (q:CasD) (j i:Nat):Bool:=i == j || i == q.nx j
theorem nextM3 (h2:2<=q.G) (e:q.G≠2) {j:Nat} (hj:j < q.G) (he:q.EX E T st j=true):(∀ i,i < q.G->q.M1 E (CasD.Mj j) T st i=q.Mk j i)/\q.nc E (CasD.Mj j) T st:=by
 have hon:∀ i,i < q.G->q.on E (CasD.Mj j) T st i=(i == q.nx j):=λi hi=>by
  unfold CasD.on;rw [if_neg e];by_cases h:i=q.nx j
  ·subst h;rw [CasD.pv_nx h2 hj,Yt,he];simp
  ·rw [F5 (λh'=>h (CasD.pv_eq h2 hi hj h'))];simp [h]
 have hof:∀ i,i < q.G->q.off E (CasD.Mj j) T st i=(q.nx i == j):=λi hi=>by
  unfold CasD.off;rw [if_neg e];rfl
 have h3:q.nx (q.nx j)≠j:=by unfold CasD.nx; split <;> split <;> omega
 refine ⟨λi hi=>?_,λi hi hg=>?_⟩
 ·unfold CasD.M1 CasD.md CasD.Mk;rw [if_neg (λh=>e h.1),hon i hi,hof i hi];by_cases h:i=q.nx j
  ·subst h;rw [show (q.nx j == q.nx j)=true from beq_self_eq_true _,show (q.nx (q.nx j) == j)=false by simpa using h3,if_neg (by decide)];simp
  ·rw [show (i == q.nx j)=false by simpa using h,JF];by_cases h4:q.nx i=j
   ·rw [show (q.nx i == j)=true by simpa using h4,if_neg (by decide)];have:i≠j:=λe=>by subst e;exact CasD.nx_ne h2 hi h4
    simp [this]
   ·rw [show (q.nx i == j)=false by simpa using h4,if_pos rfl];rfl
 ·rw [hon i hi,hof i hi];by_cases h:i=q.nx j
  ·subst h;rw [show (q.nx (q.nx j) == j)=false by simpa using h3,JW]
  ·rw [show (i == q.nx j)=false by simpa using h];rfl
theorem nextM4 (h2:2<=q.G) (e:q.G≠2) {j:Nat} (hj:j < q.G) (he:q.EX E T st j=true) (he':q.EX E T st (q.nx j)=false):(∀ i,i < q.G->q.M1 E (q.Mk j) T st i=CasD.Mj (q.nx j) i)/\q.nc E (q.Mk j) T st:=by
 have hn:=CasD.nxl h2 (j:=j);have h3:q.nx (q.nx j)≠j:=by unfold CasD.nx; split <;> split <;> omega
 have h5:=CasD.nx_ne h2 hj;have h6:=CasD.nx_ne h2 hn;have hon:∀ i,i < q.G->q.on E (q.Mk j) T st i=(i == q.nx j):=λi hi=>by
  unfold CasD.on;rw [if_neg e];by_cases h:i=q.nx j
  ·subst h;rw [CasD.pv_nx h2 hj,he];unfold CasD.Mk;simp
  ·by_cases h7:q.pv i=q.nx j
   ·rw [h7,he',JW];simp [h]
   ·have h8:q.pv i≠j:=λh'=>h (CasD.pv_eq h2 hi hj h');have h10:q.Mk j (q.pv i)=false:=by unfold CasD.Mk;simp [h7,h8]
    rw [h10,show (i == q.nx j)=false by simpa using h];rfl
 have hof:∀ i,i < q.G->q.off E (q.Mk j) T st i=(q.nx i == j || i == j):=λi hi=>by
  unfold CasD.off CasD.Mk;rw [if_neg e];have h8:(q.nx i == q.nx j)=(i == j):=by
   rw [G0,beq_iff_eq,beq_iff_eq];exact ⟨CasD.nx_inj h2 hi hj,λe=>by rw [e]⟩
  rw [h8]
 refine ⟨λi hi=>?_,λi hi hg=>?_⟩
 ·unfold CasD.M1 CasD.md;rw [if_neg (λh=>e h.1),hon i hi,hof i hi];by_cases h:i=q.nx j
  ·subst h;rw [Yt,show (q.nx j == q.nx j)=true from beq_self_eq_true _,show (q.nx (q.nx j) == j || q.nx j == j)=false by simp [h3,h5],if_neg (by decide)]
  ·rw [F5 h,show (i == q.nx j)=false by simpa using h];cases h9:(q.nx i == j || i == j) with
   | true=>rw [if_neg (by decide)]
   | false=>
    rw [if_pos rfl];unfold CasD.Mk;simp only [H6] at h9;rw [h9.2];simpa using h
 ·rw [hon i hi,hof i hi];by_cases h:i=q.nx j
  ·subst h;rw [show (q.nx (q.nx j) == j || q.nx j == j)=false by simp [h3,h5],JW]
  ·rw [show (i == q.nx j)=false by simpa using h];rfl
theorem DB {k i:Nat} {t:Int} (h:i < k) (hg:q.g i=q.g k):q.Tk k t i=2:=by unfold CasD.Tk;rw [if_neg om_,if_pos ⟨h,hg⟩]
theorem Lf {k:Nat} {t:Int}:q.Tk k t k=t:=by unfold CasD.Tk;rw [if_pos rfl]
theorem E5 {k i:Nat} {t:Int} (h:k < i):q.Tk k t i=0:=by unfold CasD.Tk;rw [if_neg om_,if_neg om_]
theorem Tk_o {k i:Nat} {t:Int} (hg:q.g i≠q.g k):q.Tk k t i=0:=by unfold CasD.Tk;rw [if_neg (λe=>hg (by rw [e])),if_neg (λe=>hg e.2)]
theorem timC (hs:SqP q) {k:Nat} (hk:k < q.n) {M:Nat->Bool} (hM:M (q.g k)=true) (hM':∀ i,i < q.n->M (q.g i)=true->q.g i≠q.g k->q.cm (q.Ep (k + 1)) i=false):∀ i,i < q.n->q.W i=true->q.T1 (q.Ep (k + 1)) M (q.Tk k 2) i=q.Tk k 2 i:=by
 intro i hi _;have hE:q.Ep (k + 1)=q.Ek k λ_=>false:=by funext a;unfold CasD.Ek CasD.Ep;rw [if_neg As]
 have hm:q.mvs k λ_=>false:=λa h=>by cases h
 unfold CasD.T1;by_cases hg:q.g i=q.g k
 ·rw [hg,hM,H0];rcases J1 i k with h | h | h
  ·rw [hE,hs.cm_lo hm h hk hg,if_neg (by decide),DB h hg];rfl
  ·subst h;rw [hE,(hs.cm_run hi).2 (λ_ _ _=>rfl),if_neg (by decide),Lf];rfl
  ·rw [hE,hs.cm_hi hm h hi hg.symm,if_pos rfl,E5 h]
 ·have hT:q.Tk k 2 i=0:=Tk_o hg;rw [hT];cases h:M (q.g i) with
  | false=>rfl
  | true=>rw [hM' i hi h hg];rfl
theorem timZ {j:Nat} (h:∀ i,i < q.n->q.g i=j->q.cm E i=false):∀ i,i < q.n->q.W i=true->q.T1 E (CasD.Mj j) T i=0:=by
 intro i hi _;unfold CasD.T1;by_cases hg:q.g i=j
 ·rw [h i hi hg,JW,if_pos rfl]
 ·rw [F5 hg];rfl
theorem Qb {a:Nat} {o:Bool}:q.PL E M T st a o=true↔∃ k,k < q.n/\(a,o)∈q.S k/\q.SG E M T st k=true:=by
 unfold CasD.PL CasD.at_;rw [GK];constructor
 ·rintro ⟨k,hk,h⟩;rw [HX,GE] at hk;exact ⟨k,hk.1,by simpa using hk.2,h⟩
 ·rintro ⟨k,hk,ha,h⟩;exact ⟨k,by rw [HX,GE];exact ⟨hk,by simpa using ha⟩,h⟩
theorem plP (hs:SqP q) {m:Nat} (hm:m < q.n) (hS:∀ i,i < q.n->q.SG E M T st i=true->q.g i=q.g m/\i<=m):(∀ a,(q.PL E M T st a true && q.PL E M T st a false)=false)/\∀ a o,q.PL E M T st a o=true->q.pos (m + 1) a=o:=by
 have key:∀ a o,q.PL E M T st a o=true->q.pos (m + 1) a=o:=λa o h=>by
  obtain ⟨i,hi,ha,h⟩:=Qb.1 h;obtain ⟨h1,h2⟩:=hS i hi h;exact hs.posK ha h2 hm h1
 refine ⟨λa=>?_,key⟩;cases h1:q.PL E M T st a true with
 | false=>rfl
 | true=>
  cases h2:q.PL E M T st a false with
  | false=>rfl
  | true=>have:=(key a _ h1).symm.trans (key a _ h2);cases this
theorem v1P (hs:SqP q) {m:Nat} (hm:m < q.n) (hS:∀ i,i < q.n->q.SG E M T st i=true->q.g i=q.g m/\i<=m) (hV:∀ a,(∀ o,q.PL E M T st a o=false)->V a=q.pos (m + 1) a) (a:Nat):q.V1 E V M T st a=q.pos (m + 1) a:=by
 obtain ⟨h1,h2⟩:=plP hs hm hS;have h3:=h1 a;unfold CasD.V1;cases ht:q.PL E M T st a true with
 | true=>
  rw [ht,H0] at h3;rw [h3,if_neg (by decide),h2 a true ht]
 | false=>
  cases hf:q.PL E M T st a false with
  | true=>rw [if_neg (by decide),h2 a false hf]
  | false=>rw [if_pos rfl]; exact hV a λo=>by cases o <;> assumption
end Go.Pn
namespace Go.Pn
open Go
variable {c:Aa} {q:CasD} {s:Ad} {E:Nat->Int} {V M:Nat->Bool} {T:Nat->Int} {st:Bool}
theorem Yr {k:Nat}:q.Ep (k + 1)=q.Ek k λ_=>false:=by funext a;unfold CasD.Ek CasD.Ep;rw [if_neg As]
theorem Pz {i:Nat}:q.SG E M T st i=true↔M (q.g i)=true/\(q.ch=false->i=0->st=true)/\(q.ch=false->i≠0->q.g (i - 1)=q.g i->q.EN E T (i - 1)=true):=by
 unfold CasD.SG;rw [GF];refine and_congr_right λ_=>?_;by_cases hch:q.ch=true
 ·rw [if_pos hch];exact ⟨λ_=>⟨λh=>(by rw [hch] at h;cases h),λh=>(by rw [hch] at h;cases h)⟩,λ_=>rfl⟩
 rw [if_neg hch];have hcf:q.ch=false:=by simpa using hch
 by_cases h:i=0
 ·rw [if_pos h];exact ⟨λg=>⟨λ_ _=>g,λ_ h'=>absurd h h'⟩,λg=>g.1 hcf h⟩
 ·rw [if_neg h];by_cases h2:q.g (i - 1)=q.g i
  ·rw [if_pos h2];exact ⟨λg=>⟨λ_ h'=>absurd h' h,λ_ _ _=>g⟩,λg=>g.2 hcf h h2⟩
  ·rw [if_neg h2];exact ⟨λ_=>⟨λ_ h'=>absurd h' h,λ_ _ h'=>absurd h' h2⟩,λ_=>rfl⟩
theorem SG_run (hs:SqP q) {k:Nat} {mv:Nat->Bool} {t:Int} (hk:k < q.n) (hm:q.mvs k mv) (hr:q.run k mv t) {i:Nat} (hi:i < q.n) (h:q.SG (q.Ek k mv) (CasD.Mj (q.g k)) (q.Tk k t) st i=true):q.g i=q.g k/\i<=k:=by
 obtain ⟨h1,_,h3⟩:=Pz.1 h;have h1:=Lb.1 h1;refine ⟨h1,?_⟩;rcases G9 k i with h4 | h4
 ·exfalso;by_cases hch:q.ch=true
  ·have e1:=hs.gch hch i;have e2:=hs.gch hch k;omega
  have h5:=hs.btw (show k<=i - 1 by omega) (show i - 1<=i by omega) hi h1.symm;have h6:=h3 (by simpa using hch) om_ h5;rcases G8 (show k<=i - 1 by omega) with e | e
  ·rw [← e,hs.EN_run hk hr] at h6;cases h6
  ·rw [hs.EN_hi hm e om_ om_] at h6;cases h6
 ·exact h4
theorem Hp {p:Bool}:Ns p (Wd p)=Wd p:=by cases p <;> decide
theorem E1_run {k:Nat} {mv:Nat->Bool} {a:Nat}:Ns (q.pos (k + 1) a) (q.Ek k mv a)=q.Ek k mv a:=by
 unfold CasD.Ek;cases mv a <;> cases q.pos (k + 1) a <;> rfl
theorem Ma (hc:CasP c q) (hs:SqP q) {k:Nat} {mv:Nat->Bool} {t:Int} (hk:k < q.n) (hm:q.mvs k mv) (hr:q.run k mv t):Rst q (q.Ek k mv) (q.pos (k + 1)) (CasD.Mj (q.g k)) (q.Tk k t) st:=by
 have hS:=λi hi h=>SG_run (st:=st) hs hk hm hr (i:=i) hi h;have hV:=v1P (V:=q.pos (k + 1)) hs hk hS λ_ _=>rfl;obtain ⟨q1,q2⟩:=Mb (st:=st) hc.g2 (hc.gn k hk) (EX_f (hs.EN_la (t:=t) hm hk (hc.gn k hk) hc.ln λ_=>hs.EN_run hk hr));refine ⟨q1,λi hi hw=>?_,λa _=>?_,λa _=>hV a,q2,λa _=>(plP hs hk hS).1 a⟩
 ·unfold CasD.T1;by_cases hg:q.g i=q.g k
  ·rw [hg,Yt,H0];rcases J1 i k with h | h | h
   ·rw [hs.cm_lo hm h hk hg,if_neg (by decide),DB h hg];rfl
   ·subst h;rw [Lf];rcases hr with ⟨⟨a,o,hx,hma⟩,rfl⟩ | ⟨h1,_,rfl⟩
    ·have:q.cm (q.Ek i mv) i=false:=by
      cases hc:q.cm (q.Ek i mv) i with
      | false=>rfl
      | true=>have:=(hs.cm_run hi).1 hc a o hx;rw [hma] at this;cases this
     rw [this,if_pos rfl]
    ·rw [(hs.cm_run hi).2 h1,if_neg (by decide)];rfl
   ·rw [hs.cm_hi hm h hi hg.symm,if_pos rfl,E5 h]
  ·rw [F5 hg,Tk_o hg];rfl
 ·unfold CasD.E1;rw [hV a];exact E1_run
def CasD.fst (q:CasD) (f:Nat):Prop:=∀ i,i < q.n->q.g i=q.g f->f<=i
def CasD.ms (q:CasD) (k:Nat) (a:Nat):Bool:=decide ((a,true)∈q.S k) || decide ((a,false)∈q.S k)
theorem Oa {k a:Nat}:q.ms k a=true↔∃ o,(a,o)∈q.S k:=by
 unfold CasD.ms;rw [H7,decide_eq_true_iff,decide_eq_true_iff];exact ⟨λh=>h.elim (λh=>⟨_,h⟩) λh=>⟨_,h⟩,λ⟨o,h⟩=>by cases o;exact .inr h;exact .inl h⟩
theorem Sv {k:Nat}:q.mvs k (q.ms k):=λ_ h=>Oa.1 h
theorem Ss (hs:SqP q) {k:Nat} (hk:k < q.n):q.run k (q.ms k) 0:=by
 obtain ⟨⟨a,o⟩,hx⟩:=List.exists_mem_of_ne_nil _ (hs.ne k hk);exact .inl ⟨⟨a,o,hx,Oa.2 ⟨o,hx⟩⟩,rfl⟩
theorem Uw {f i:Nat} (hf:q.fst f) (hi:i < q.n):q.Tk f 0 i=0:=by
 unfold CasD.Tk;split
 ·rfl
 ·rw [if_neg];rintro ⟨h1,h2⟩;have:=hf i hi h2;omega
theorem Uu (hs:SqP q) {f i:Nat} (hf:q.fst f) (hi:i < q.n) (hg:q.g i=q.g f):q.cm (q.Ep f) i=false:=hs.cm_B hi (hf i hi hg) hg.symm λ_ _ _=>rfl
theorem DD (hs:SqP q) {f i:Nat} (hf:q.fst f) (hi:i < q.n) (hg:q.g i=q.g f):q.EN (q.Ep f) (q.Tk f 0) i=false:=by
 unfold CasD.EN;rw [Uw hf hi,Uu hs hf hi hg]; split <;> rfl
theorem F4 (hs:SqP q) {f i:Nat} (hf:q.fst f) (hi:i < q.n) (h:q.SG (q.Ep f) (CasD.Mj (q.g f)) (q.Tk f 0) st i=true):i=f/\(q.ch=false->f=0->st=true):=by
 obtain ⟨h1,h2,h3⟩:=Pz.1 h;have h1:=Lb.1 h1;have h4:=hf i hi h1;rcases G8 h4 with e | e
 ·subst e;exact ⟨rfl,h2⟩
 ·exfalso;by_cases hch:q.ch=true
  ·have e1:=hs.gch hch i;have e2:=hs.gch hch f;omega
  have h5:=hs.btw (show f<=i - 1 by omega) (show i - 1<=i by omega) hi h1.symm;have h6:=h3 (by simpa using hch) om_ h5;rw [DD hs hf om_ om_] at h6;cases h6
theorem So (hc:CasP c q) (hs:SqP q) {f:Nat} (hf:q.fst f) (hn:f < q.n):(∀ i,i < q.G->q.M1 (q.Ep f) (CasD.Mj (q.g f)) (q.Tk f 0) st i=CasD.Mj (q.g f) i)/\q.nc (q.Ep f) (CasD.Mj (q.g f)) (q.Tk f 0) st:=by
 have hj:=hc.gn f hn;exact Mb hc.g2 hj (EX_f (DD hs hf (hc.ln _ hj) (hs.la _ hj).1))
theorem FX (hc:CasP c q) (hs:SqP q) {f r:Nat} (hf:q.fst f) (hn:f < q.n) (hb:Bs c q s (q.Ep f) (q.pos f) M T st) (h:Setl q (q.Ep f) st r M T (CasD.Mj (q.g f)) (q.Tk f 0)) (hr:r<=60) (hst:q.ch=false->f=0->st=true) :
  ∃ u,Pn.rst c 65 s=some u/\At_ c q u (q.Ek f (q.ms f)) (q.pos (f + 1)) (CasD.Mj (q.g f)) (q.Tk f 0) st/\∀ y,¬ Pn.rstP c 65 s y:=by
 have hS:∀ i,i < q.n->q.SG (q.Ep f) (CasD.Mj (q.g f)) (q.Tk f 0) st i=true->q.g i=q.g f/\i<=f:=λi hi h=>by
  obtain ⟨e,_⟩:=F4 hs hf hi h;subst e;exact ⟨rfl,GT _⟩
 have hSf:q.SG (q.Ep f) (CasD.Mj (q.g f)) (q.Tk f 0) st f=true:=Pz.2 ⟨Yt,hst,λ_ h1 h2=>by
  have:=hf (f - 1) om_ h2;omega⟩
 have hV:=v1P (V:=q.pos f) hs hn hS λa ha=>by
  refine (Di λo ho=>?_).symm;have:=Qb.2 ⟨f,hn,ho,hSf⟩;rw [ha o] at this;cases this
 refine hb.rest hc h hr (λa _=>(plP hs hn hS).1 a) (λa _=>?_) (λa _=>hV a) (Ma hc hs hn Sv (Ss hs hn));unfold CasD.E1;rw [hV a];unfold CasD.Ek CasD.Ep;cases hm:q.ms f a with
 | true=>
  obtain ⟨o,ho⟩:=Oa.1 hm;rw [hs.pos_in hn ho,hs.fits f hn a o ho];cases o <;> rfl
 | false=>
  rw [Di (λo ho=>by rw [Oa.2 ⟨o,ho⟩] at hm;cases hm),if_neg (by decide)];exact Hp
theorem Wn (hc:CasP c q) (hs:SqP q) (hcf:q.ch=false):Rst q (q.Ep 0) (q.pos 0) (CasD.Mj 0) (q.Tk 0 0) false:=by
 have hf:q.fst 0:=λi _ _=>HQ _;have hg:=hs.g0;have hP:∀ a o,q.PL (q.Ep 0) (CasD.Mj 0) (q.Tk 0 0) false a o=false:=λa o=>by
  cases h:q.PL (q.Ep 0) (CasD.Mj 0) (q.Tk 0 0) false a o with
  | false=>rfl
  | true=>
   obtain ⟨i,hi,_,h⟩:=Qb.1 h;have h:q.SG (q.Ep 0) (CasD.Mj (q.g 0)) (q.Tk 0 0) false i=true:=by rw [hg];exact h
   have:=(F4 hs hf hi h).2 hcf rfl;cases this
 have hq:=So (st:=false) hc hs hf hs.n0;rw [hg] at hq;have hV:∀ a,q.V1 (q.Ep 0) (q.pos 0) (CasD.Mj 0) (q.Tk 0 0) false a=q.pos 0 a:=λa=>by unfold CasD.V1;rw [hP,hP,if_pos rfl]
 refine ⟨hq.1,λi hi hw=>?_,λa _=>?_,λa _=>hV a,hq.2,λa _=>by rw [hP];rfl⟩
 ·rw [timZ (λi hi hgi=>Uu hs hf hi om_) i hi hw,Uw hf hi]
 ·unfold CasD.E1;rw [hV a];exact Hp
def CasD.ij (q:CasD):Nat:=if q.ch=true then q.G - 1 else 0
def CasD.Ti (q:CasD) (i:Nat):Int:=if q.ch=true then q.Tk (q.n - 1) 2 i else q.Tk 0 0 i
theorem ij_f (h:q.ch=false):q.ij=0:=by unfold CasD.ij;rw [h];rfl
theorem Ti_f (h:q.ch=false):q.Ti=q.Tk 0 0:=by funext i;unfold CasD.Ti;rw [h];rfl
theorem ij_t (hs:SqP q) (h:q.ch=true):q.ij=q.g (q.n - 1):=by unfold CasD.ij;rw [if_pos h];have:=hs.gl;omega
theorem Ti_t (h:q.ch=true):q.Ti=q.Tk (q.n - 1) 2:=by funext i;unfold CasD.Ti;rw [if_pos h]
theorem Qe (hs:SqP q):q.pos 0=q.pos (q.n - 1 + 1):=by have:=hs.n0;funext a;rw [show q.n - 1 + 1=q.n by omega,hs.back];rfl
theorem DC (hs:SqP q):q.Ep 0=q.Ep (q.n - 1 + 1):=by funext a;unfold CasD.Ep;rw [Qe hs]
theorem DX (hc:CasP c q) (hs:SqP q) (hch:q.ch=true):Rst q (q.Ep 0) (q.pos 0) (CasD.Mj (q.g (q.n - 1))) (q.Tk (q.n - 1) 2) false:=by
 have hn:=hs.n0;have hk:q.n - 1 < q.n:=by omega
 have hj:=hc.gn _ hk;have hp:=Qe hs;have hEX:q.EX (q.Ep 0) (q.Tk (q.n - 1) 2) false (q.g (q.n - 1))=false:=by unfold CasD.EX;rw [if_pos ⟨hch,hs.gl⟩,JW]
 obtain ⟨q1,q2⟩:=Mb hc.g2 hj hEX;have hS:∀ i,i < q.n->q.SG (q.Ep 0) (CasD.Mj (q.g (q.n - 1))) (q.Tk (q.n - 1) 2) false i=true->q.g i=q.g (q.n - 1)/\i<=q.n - 1:=λi hi h=>⟨Lb.1 (Pz.1 h).1,by omega⟩;have hV:=v1P (V:=q.pos 0) hs hk hS λa _=>by rw [hp]
 refine ⟨q1,λi hi hw=>?_,λa _=>?_,λa _=>?_,q2,λa _=>(plP hs hk hS).1 a⟩
 ·rw [DC hs];exact timC hs hk Yt (λi _ h1 h2=>absurd (Lb.1 h1) h2) i hi hw
 ·unfold CasD.E1;rw [hV a,← hp];exact Hp
 ·rw [hV a,← hp]
theorem Lg (hc:CasP c q) (hs:SqP q):Rst q (q.Ep 0) (q.pos 0) (CasD.Mj q.ij) q.Ti false:=by
 by_cases hch:q.ch=true
 ·rw [ij_t hs hch,Ti_t hch];exact DX hc hs hch
 ·rw [ij_f (by simpa using hch),Ti_f (by simpa using hch)];exact Wn hc hs (by simpa using hch)
theorem EP (hc:CasP c q) (hs:SqP q) {r:Nat} (hb:Bs c q s (q.Ep 0) (q.pos 0) M T false) (h:Setl q (q.Ep 0) false r M T (CasD.Mj q.ij) q.Ti) (hr:r<=60) :
  ∃ u,Pn.rst c 65 s=some u/\At_ c q u (q.Ep 0) (q.pos 0) (CasD.Mj q.ij) q.Ti false/\∀ y,¬ Pn.rstP c 65 s y:=by
 have hR:=Lg hc hs;exact hb.rest hc h hr hR.fp hR.fE hR.fV hR
theorem DE (hs:SqP q) {k:Nat} (hk:k < q.n):q.EN (q.Ep (k + 1)) (q.Tk k 2) k=true:=by
 unfold CasD.EN;rw [Lf,Yr,(hs.cm_run hk).2 λ_ _ _=>rfl]; split <;> rfl
theorem cont_ (hc:CasP c q) (hs:SqP q) {k:Nat} (hk:k + 1 < q.n) (hg:q.g (k + 1)=q.g k) (hb:Bs c q s (q.Ep (k + 1)) (q.pos (k + 1)) (CasD.Mj (q.g k)) (q.Tk k 2) st) :
  ∃ u,Pn.rst c 65 s=some u/\At_ c q u (q.Ek (k + 1) (q.ms (k + 1))) (q.pos (k + 2)) (CasD.Mj (q.g (k + 1))) (q.Tk (k + 1) 0) st/\∀ y,¬ Pn.rstP c 65 s y:=by
 have hch:¬ q.ch=true:=λh=>by have e1:=hs.gch h (k + 1);have e2:=hs.gch h k;omega
 have hcf:q.ch=false:=by simpa using hch
 have hk':k < q.n:=by omega
 have hm:q.mvs k λ_=>false:=λa h=>by cases h
 have hj:=hc.gn k hk';have hla:k < q.la (q.g k):=by
  have h1:=hs.la_le hk (by rw [hg];exact hj);rw [hg] at h1;omega
 have hEN:q.EN (q.Ep (k + 1)) (q.Tk k 2) (q.la (q.g k))=false:=by
  rw [Yr];exact hs.EN_hi hm hla (hc.ln _ hj) (hs.la _ hj).1.symm
 obtain ⟨q1,q2⟩:=Mb (st:=st) hc.g2 hj (EX_f hEN);have hT:=timC (M:=CasD.Mj (q.g k)) hs hk' Yt (λi _ h1 h2=>absurd (Lb.1 h1) h2);have hT2:∀ i,i < q.n->q.W i=true->q.Tk k 2 i=q.Tk (k + 1) 0 i:=λi hi _=>by
  by_cases hgi:q.g i=q.g k
  ·rcases J1 i k with h | h | h
   ·rw [DB h hgi,DB om_ om_]
   ·subst h;rw [Lf,DB om_ om_]
   ·rw [E5 h];rcases G8 (show k + 1<=i by omega) with e | e
    ·rw [← e,Lf]
    ·rw [E5 e]
  ·rw [Tk_o hgi,Tk_o om_]
 have hS:∀ i,i < q.n->q.SG (q.Ep (k + 1)) (CasD.Mj (q.g k)) (q.Tk k 2) st i=true->q.g i=q.g (k + 1)/\i<=k + 1:=λi hi h=>by
  obtain ⟨h1,_,h3⟩:=Pz.1 h;have h1:=Lb.1 h1;refine ⟨by omega,?_⟩;rcases G9 (k + 1) i with h4 | h4
  ·exfalso;have h5:=hs.btw (show k<=i - 1 by omega) (show i - 1<=i by omega) hi h1.symm;have h6:=h3 hcf om_ h5;rw [Yr,hs.EN_hi hm om_ om_ om_] at h6;cases h6
  ·exact h4
 have hSf:q.SG (q.Ep (k + 1)) (CasD.Mj (q.g k)) (q.Tk k 2) st (k + 1)=true:=Pz.2 ⟨by rw [hg];exact Yt,λ_ h=>by omega,λ_ _ _=>DE hs hk'⟩;have hV:=v1P (V:=q.pos (k + 1)) hs hk hS λa ha=>by
  refine (Di λo ho=>?_).symm;have:=Qb.2 ⟨k + 1,hk,ho,hSf⟩;rw [ha o] at this;cases this
 have hE:∀ a,q.E1 (q.Ep (k + 1)) (q.pos (k + 1)) (CasD.Mj (q.g k)) (q.Tk k 2) st a=q.Ek (k + 1) (q.ms (k + 1)) a:=λa=>by
  unfold CasD.E1;rw [hV a];unfold CasD.Ek CasD.Ep;cases hm:q.ms (k + 1) a with
  | true=>
   obtain ⟨o,ho⟩:=Oa.1 hm;rw [hs.pos_in hk ho,hs.fits (k + 1) hk a o ho];cases o <;> rfl
  | false=>
   rw [Di (λo ho=>by rw [Oa.2 ⟨o,ho⟩] at hm;cases hm),if_neg (by decide)];exact Hp
 -- the timers are told in the words of the next step
 have hR:=Ma (st:=st) hc hs hk Sv (Ss hs hk);have hset:Setl q (q.Ep (k + 1)) st 0 (CasD.Mj (q.g k)) (q.Tk k 2) (CasD.Mj (q.g k)) (q.Tk k 2):=.fix q1 hT q2;have hENi:∀ E i,i < q.n->q.EN E (q.Tk k 2) i=q.EN E (q.Tk (k + 1) 0) i:=λE i hi=>by
  unfold CasD.EN;by_cases hw:q.W i=true
  ·rw [if_pos hw,if_pos hw,hT2 i hi hw]
  ·rw [if_neg hw,if_neg hw]
 have hon:∀ E M i,i < q.G->q.on E M (q.Tk k 2) st i=q.on E M (q.Tk (k + 1) 0) st i:=λE M i hi=>by
  unfold CasD.on CasD.EX;have h2:=hc.g2;rw [hENi E _ (hc.ln 0 om_),hENi E _ (hc.ln _ (CasD.pvl hc.g2 hi))]
 have hof:∀ E M i,i < q.G->q.off E M (q.Tk k 2) st i=q.off E M (q.Tk (k + 1) 0) st i:=λE M i hi=>by
  unfold CasD.off CasD.EX;have h2:=hc.g2;rw [hENi E _ (hc.ln 1 om_)]
 have hmd:∀ E M i,i < q.G->q.md E M (q.Tk k 2) st i=q.md E M (q.Tk (k + 1) 0) st i:=λE M i hi=>by
  unfold CasD.md;rw [hon E M i hi,hof E M i hi]
 have hM1:∀ E M i,i < q.G->q.M1 E M (q.Tk k 2) st i=q.M1 E M (q.Tk (k + 1) 0) st i:=λE M i hi=>by
  have h2:=hc.g2;unfold CasD.M1;rw [hmd E M i hi,hmd E M 1 om_]
 have hSG:∀ E M i,i < q.n->q.SG E M (q.Tk k 2) st i=q.SG E M (q.Tk (k + 1) 0) st i:=λE M i hi=>by
  unfold CasD.SG;rw [hENi E (i - 1) om_]
 have hPL:∀ E M a o,q.PL E M (q.Tk k 2) st a o=q.PL E M (q.Tk (k + 1) 0) st a o:=λE M a o=>by
  rw [G0,Qb,Qb];exact ⟨λ⟨i,h1,h2,h3⟩=>⟨i,h1,h2,by rw [← hSG E M i h1];exact h3⟩,λ⟨i,h1,h2,h3⟩=>⟨i,h1,h2,by rw [hSG E M i h1];exact h3⟩⟩
 have hV1:∀ E V M a,q.V1 E V M (q.Tk k 2) st a=q.V1 E V M (q.Tk (k + 1) 0) st a:=λE V M a=>by unfold CasD.V1;rw [hPL,hPL]
 have hb2:=hb.cong hc.g2 (λ_ _=>rfl) (λ_ _=>rfl) (λ_ _=>rfl) hT2;rw [hg] at hR ⊢;refine hb2.rest hc (r:=0) (.fix (λi hi=>by rw [← hM1 _ _ i hi];exact q1 i hi) (λi hi hw=>?_) (λi hi hg=>by rw [← hon _ _ i hi,← hof _ _ i hi];exact q2 i hi hg)) om_ (λa _=>by rw [← hPL,← hPL];exact (plP hs hk hS).1 a) (λa _=>by
  have:=hE a;unfold CasD.E1 at this ⊢;rw [← hV1];exact this) (λa _=>by rw [← hV1];exact hV a) hR
 have:=hT i hi hw;unfold CasD.T1 at this ⊢;rw [← hT2 i hi hw];exact this
def CasD.nk (q:CasD) (k:Nat):Nat:=if k + 1 < q.n then k + 1 else 0
theorem nk_lt (hs:SqP q) {k:Nat}:q.nk k < q.n:=by have:=hs.n0; unfold CasD.nk; split <;> omega
theorem FH (hs:SqP q) {k:Nat} (hk:k < q.n):q.pos (k + 1)=q.pos (q.nk k):=by
 unfold CasD.nk;split
 ·rfl
 ·funext a
  rw [show k + 1=q.n by omega,hs.back a];rfl
theorem D6 (hs:SqP q) {k:Nat} (hk:k < q.n):q.Ep (k + 1)=q.Ep (q.nk k):=by
 funext a;unfold CasD.Ep;rw [FH hs hk]
theorem CF (hc:CasP c q) (hs:SqP q) {k:Nat} (hk:k < q.n) (hg:k + 1 < q.n->q.g (k + 1)≠q.g k):q.la (q.g k)=k/\q.g (q.nk k)=q.nx (q.g k)/\q.fst (q.nk k):=by
 have hj:=hc.gn k hk;have h1:=hs.la_le hk hj;obtain ⟨h2,h3⟩:=hs.la _ hj;have hl:=hc.ln _ hj;have hla:q.la (q.g k)=k:=by
  rcases G8 h1 with e | e
  ·exact e.symm
  ·exact absurd (hs.btw (show k<=k + 1 by omega) (show k + 1<=q.la (q.g k) by omega) hl h2.symm) (by have:=hg om_;omega)
 refine ⟨hla,?_⟩;unfold CasD.nk CasD.nx;by_cases h:k + 1 < q.n
 ·have h4:=hs.gs k h;have h5:=hg h;have h6:=hc.gn (k + 1) h;rw [if_pos h,if_pos om_];refine ⟨by omega,λi hi he=>?_⟩;rcases G9 i (k + 1) with h7 | h7
  ·have:=hs.mono (show i<=k by omega) hk;omega
  ·exact h7
 ·have h4:=hs.gl;rw [show q.n - 1=k by omega] at h4;rw [if_neg h,if_neg om_];exact ⟨hs.g0,λi _ _=>HQ _⟩
theorem Sf (hc:CasP c q) (hs:SqP q) {k:Nat} (hk:k < q.n) (hg:k + 1 < q.n->q.g (k + 1)≠q.g k) (hx:q.ch=true->k + 1=q.n->st=true):∃ r,r<=60/\Setl q (q.Ep (q.nk k)) st r (CasD.Mj (q.g k)) (q.Tk k 2) (CasD.Mj (q.g (q.nk k))) (q.Tk (q.nk k) 0):=by
 obtain ⟨hla,hnx,hf⟩:=CF hc hs hk hg;have hj:=hc.gn k hk;have h2:=hc.g2;have hn:=nk_lt hs (k:=k);have hne:q.nx (q.g k)≠q.g k:=CasD.nx_ne h2 hj;have hnj:=CasD.nxl h2 (j:=q.g k);have e1:q.EX (q.Ep (q.nk k)) (q.Tk k 2) st (q.g k)=true:=by
  unfold CasD.EX;rw [hla,← D6 hs hk,DE hs hk,H0];split
  ·rename_i h;obtain ⟨e1,e2⟩:=hc.chn h.1;have:=(e2 k).1;exact hx h.1 (by have:=h.2;omega)
  ·rfl
 have hlg:=(hs.la _ hnj).1;have hll:=hc.ln _ hnj;have e2:q.EX (q.Ep (q.nk k)) (q.Tk k 2) st (q.nx (q.g k))=false:=by
  refine EX_f ?_;unfold CasD.EN;rw [Tk_o om_,Uu hs hf hll om_]; split <;> rfl
 have e3:q.EX (q.Ep (q.nk k)) (q.Tk (q.nk k) 0) st (q.nx (q.g k))=false:=EX_f (DD hs hf hll om_);have tC:∀ M:Nat->Bool,M (q.g k)=true->(∀ i,M i=true->i=q.g k\/i=q.nx (q.g k))->∀ i,i < q.n->q.W i=true->q.T1 (q.Ep (q.nk k)) M (q.Tk k 2) i=q.Tk k 2 i:=λM hM hM'=>by
  rw [← D6 hs hk];refine timC hs hk hM λi hi h1 h3=>?_;rw [D6 hs hk];exact Uu hs hf hi (by rcases hM' _ h1 with h | h;exact absurd h h3;omega)
 have tZ:∀ T:Nat->Int,∀ i,i < q.n->q.W i=true->q.T1 (q.Ep (q.nk k)) (CasD.Mj (q.nx (q.g k))) T i=q.Tk (q.nk k) 0 i:=λT i hi hw=>by
  rw [timZ (λi hi hgi=>Uu hs hf hi om_) i hi hw,Uw hf hi]
 obtain ⟨f1,f2⟩:=Mb (st:=st) (T:=q.Tk (q.nk k) 0) h2 hnj e3;obtain ⟨f3,f4⟩:=Mb (st:=st) (T:=q.Tk k 2) h2 hnj e2;rw [hnx];by_cases e:q.G=2
 ·obtain ⟨a1,a2⟩:=nextM2 e hj e1 e2;exact ⟨2,by omega,.step a1 (tC _ Yt λi h=>.inl (Lb.1 h)) a2 (.step f3 (tZ _) f4 (.fix f1 (tZ _) f2))⟩
 ·obtain ⟨a1,a2⟩:=nextM3 h2 e hj e1;obtain ⟨b1,b2⟩:=nextM4 h2 e hj e1 e2;refine ⟨3,by omega,.step a1 (tC _ Yt λi h=>.inl (Lb.1 h)) a2 (.step b1 (tC _ ?_ λi h=>?_) b2 (.step f3 (tZ _) f4 (.fix f1 (tZ _) f2)))⟩
  ·unfold CasD.Mk;simp
  ·unfold CasD.Mk at h;simpa using h
theorem next_ (hc:CasP c q) (hs:SqP q) {k:Nat} (hk:k < q.n) (hg:k + 1 < q.n->q.g (k + 1)≠q.g k) (hb:Bs c q s (q.Ep (k + 1)) (q.pos (k + 1)) (CasD.Mj (q.g k)) (q.Tk k 2) st) :
  ((q.nk k=0->st=true)->∃ u,Pn.rst c 65 s=some u/\At_ c q u (q.Ek (q.nk k) (q.ms (q.nk k))) (q.pos (q.nk k + 1)) (CasD.Mj (q.g (q.nk k))) (q.Tk (q.nk k) 0) st/\∀ y,¬ Pn.rstP c 65 s y)
  /\ (q.nk k=0->st=false->∃ u,Pn.rst c 65 s=some u/\At_ c q u (q.Ep 0) (q.pos 0) (CasD.Mj q.ij) q.Ti false/\∀ y,¬ Pn.rstP c 65 s y):=by
 obtain ⟨_,_,hf⟩:=CF hc hs hk hg;rw [D6 hs hk,FH hs hk] at hb;refine ⟨λh=>?_,λh0 hst=>?_⟩
 ·obtain ⟨r,hr,hset⟩:=Sf (st:=st) hc hs hk hg λ_ e=>h (by unfold CasD.nk;rw [if_neg om_]);exact FX hc hs hf (nk_lt hs) hb hset hr λ_=>h
 subst hst;by_cases hch:q.ch=true
 ·have hkn:k=q.n - 1:=by unfold CasD.nk at h0; split at h0 <;> omega
  have hR:=Lg hc hs;rw [h0] at hb;rw [hkn,← ij_t hs hch,← Ti_t hch] at hb;exact EP hc hs hb (.fix hR.fM hR.fT hR.fn) om_
 obtain ⟨r,hr,hset⟩:=Sf (st:=false) hc hs hk hg λh=>absurd h hch;rw [h0] at hb hset;rw [hs.g0] at hset;refine EP hc hs hb ?_ hr;rw [ij_f (by simpa using hch),Ti_f (by simpa using hch)];exact hset
end Go.Pn
namespace Go.Pn
open Go
variable {c:Aa} {q:CasD} {s:Ad} {E:Nat->Int} {V M:Nat->Bool} {T:Nat->Int} {st:Bool}
structure RunS (c:Aa) (q:CasD) (s:Ad) (k:Nat) (mv:Nat->Bool) (t:Int) (st:Bool):Prop where
 hk:k < q.n
 hm:q.mvs k mv
 hr:q.run k mv t
 at_:At_ c q s (q.Ek k mv) (q.pos (k + 1)) (CasD.Mj (q.g k)) (q.Tk k t) st
def Ux (c:Aa) (q:CasD) (s:Ad):Prop:=At_ c q s (q.Ep 0) (q.pos 0) (CasD.Mj q.ij) q.Ti false
theorem Eu {α:Type} {l:List α} {i j:Nat} {x d:α} (hi:i < l.length):(l.set i x).getD j d=if i=j then x else l.getD j d:=by
 rw [F7,List.getElem?_set];by_cases h:i=j
 ·subst h;rw [if_pos rfl,if_pos rfl,if_pos hi];rfl
 ·rw [if_neg h,if_neg h,F7]
theorem C9 {x:Af} {s' u:Ad} (hk:¬ (x.Kind < 0\/3<=x.Kind)) (ha:act s x=some s') (hr:rst c 65 s'=some u) (hn:∀ y,¬ rstP c 65 s' y):aft c s x=(u,0)/\∀ y,¬ afP c s x y:=by
 refine ⟨?_,λy hy=>?_⟩
 ·unfold aft;rw [if_neg hk,ha];dsimp only;rw [hr]
 ·obtain ⟨_,s2,h1,h2⟩:=hy;rw [ha] at h1;obtain rfl:=Option.some.inj h1;exact hn y h2
def CasD.un (mv:Nat->Bool) (a b:Nat):Bool:=mv b && !(b == a)
theorem Ek_un {k a:Nat} {mv:Nat->Bool}:∀ b,q.Ek k (CasD.un mv a) b=if b=a then Wd (q.pos (k + 1) a) else q.Ek k mv b:=by
 intro b;unfold CasD.Ek CasD.un;by_cases h:b=a
 ·subst h;rw [if_pos rfl,if_neg As]
 ·rw [if_neg h];have:(b == a)=false:=by simpa using h
  rw [this,J2,JK]
theorem act_end (hc:CasP c q) {k a:Nat} {mv:Nat->Bool} (ha:a < q.A) (hm:mv a=true) (h:Bs c q s (q.Ek k mv) V M T st):∃ s',act s ⟨0,(a:Int),false⟩=some s'/\Bs c q s' (q.Ek k (CasD.un mv a)) V M T st:=by
 have hlen:a < s.Ends.length:=by rw [h.fit.e,hc.a];exact ha
 have he:=h.e a ha;rw [F7,gE_ hlen,JH] at he;have key:act s ⟨0,(a:Int),false⟩=some { s with Ends:=s.Ends.set a (Wd (q.pos (k + 1) a)) }:=by
  unfold act;rw [if_pos rfl,show idx s.Ends (Af.Index ⟨0,(a:Int),false⟩)=s.Ends[a]? from Aj,gE_ hlen,he];dsimp only;unfold CasD.Ek;rw [if_pos hm];cases q.pos (k + 1) a <;> simp [Wd]
 refine ⟨_,key,Ru h.fit key,λb hb=>?_,h.v,h.i,h.m,h.m0,h.t⟩;show (s.Ends.set a _).getD b 0=_;rw [Eu hlen,Ek_un b];by_cases e:a=b
 ·subst e;rw [if_pos rfl,if_pos rfl]
 ·rw [if_neg e,if_neg (λh=>e h.symm),h.e b hb]
theorem act_tim (hc:CasP c q) (hinj:∀ i k,i < q.n->q.W i=true->k < q.n->q.W k=true->q.no (.tm i)=q.no (.tm k)->i=k) (hjn:∀ j k,j < q.G->k < q.n->q.W k=true->q.no (.gl j)≠q.no (.tm k)) {k:Nat} (hk:k < q.n) (hw:q.W k=true) (h:Bs c q s E V M (q.Tk k 1) st):∃ s',act s ⟨1,(q.no (.tm k):Int),false⟩=some s'/\Bs c q s' E V M (q.Tk k 2) st:=by
 obtain ⟨x,hx,_,_⟩:=hc.tmS k hk hw;have hlt:=(GC.1 hx).1;have hlen:q.no (.tm k) < s.Timers.length:=by rw [h.fit.t];exact hlt
 have hlen':q.no (.tm k) < s.Values.length:=by rw [h.fit.x];exact hlt
 have ht:=(h.t k hk hw).1;rw [F7,gE_ hlen,JH,Lf] at ht;have key:act s ⟨1,(q.no (.tm k):Int),false⟩=some { s with Values:=s.Values.set (q.no (.tm k)) true,Timers:=s.Timers.set (q.no (.tm k)) 2 }:=by
  unfold act;rw [if_neg (by show ¬ (1:Int)=0;omega),if_pos rfl,show idx s.Timers (Af.Index ⟨1,(q.no (.tm k):Int),false⟩)=s.Timers[q.no (.tm k)]? from Aj,gE_ hlen,ht];rfl
 refine ⟨_,key,Ru h.fit key,h.e,h.v,h.i,λj hj hg=>?_,h.m0,λi hi hwi=>?_⟩
 ·show (s.Values.set _ _).getD _ _=_;rw [Eu hlen',if_neg (λe=>hjn j k hj hk hw e.symm)];exact h.m j hj hg
 ·have h1:=h.t i hi hwi;show (s.Timers.set _ _).getD _ _=_/\(s.Values.set _ _).getD _ _=_;rw [Eu hlen,Eu hlen'];by_cases e:i=k
  ·subst e;rw [if_pos rfl,if_pos rfl,Lf];exact ⟨rfl,rfl⟩
  ·have e2:q.no (.tm k)≠q.no (.tm i):=λe3=>e (hinj k i hk hw hi hwi e3).symm;rw [if_neg e2,if_neg e2];have:q.Tk k 2 i=q.Tk k 1 i:=by unfold CasD.Tk;rw [if_neg e,if_neg e]
   rw [this];exact h1
theorem act_in (hc:CasP c q) (h:Bs c q s E V M T st):∃ s',act s ⟨2,0,!st⟩=some s'/\Bs c q s' E V M T (!st):=by
 have hlen:0 < s.Inputs.length:=by rw [h.fit.i,hc.i];omega
 have hi:=h.i;rw [F7,gE_ hlen,JH] at hi;have key:act s ⟨2,0,!st⟩=some { s with Inputs:=s.Inputs.set 0 (!st) }:=by
  unfold act;rw [if_neg (by show ¬ (2:Int)=0;omega),if_neg (by show ¬ (2:Int)=1;omega),show idx s.Inputs (Af.Index ⟨2,0,!st⟩)=s.Inputs[0]? from Aj (n:=0),gE_ hlen,hi];dsimp only;rw [if_neg (by cases st <;> decide)]; rfl
 refine ⟨_,key,Ru h.fit key,h.e,h.v,?_,h.m,h.m0,h.t⟩;show (s.Inputs.set 0 _).getD 0 _=_;rw [Eu hlen,if_pos rfl]
structure TmP (q:CasD):Prop where
 inj:∀ i k,i < q.n->q.W i=true->k < q.n->q.W k=true->q.no (.tm i)=q.no (.tm k)->i=k
 jn:∀ j k,j < q.G->k < q.n->q.W k=true->q.no (.gl j)≠q.no (.tm k)
def Nxt (c:Aa) (q:CasD) (u:Ad) (k:Nat) (st:Bool):Prop:=RunS c q u (q.nk k) (q.ms (q.nk k)) 0 st/\(q.nk k=0->st=true)\/(q.nk k=0/\st=false/\Ux c q u)
theorem done_ (hc:CasP c q) (hs:SqP q) {k:Nat} (hk:k < q.n) (hb:Bs c q s (q.Ep (k + 1)) (q.pos (k + 1)) (CasD.Mj (q.g k)) (q.Tk k 2) st):∃ u,rst c 65 s=some u/\Nxt c q u k st/\∀ y,¬ rstP c 65 s y:=by
 by_cases hg:k + 1 < q.n/\q.g (k + 1)=q.g k
 ·obtain ⟨u,h1,h2,h3⟩:=cont_ hc hs hg.1 hg.2 hb;have:q.nk k=k + 1:=by unfold CasD.nk;rw [if_pos hg.1]
  refine ⟨u,h1,.inl ⟨?_,λe=>by omega⟩,h3⟩;rw [this];exact ⟨hg.1,Sv,Ss hs hg.1,h2⟩
 ·obtain ⟨n1,n2⟩:=next_ hc hs hk (λh e=>hg ⟨h,e⟩) hb;have hl:=nk_lt hs (k:=k);by_cases h0:q.nk k=0/\st=false
  ·obtain ⟨u,h1,h2,h3⟩:=n2 h0.1 h0.2;exact ⟨u,h1,.inr ⟨h0.1,h0.2,h2⟩,h3⟩
  ·have h4:q.nk k=0->st=true:=λe=>by cases st with
    | true=>rfl
    | false=>exact absurd ⟨e,rfl⟩ h0
   obtain ⟨u,h1,h2,h3⟩:=n1 h4;exact ⟨u,h1,.inl ⟨⟨hl,Sv,Ss hs hl,h2⟩,h4⟩,h3⟩
theorem same_ (hc:CasP c q) (hs:SqP q) {k:Nat} {mv:Nat->Bool} {t:Int} (hk:k < q.n) (hm:q.mvs k mv) (hr:q.run k mv t) {r:Nat} (hr6:r<=60) (hset:Setl q (q.Ek k mv) st r M T (CasD.Mj (q.g k)) (q.Tk k t)) (hb:Bs c q s (q.Ek k mv) (q.pos (k + 1)) M T st):∃ u,rst c 65 s=some u/\RunS c q u k mv t st/\∀ y,¬ rstP c 65 s y:=by
 have hR:=Ma (st:=st) hc hs hk hm hr;obtain ⟨u,h1,h2,h3⟩:=hb.rest hc hset hr6 hR.fp hR.fE hR.fV hR;exact ⟨u,h1,⟨hk,hm,hr,h2⟩,h3⟩
theorem wait_ (hc:CasP c q) (hs:SqP q) {k:Nat} {mv:Nat->Bool} (hk:k < q.n) (hno:∀ b,mv b=false) (hw:q.W k=true) (hb:Bs c q s (q.Ek k mv) (q.pos (k + 1)) (CasD.Mj (q.g k)) (q.Tk k 0) st):∃ u,rst c 65 s=some u/\RunS c q u k mv 1 st/\∀ y,¬ rstP c 65 s y:=by
 have hm':q.mvs k mv:=λb hb=>by rw [hno b] at hb;cases hb
 have hr':q.run k mv 1:=.inr ⟨λb _ _=>hno b,hw,rfl⟩;have hR:=Ma (st:=st) hc hs hk hm' hr';have hcm:q.cm (q.Ek k mv) k=true:=(hs.cm_run hk).2 λb _ _=>hno b;have hEN:q.EN (q.Ek k mv) (q.Tk k 0) k=false:=by unfold CasD.EN;rw [if_pos hw,Lf];rfl
 obtain ⟨f1,f2⟩:=Mb (st:=st) hc.g2 (hc.gn k hk) (EX_f (hs.EN_la (t:=0) hm' hk (hc.gn k hk) hc.ln λ_=>hEN));have hT:∀ i,i < q.n->q.W i=true->q.T1 (q.Ek k mv) (CasD.Mj (q.g k)) (q.Tk k 0) i=q.Tk k 1 i:=λi hi hwi=>by
  by_cases e:i=k
  ·subst e;unfold CasD.T1;rw [Yt,hcm,if_neg (by decide),Lf,Lf,if_pos rfl]
  ·have h5:=hR.fT i hi hwi;have h6:q.Tk k 1 i=q.Tk k 0 i:=by unfold CasD.Tk;rw [if_neg e,if_neg e]
   rw [← h5];unfold CasD.T1;rw [h6]
 exact same_ hc hs hk hm' hr' (r:=1) om_ (.step f1 hT f2 (.fix hR.fM hR.fT hR.fn)) hb
theorem CU (hc:CasP c q) (hs:SqP q) {k a:Nat} {mv:Nat->Bool} {t:Int} (h:RunS c q s k mv t st) (ha:a < q.A) (hma:mv a=true) :
  ∃ u,aft c s ⟨0,(a:Int),false⟩=(u,0)/\(∀ y,¬ afP c s ⟨0,(a:Int),false⟩ y)/\(((∃ b o,(b,o)∈q.S k/\CasD.un mv a b=true)/\RunS c q u k (CasD.un mv a) 0 st)\/((∀ b,CasD.un mv a b=false)/\q.W k=true/\RunS c q u k (CasD.un mv a) 1 st)\/((∀ b,CasD.un mv a b=false)/\¬ q.W k=true/\Nxt c q u k st)):=by
 obtain ⟨hk,hm,hr,hat⟩:=h;have ht:t=0:=by
  rcases hr with ⟨_,h⟩ | ⟨h,_⟩
  ·exact h
  ·obtain ⟨o,ho⟩:=hm a hma;rw [h a o ho] at hma;cases hma
 subst ht;obtain ⟨s',h1,h2⟩:=act_end hc ha hma hat.b;have hm':q.mvs k (CasD.un mv a):=λb hb=>hm b (by unfold CasD.un at hb;exact (Bool.and_eq_true_iff.1 hb).1);have fin:∀ {u:Ad} {Q:Prop},(rst c 65 s'=some u/\Q/\∀ y,¬ rstP c 65 s' y)->aft c s ⟨0,(a:Int),false⟩=(u,0)/\(∀ y,¬ afP c s ⟨0,(a:Int),false⟩ y)/\Q:=λ{u Q} ⟨g1,g2,g3⟩=>by
  obtain ⟨a1,a2⟩:=C9 (c:=c) (x:=⟨0,(a:Int),false⟩) (by show ¬ ((0:Int) < 0\/3<=(0:Int));omega) h1 g1 g3;exact ⟨a1,a2,g2⟩
 by_cases hmo:∃ b o,(b,o)∈q.S k/\CasD.un mv a b=true
 ·have hr':q.run k (CasD.un mv a) 0:=.inl ⟨hmo,rfl⟩;have hR:=Ma (st:=st) hc hs hk hm' hr';obtain ⟨u,g1,g2,g3⟩:=same_ hc hs hk hm' hr' (r:=0) om_ (.fix hR.fM hR.fT hR.fn) h2;obtain ⟨b1,b2,b3⟩:=fin ⟨g1,g2,g3⟩;exact ⟨u,b1,b2,.inl ⟨hmo,b3⟩⟩
 ·have hno:∀ b,CasD.un mv a b=false:=λb=>by
   cases e:CasD.un mv a b with
   | false=>rfl
   | true=>obtain ⟨o,ho⟩:=hm' b e;exact absurd ⟨b,o,ho,e⟩ hmo
  have hz:CasD.un mv a=λ_=>false:=funext hno;by_cases hw:q.W k=true
  ·obtain ⟨u,g1,g2,g3⟩:=wait_ hc hs hk hno hw h2;obtain ⟨b1,b2,b3⟩:=fin ⟨g1,g2,g3⟩;exact ⟨u,b1,b2,.inr (.inl ⟨hno,hw,b3⟩)⟩
  ·rw [hz,← Yr] at h2;have h3:=h2.cong hc.g2 (T':=q.Tk k 2) (λ_ _=>rfl) (λ_ _=>rfl) (λ_ _=>rfl) λi hi hwi=>by
    have e:i≠k:=λe=>by subst e;exact hw hwi
    unfold CasD.Tk;rw [if_neg e,if_neg e]
   obtain ⟨u,g1,g2,g3⟩:=done_ hc hs hk h3;obtain ⟨b1,b2,b3⟩:=fin ⟨g1,g2,g3⟩;exact ⟨u,b1,b2,.inr (.inr ⟨hno,hw,b3⟩)⟩
theorem FR (hc:CasP c q) (hs:SqP q) (hp:TmP q) {k:Nat} {mv:Nat->Bool} (h:RunS c q s k mv 1 st) :
  ∃ u,aft c s ⟨1,(q.no (.tm k):Int),false⟩=(u,0)/\(∀ y,¬ afP c s ⟨1,(q.no (.tm k):Int),false⟩ y)/\Nxt c q u k st:=by
 obtain ⟨hk,hm,hr,hat⟩:=h;obtain ⟨hno,hw⟩:(∀ b,mv b=false)/\q.W k=true:=by
  rcases hr with ⟨_,h⟩ | ⟨h1,h2,_⟩
  ·omega
  ·refine ⟨λb=>?_,h2⟩;cases e:mv b with
   | false=>rfl
   | true=>obtain ⟨o,ho⟩:=hm b e;rw [h1 b o ho] at e;cases e
 obtain rfl:mv=λ_=>false:=funext hno;obtain ⟨s',h1,h2⟩:=act_tim hc hp.inj hp.jn hk hw hat.b;rw [← Yr] at h2;obtain ⟨u,g1,g2,g3⟩:=done_ hc hs hk h2;obtain ⟨a1,a2⟩:=C9 (c:=c) (x:=⟨1,(q.no (.tm k):Int),false⟩) (by show ¬ ((1:Int) < 0\/3<=(1:Int));omega) h1 g1 g3;exact ⟨u,a1,a2,g2⟩
theorem Xn (hc:CasP c q) (hs:SqP q) (h:Ux c q s) :
  ∃ u,aft c s ⟨2,0,true⟩=(u,0)/\(∀ y,¬ afP c s ⟨2,0,true⟩ y)/\RunS c q u 0 (q.ms 0) 0 true:=by
 obtain ⟨s',h1,h2⟩:=act_in hc h.b;have fin:∃ u,Pn.rst c 65 s'=some u/\At_ c q u (q.Ek 0 (q.ms 0)) (q.pos (0 + 1)) (CasD.Mj (q.g 0)) (q.Tk 0 0) true/\∀ y,¬ Pn.rstP c 65 s' y:=by
  by_cases hch:q.ch=true
  ·have hn:=hs.n0;rw [ij_t hs hch,Ti_t hch,DC hs,Qe hs] at h2;have hnk:q.nk (q.n - 1)=0:=by unfold CasD.nk;rw [if_neg om_]
   have:=(next_ hc hs (show q.n - 1 < q.n by omega) (λh=>by omega) h2).1 λ_=>rfl;rw [hnk] at this;exact this
  ·have hcf:q.ch=false:=by simpa using hch
   have hf:q.fst 0:=λi _ _=>HQ _;have hq:=So (st:=true) hc hs hf hs.n0;rw [hs.g0] at hq;have hR:=Wn hc hs hcf;rw [ij_f hcf,Ti_f hcf] at h2;have hset:Setl q (q.Ep 0) true 0 (CasD.Mj 0) (q.Tk 0 0) (CasD.Mj (q.g 0)) (q.Tk 0 0):=by
    rw [hs.g0];exact .fix hq.1 hR.fT hq.2
   exact FX hc hs hf hs.n0 h2 hset om_ λ_ _=>rfl
 obtain ⟨u,g1,g2,g3⟩:=fin;obtain ⟨a1,a2⟩:=C9 (c:=c) (x:=⟨2,0,true⟩) (by show ¬ ((2:Int) < 0\/3<=(2:Int));omega) h1 g1 g3;exact ⟨u,a1,a2,hs.n0,Sv,Ss hs hs.n0,g2⟩
end Go.Pn
namespace Go.Pn
open Go
namespace Csc
def stp (s:Ah) (k:Nat):Step:=s.Steps.getD k default
def S (s:Ah) (k:Nat):List (Nat×Bool):=(stp s k).Strokes.map λx=>(x.Actuator.toNat,x.Out)
def W (s:Ah) (k:Nat):Bool:=(stp s k).Wait != 0
def rep (s:Ah) (i k:Nat):Bool:=(S s i).any λx=>(S s k).any λy=>x.1 == y.1
def brk (s:Ah) (b k:Nat):Bool:=(List.range k).any λi=>decide (b<=i) && rep s i k
def gb (s:Ah):Nat->Nat×Nat
 | 0=>(0,0)
 | k + 1=>if brk s (gb s k).1 (k + 1)=true then (k + 1,(gb s k).2 + 1) else gb s k
def dl (s:Ah):Nat->LK
 | 0=>[0]
 | k + 1=>if brk s (gb s k).1 (k + 1)=true then dl s k ++ [k + 1] else dl s k
def n (s:Ah):Nat:=s.Steps.length
def g (s:Ah) (k:Nat):Nat:=(gb s k).2
def dv (s:Ah):LK:=dl s (n s - 1)
def G (s:Ah):Nat:=(dv s).length
def las (s:Ah) (j:Nat):Nat:=if j + 1 < G s then (dv s).getD (j + 1) 0 - 1 else n s - 1
def A (s:Ah):Nat:=s.Actuators.toNat
def cts (s:Ah) (k:Nat):Nat:=((List.range k).filter (W s)).length
def no (s:Ah):Sg->Nat
 | .gl j=>if G s=2 then 1 - j else j
 | .tm k=>G s + cts s k
 | .sg k=>G s + cts s (n s) + k
 | .pl a o=>G s + cts s (n s) + n s + 2 * a + (if o=true then 0 else 1)
def dat (s:Ah):CasD:=⟨A s,n s,G s,S s,W s,g s,las s,no s,false⟩
end Csc
open Csc
variable {s:Ah}
theorem gb_s (k:Nat):gb s (k + 1)=if brk s (gb s k).1 (k + 1)=true then (k + 1,(gb s k).2 + 1) else gb s k:=rfl
theorem dl_s (k:Nat):dl s (k + 1)=if brk s (gb s k).1 (k + 1)=true then dl s k ++ [k + 1] else dl s k:=rfl
theorem g_s (k:Nat):g s (k + 1)=if brk s (gb s k).1 (k + 1)=true then g s k + 1 else g s k:=by
 unfold g; rw [gb_s]; split <;> rfl
theorem Yk:∀ k,(gb s k).1<=k
 | 0=>GT _
 | k + 1=>by
  rw [gb_s];split
  ·exact GT _
  ·have:=Yk k;omega
theorem Xq:∀ k,(dl s k).length=g s k + 1
 | 0=>rfl
 | k + 1=>by
  have:=Xq k;rw [dl_s,g_s];split
  ·rw [GB,this];rfl
  ·exact this
theorem CY {i:Nat}:∀ {k:Nat},i<=k->∃ t,dl s k=dl s i ++ t
 | 0,h=>by
  obtain rfl:i=0:=by omega
  exact ⟨[],by simp⟩
 | k + 1,h=>by
  rcases G8 h with e | e
  ·subst e;exact ⟨[],by simp⟩
  ·obtain ⟨t,ht⟩:=CY (i:=i) (k:=k) om_;rw [dl_s];split
   ·exact ⟨t ++ [k + 1],by rw [ht,GU]⟩
   ·exact ⟨t,ht⟩
theorem Nn:∀ k,(dl s k)[g s k]?=some (gb s k).1
 | 0=>rfl
 | k + 1=>by
  have h:=Nn k;have hl:=Xq (s:=s) k;rw [dl_s,g_s,gb_s];split
  ·rw [F9 om_,hl,J4];rfl
  ·exact h
theorem El {i:Nat}:∀ {k:Nat},i<=k->g s i<=g s k
 | 0,h=>by
  obtain rfl:i=0:=by omega
  exact GT _
 | k + 1,h=>by
  rcases G8 h with e | e
  ·subst e;exact GT _
  ·have:=El (i:=i) (k:=k) om_;rw [g_s];split <;> omega
theorem Um (k:Nat):g s (k + 1)=g s k\/g s (k + 1)=g s k + 1:=by
 rw [g_s];split
 ·exact .inr rfl
 ·exact .inl rfl
theorem Vz {i:Nat}:∀ {k:Nat},i<=k->g s i=g s k->gb s i=gb s k
 | 0,h,_=>by
  obtain rfl:i=0:=by omega
  rfl
 | k + 1,h,hg=>by
  rcases G8 h with e | e
  ·subst e;rfl
  ·have h1:=El (s:=s) (show i<=k by omega);have h2:=El (s:=s) (show k<=k + 1 by omega);have h3:=Vz (i:=i) (k:=k) om_ om_;have h4:g s k=g s (k + 1):=by omega
   rw [h3,gb_s];rw [g_s] at h4;by_cases hb:brk s (gb s k).1 (k + 1)=true
   ·rw [if_pos hb] at h4;omega
   ·rw [if_neg hb]
theorem rep_of {i k a:Nat} {o o':Bool} (h1:(a,o)∈S s i) (h2:(a,o')∈S s k):rep s i k=true:=by
 unfold rep;rw [GK];refine ⟨_,h1,?_⟩;rw [GK];exact ⟨_,h2,by simp⟩
theorem Xf {i k a:Nat} {o o':Bool} (hik:i < k) (hg:g s i=g s k) (h1:(a,o)∈S s i) (h2:(a,o')∈S s k):False:=by
 obtain ⟨k,rfl⟩:∃ k',k=k' + 1:=⟨k - 1,by omega⟩;have hb:=Vz (s:=s) (show i<=k + 1 by omega) hg;have hk:g s k=g s (k + 1):=by
  have h3:=El (s:=s) (show i<=k by omega);have h4:=El (s:=s) (show k<=k + 1 by omega);omega
 have hbk:=Vz (s:=s) (show i<=k by omega) om_;have hi:=Yk (s:=s) i;rw [g_s] at hk;by_cases hn:brk s (gb s k).1 (k + 1)=true
 ·rw [if_pos hn] at hk;omega
 ·refine hn ?_;unfold brk;rw [GK];refine ⟨i,GE.2 hik,?_⟩;rw [GF,decide_eq_true_iff];exact ⟨by rw [← hbk];exact hi,rep_of h1 h2⟩
theorem Pu {j:Nat}:∀ {k:Nat},j<=g s k->∃ b,(dl s k)[j]?=some b/\b<=k/\g s b=j/\(0 < b->g s (b - 1) + 1=j)/\(j=0->b=0)
 | 0,h=>by
  obtain rfl:j=0:=by have:g s 0=0:=rfl;omega
  exact ⟨0,rfl,GT _,rfl,λh=>by omega,λ_=>rfl⟩
 | k + 1,h=>by
  by_cases hj:j<=g s k
  ·obtain ⟨b,h1,h2,h3,h4,h5⟩:=Pu (k:=k) hj;obtain ⟨t,ht⟩:=CY (s:=s) (show k<=k + 1 by omega);refine ⟨b,?_,by omega,h3,h4,h5⟩;rw [ht,GJ (GC.1 h1).1];exact h1
  ·have hs:=Um (s:=s) k;have hgk:g s (k + 1)=g s k + 1:=by omega
   obtain rfl:j=g s (k + 1):=by omega
   have hgb:(gb s (k + 1)).1=k + 1:=by
    rw [g_s] at hgk;rw [gb_s];by_cases hb:brk s (gb s k).1 (k + 1)=true
    ·rw [if_pos hb]
    ·rw [if_neg hb] at hgk;omega
   refine ⟨k + 1,?_,GT _,rfl,λ_=>by rw [JD];omega,λh=>by omega⟩;rw [Nn,hgb]
theorem E6:G s=g s (n s - 1) + 1:=Xq _
theorem la_ok (h0:0 < n s) {j:Nat} (hj:j < G s):las s j < n s/\g s (las s j)=j/\(las s j + 1 < n s->g s (las s j + 1)=j + 1):=by
 have hG:=E6 (s:=s);unfold las;by_cases h:j + 1 < G s
 ·rw [if_pos h];obtain ⟨b,h1,h2,h3,h4,h5⟩:=Pu (s:=s) (j:=j + 1) (k:=n s - 1) om_;have hd:(dv s).getD (j + 1) 0=b:=by unfold dv;rw [F7,h1];rfl
  have hb:0 < b:=by
   rcases J9 b with e | e
   ·subst e;have:g s 0=0:=rfl;omega
   ·exact e
  rw [hd];have:=h4 hb;refine ⟨by omega,by omega,λ_=>?_⟩;rw [LE hb];exact h3
 ·rw [if_neg h];refine ⟨by omega,by omega,λh=>by omega⟩
structure Sqc (s:Ah):Prop where
 a0:1<=s.Actuators
 a6:s.Actuators<=6
 n0:0 < n s
 ne:∀ k,k < n s->(stp s k).Strokes≠[]
 ac:∀ k,k < n s->∀ x∈(stp s k).Strokes,0<=x.Actuator/\x.Actuator < s.Actuators
 w0:∀ k,k < n s->0<=(stp s k).Wait
 fits:∀ k,k < n s->∀ a o,(a,o)∈S s k->(dat s).pos k a=!o
 back:∀ a,(dat s).pos (n s) a=false
 mv:∀ a,a < A s->∃ k o,k < n s/\(a,o)∈S s k
theorem Sqc.g2 (h:Sqc s):2<=G s:=by
 have hG:=E6 (s:=s);rcases G9 (G s) 2 with h2 | h2
 ·exfalso;obtain ⟨k,o,hk,ha⟩:=h.mv 0 (by have:=h.a0;unfold A;omega);revert ha;generalize (0:Nat)=a;intro ha;have h0:∀ i,i < n s->g s i=0:=λi hi=>by have:=El (s:=s) (show i<=n s - 1 by omega);omega
  -- the sequence of a single group
  have key:∀ d,k + d < n s->(dat s).pos (k + d + 1) a=o:=by
   intro d
   induction d with
   | zero=>
    intro hd;show (if (a,true)∈S s k then true else if (a,false)∈S s k then false else (dat s).pos k a)=o
    have hf:=h.fits k hk a o ha;cases o with
    | true=>rw [if_pos ha]
    | false=>rw [if_neg (λe=>by have:=h.fits k hk a true e;rw [hf] at this;cases this),if_pos ha]
   | succ d ih=>
    intro hd;have h1:=ih om_;have hno:∀ o',(a,o') ∉ (dat s).S (k + d + 1):=λo' ho=>Xf (s:=s) (show k < k + d + 1 by omega) (by rw [h0 _ hk,h0 _ om_]) ha ho;rw [show k + (d + 1) + 1=(k + d + 1) + 1 by omega,Di hno];exact h1
  have h3:=key (n s - 1 - k) om_;rw [show k + (n s - 1 - k) + 1=n s by omega,h.back] at h3;have key2:∀ d,d<=k->(dat s).pos (k - d) a=!o:=by
   intro d
   induction d with
   | zero=>intro _;exact h.fits k hk a o ha
   | succ d ih=>
    intro hd;have h1:=ih om_;have hno:∀ o',(a,o') ∉ (dat s).S (k - (d + 1)):=λo' ho=>Xf (s:=s) (show k - (d + 1) < k by omega) (by rw [h0 _ hk,h0 _ om_]) ho ha;rw [show k - d=k - (d + 1) + 1 by omega,Di hno] at h1;exact h1
  have h4:=key2 k (GT _);rw [J4] at h4;have h5:(dat s).pos 0 a=false:=rfl;rw [h5] at h4;cases o
  ·cases h4
  ·cases h3
 ·exact h2
theorem Sqc.sq (h:Sqc s):SqP (dat s) where
 n0:=h.n0
 ne:=λk hk e=>by
  have:=h.ne k hk;unfold dat S at e;exact this (JV.1 e)
 fits:=h.fits
 back:=h.back
 g0:=rfl
 gs:=λk _=>Um k
 gl:=E6.symm
 gu:=λi k hik _ hg a o o' h1 h2=>Xf hik hg h1 h2
 gch:=λe=>by cases e
 la:=λj hj=>(la_ok h.n0 hj).2
end Go.Pn
namespace Go.Pn
open Go
open Csc
variable {s:Ah}
theorem Bb {p:Nat->Bool} {k n:Nat} (hk:k < n) (hp:p k=true):((List.range n).filter p)[((List.range k).filter p).length]?=some k:=by
 obtain ⟨m,rfl⟩:∃ m,n=k + (1 + m):=⟨n - k - 1,by omega⟩;rw [List.range_add,J8,F9 (GT _),J4,List.range_add,HH,J8];simp [hp]
theorem Km {p:Nat->Bool}:∀ {n i:Nat},i < ((List.range n).filter p).length->∃ k,k < n/\p k=true/\((List.range k).filter p).length=i
 | 0,i,h=>by simp at h
 | n + 1,i,h=>by
  rw [G5,J8,GB] at h;by_cases h1:i < ((List.range n).filter p).length
  ·obtain ⟨k,hk,h2,h3⟩:=Km h1;exact ⟨k,by omega,h2,h3⟩
  ·have hp:p n=true:=by
    cases hp:p n with
    | true=>rfl
    | false=>rw [show [n].filter p=[] by simp [hp]] at h;simp at h;omega
   rw [show [n].filter p=[n] by simp [hp]] at h;simp only [HS,JB] at h;exact ⟨n,by omega,hp,by omega⟩
theorem Df {α:Type} {f h:Nat->α}:∀ {n:Nat},((List.range n).flatMap λa=>[f a,h a]).length=2 * n
 | 0=>rfl
 | n + 1=>by rw [G5,JG,GB,Df];simp;omega
theorem Em {α:Type} {f h:Nat->α} {a:Nat}:∀ {n:Nat},a < n->((List.range n).flatMap λa=>[f a,h a])[2 * a]?=some (f a)/\((List.range n).flatMap λa=>[f a,h a])[2 * a + 1]?=some (h a)
 | 0,ha=>by omega
 | n + 1,ha=>by
  have hl:=Df (f:=f) (h:=h) (n:=n);rw [G5,JG];rcases G8 (show a<=n by omega) with e | e
  ·subst e;rw [F9 om_,F9 om_,hl];simp
  ·obtain ⟨h1,h2⟩:=Em (f:=f) (h:=h) e;rw [GJ om_,GJ om_];exact ⟨h1,h2⟩
abbrev zxp:Expr:=⟨0,0,[]⟩
namespace Csc
def sgG (N:Sg->LM) (s:Ah):List Ae:=
 if G s=2 then [⟨N (.gl 1),1,Bp 3 ((dat s).en (las s 0)),Bp 3 ((dat s).en (las s 1)),0,false⟩,⟨N (.gl 0),0,⟨2,0,[lnx ((dat s).L (.gl 1))]⟩,zxp,0,false⟩]
 else (List.range (G s)).map λj=>⟨N (.gl j),1,Bp 3 ((dat s).L (.gl ((dat s).pv j)) :: (dat s).en (las s ((dat s).pv j))),lnx ((dat s).L (.gl ((dat s).nx j))),0,decide (j=0)⟩
def sT (N:Sg->LM) (s:Ah) (k:Nat):Ae:=⟨N (.tm k),2,Bp 3 ((dat s).L (.gl (g s k)) :: (S s k).map CasD.sw),zxp,(stp s k).Wait,false⟩
def sS (N:Sg->LM) (s:Ah) (k:Nat):Ae:=⟨N (.sg k),0,Bp 3 ((dat s).L (.gl (g s k)) :: (dat s).bg k),zxp,0,false⟩
def sP (N:Sg->LM) (s:Ah) (o:Bool) (a:Nat):Ae:=⟨N (.pl a o),0,Bp 4 (((dat s).at_ a o).map λk=>(dat s).L (.sg k)),zxp,0,false⟩
def sgs (N:Sg->LM) (s:Ah):List Ae:=sgG N s ++ (((List.range (n s)).filter (W s)).map (sT N s) ++ ((List.range (n s)).map (sS N s) ++ (List.range (A s)).flatMap λa=>[sP N s true a,sP N s false a]))
def blt (N:Sg->LM) (i:LM) (s:Ah):Aa:=⟨s.Actuators,[i],sgs N s,(List.range (A s)).map λa=>(((dat s).L (.pl a true):Nat):Int),(List.range (A s)).map λa=>(((dat s).L (.pl a false):Nat):Int)⟩
end Csc
variable {N:Sg->LM} {i:LM}
theorem Cc:(sgG N s).length=G s:=by
 unfold sgG;split
 ·rename_i h;rw [h];rfl
 ·rw [GP,GV]
theorem Fh:(sgs N s).length=G s + cts s (n s) + n s + 2 * A s:=by
 unfold sgs;rw [GB,GB,GB,Cc,GP,GP,GV,Df];show G s + (cts s (n s) + (n s + 2 * A s))=_;omega
theorem Ly {j:Nat} (hj:j < G s):(sgs N s)[j]?=(sgG N s)[j]?:=by
 unfold sgs;rw [GJ (by rw [Cc];exact hj)]
theorem DQ {k:Nat} (hk:k < n s) (hw:W s k=true):(sgs N s)[G s + cts s k]?=some (sT N s k):=by
 have h1:=Bb hk hw;have h2:=(GC.1 h1).1;unfold sgs;rw [F9 (by rw [Cc];omega),Cc,show G s + cts s k - G s=cts s k by omega,GJ (by rw [GP];exact h2),GO];show (((List.range (n s)).filter (W s))[((List.range k).filter (W s)).length]?).map _=_;rw [h1];rfl
theorem sgs_S {k:Nat} (hk:k < n s):(sgs N s)[G s + cts s (n s) + k]?=some (sS N s k):=by
 have hl:(((List.range (n s)).filter (W s)).map (sT N s)).length=cts s (n s):=by rw [GP];rfl
 unfold sgs;rw [F9 (by rw [Cc];omega),Cc,F9 om_,hl,show G s + cts s (n s) + k - G s - cts s (n s)=k by omega,GJ (by rw [GP,GV];exact hk),GO,GM hk];rfl
theorem sgs_P {a:Nat} {o:Bool} (ha:a < A s):(sgs N s)[G s + cts s (n s) + n s + 2 * a + (if o=true then 0 else 1)]?=some (sP N s o a):=by
 have hl:(((List.range (n s)).filter (W s)).map (sT N s)).length=cts s (n s):=by rw [GP];rfl
 have hl2:((List.range (n s)).map (sS N s)).length=n s:=by rw [GP,GV]
 obtain ⟨h1,h2⟩:=Em (f:=sP N s true) (h:=sP N s false) ha;unfold sgs;rw [F9 (by rw [Cc];omega),Cc,F9 om_,hl,F9 om_,hl2];cases o with
 | true=>rw [if_pos rfl,show G s + cts s (n s) + n s + 2 * a + 0 - G s - cts s (n s) - n s=2 * a by omega];exact h1
 | false=>rw [if_neg (by decide),show G s + cts s (n s) + n s + 2 * a + 1 - G s - cts s (n s) - n s=2 * a + 1 by omega];exact h2
theorem ex_f {q:CasD} (h:q.ch=false) {j:Nat}:q.ex j=q.en (q.la j):=by unfold CasD.ex;rw [if_neg (by rw [h];simp),G3]
theorem Sqc.cas (h:Sqc s):CasP (blt N i s) (dat s) where
 a:=rfl
 i:=rfl
 g2:=h.g2
 gn:=λk hk=>by
  have:=El (s:=s) (show k<=n s - 1 by have:k < n s:=hk;omega);show g s k < G s;rw [E6];omega
 ln:=λj hj=>(la_ok h.n0 hj).1
 Sa:=λk hk x hx=>by
  obtain ⟨y,hy,rfl⟩:=GQ.1 hx;have:=h.ac k hk y hy;show y.Actuator.toNat < s.Actuators.toNat
  omega
 sur:=λj hj=>by
  have hj:j < G s + cts s (n s) + n s + 2 * A s:=by rw [← Fh (N:=N)];exact hj
  have h2:=h.g2;rcases G9 j (G s) with h1 | h1
  ·refine ⟨.gl (if G s=2 then 1 - j else j),?_,?_,λ_ _=>rfl⟩
   ·show (if G s=2 then 1 - j else j) < G s
    split <;> omega
   ·show (if G s=2 then 1 - (if G s=2 then 1 - j else j) else (if G s=2 then 1 - j else j))=j
    split <;> omega
  ·rcases G9 j (G s + cts s (n s)) with h3 | h3
   ·obtain ⟨k,hk,hw,he⟩:=Km (p:=W s) (n:=n s) (i:=j - G s) (by show _ < cts s (n s);omega);refine ⟨.tm k,⟨hk,hw⟩,?_,λ_ _=>rfl⟩;show G s + cts s k=j;unfold cts;omega
   ·rcases G9 j (G s + cts s (n s) + n s) with h4 | h4
    ·exact ⟨.sg (j - G s - cts s (n s)),show _ < n s by omega,show G s + cts s (n s) + _=j by omega,λ_ _=>rfl⟩
    ·refine ⟨.pl ((j - G s - cts s (n s) - n s) / 2) (decide ((j - G s - cts s (n s) - n s) % 2=0)),show _ < A s by omega,?_,λ_ _=>rfl⟩;show G s + cts s (n s) + n s + 2 * ((j - G s - cts s (n s) - n s) / 2) + (if decide ((j - G s - cts s (n s) - n s) % 2=0)=true then 0 else 1)=j
     by_cases e:(j - G s - cts s (n s) - n s) % 2=0
     ·rw [dt_ e,if_pos rfl];omega
     ·rw [df_ e,if_neg (by decide)];omega
 tmS:=λk hk hw=>⟨_,DQ hk hw,rfl,rfl⟩
 sgS:=λ_ k hk=>⟨_,sgs_S hk,rfl,rfl⟩
 chn:=λe=>by cases e
 plS:=λa o ha=>⟨_,sgs_P ha,rfl,rfl⟩
 glS:=λhG j hj=>by
  have hG:G s≠2:=hG;have hj:j < G s:=hj;refine ⟨⟨N (.gl j),1,Bp 3 ((dat s).L (.gl ((dat s).pv j)) :: (dat s).en (las s ((dat s).pv j))),lnx ((dat s).L (.gl ((dat s).nx j))),0,decide (j=0)⟩,?_,rfl,by rw [ex_f rfl];rfl,rfl⟩;show (sgs N s)[if G s=2 then 1 - j else j]?=_
  rw [if_neg hG,Ly hj];unfold sgG;rw [if_neg hG,GO,GM hj];rfl
 glT:=λhG=>by
  have hG:G s=2:=hG;refine ⟨⟨N (.gl 1),1,Bp 3 ((dat s).en (las s 0)),Bp 3 ((dat s).en (las s 1)),0,false⟩,?_,rfl,by rw [ex_f rfl];rfl,by rw [ex_f rfl];rfl⟩;show (sgs N s)[if G s=2 then 1 - 1 else 1]?=_
  rw [if_pos hG,Ly om_];unfold sgG;rw [if_pos hG];rfl
 glU:=λhG=>by
  have hG:G s=2:=hG;refine ⟨⟨N (.gl 0),0,⟨2,0,[lnx ((dat s).L (.gl 1))]⟩,zxp,0,false⟩,?_,rfl,rfl⟩;show (sgs N s)[if G s=2 then 1 - 0 else 0]?=_
  rw [if_pos hG,Ly om_];unfold sgG;rw [if_pos hG];rfl
 ogs:=λ_ hG k hk=>by
  have hG:G s=2:=hG;show (if G s=2 then 1 - 0 else 0) < G s + cts s (n s) + k
  rw [if_pos hG];omega
 osp:=λk a o hk ha=>by
  have hk:k < n s:=hk;show G s + cts s (n s) + k < G s + cts s (n s) + n s + 2 * a + (if o=true then 0 else 1)
  omega
 pls:=λa ha=>Cw (show a < A s from ha)
 mns:=λa ha=>Cw (show a < A s from ha)
theorem Sqc.tmp:TmP (dat s) where
 inj:=λa b ha hwa hb hwb he=>by
  have he:G s + cts s a=G s + cts s b:=he;have h1:=Bb ha hwa;have h2:=Bb hb hwb;have h3:((List.range a).filter (W s)).length=((List.range b).filter (W s)).length:=by unfold cts at he;omega
  have h1:((List.range (n s)).filter (W s))[((List.range a).filter (W s)).length]?=some a:=h1;rw [h3] at h1;exact Option.some.inj (h1.symm.trans h2)
 jn:=λj k hj hk hw=>by
  have hj:j < G s:=hj;show (if G s=2 then 1 - j else j)≠G s + cts s k
  split <;> omega
theorem Sqc.ini (h:Sqc s) (hf:Fit (blt N i s) (Pn.ini (blt N i s))):Bs (blt N i s) (dat s) (Pn.ini (blt N i s)) ((dat s).Ep 0) ((dat s).pos 0) (CasD.Mj 0) ((dat s).Tk 0 0) false:=by
 have h2:=h.g2;have hl:=Fh (N:=N) (s:=s);have hv:∀ j x,(sgs N s)[j]?=some x->(Pn.ini (blt N i s)).Values.getD j false=x.Init:=λj x hx=>by
  have hlt:=(GC.1 hx).1;show ((List.range (sgs N s).length).map (Yj (blt N i s))).getD j false=_;rw [Cw hlt];unfold Yj;rw [show (blt N i s).Signals[j]?=some x from hx];rfl
 have hrep:∀ {α:Type} (m j:Nat) (d:α),(List.replicate m d).getD j d=d:=λm j d=>by
  rw [F7,HZ]; split <;> rfl
 refine ⟨hf,λa ha=>?_,λa ha=>?_,rfl,λj hj hg=>?_,λ_=>rfl,λk hk hw=>⟨?_,?_⟩⟩
 ·exact hrep _ _ _
 ·exact hrep _ _ _
 ·have hj:j < G s:=hj;show (Pn.ini (blt N i s)).Values.getD (if G s=2 then 1 - j else j) false=_
  by_cases e:G s=2
  ·obtain rfl:=hg e;rw [if_pos e];have:(sgs N s)[1 - 1]?=some ⟨N (.gl 1),1,Bp 3 ((dat s).en (las s 0)),Bp 3 ((dat s).en (las s 1)),0,false⟩:=by
    rw [Ly om_];unfold sgG;rw [if_pos e];rfl
   rw [hv _ _ this];rfl
  ·rw [if_neg e];have:(sgs N s)[j]?=some ⟨N (.gl j),1,Bp 3 ((dat s).L (.gl ((dat s).pv j)) :: (dat s).en (las s ((dat s).pv j))),lnx ((dat s).L (.gl ((dat s).nx j))),0,decide (j=0)⟩:=by
    rw [Ly hj];unfold sgG;rw [if_neg e,GO,GM hj];rfl
   rw [hv _ _ this];unfold CasD.Mj;show decide (j=0)=(j == 0);rw [G0];simp
 ·rw [Uw (λ_ _ _=>HQ _) hk];exact hrep _ _ _
 ·rw [Uw (λ_ _ _=>HQ _) hk];show (Pn.ini (blt N i s)).Values.getD (G s + cts s k) false=_;rw [hv _ _ (DQ hk hw)];rfl
end Go.Pn
namespace Go.Pn
open Go
open Csc
theorem chkI {L:Nat->Int->Option (Lo Int Int)} {N:Nat} {P:Nat->Prop}
  (h:∀ (n i:Nat),i < N->(∃ e,e≠0/\L (n + 1) (i:Int)=some (.ret e))\/(P i/\L (n + 1) (i:Int)=L n ((i + 1:Nat):Int))) (h':∀ n,L (n + 1) (N:Int)=some (.brk (N:Int))) :
  ∀ (n i:Nat),i<=N->N - i < n->(∃ e,e≠0/\L n (i:Int)=some (.ret e))\/(L n (i:Int)=some (.brk (N:Int))/\∀ k,i<=k->k < N->P k)
 | 0,i,_,h=>by omega
 | n + 1,i,h1,h2=>by
  by_cases hi:i < N
  ·rcases h n i hi with h3 | ⟨h3,h4⟩
   ·exact .inl h3
   ·rw [h4];rcases chkI h h' n (i + 1) om_ om_ with h5 | ⟨h5,h6⟩
    ·exact .inl h5
    ·refine .inr ⟨h5,λk h7 h8=>?_⟩;rcases G8 h7 with e | e
     ·subst e;exact h3
     ·exact h6 k e h8
  ·obtain rfl:i=N:=by omega
   exact .inr ⟨h' n,λk h3 h4=>by omega⟩
structure Stk (x:Step):Prop where
 ne:x.Strokes≠[]
 le:x.Strokes.length<=6
 ac:∀ y∈x.Strokes,0<=y.Actuator/\y.Actuator < 6
 srt:∀ (i:Nat) y z,x.Strokes[i]?=some y->x.Strokes[i + 1]?=some z->y.Actuator < z.Actuator
 w:0<=x.Wait/\x.Wait<=1000000
theorem B7 (x:Step):∃ e,OA FF x=some e/\(e=0->Stk x):=by
 unfold OA;by_cases h0:x.Strokes=[]
 ·rw [h0];exact ⟨13,rfl,λh=>by omega⟩
 have hl:0 < x.Strokes.length:=KO.2 h0;rw [show ((x.Strokes.length:Int) == 0)=false by rw [beq_eq_false_iff_ne];omega,cf_];by_cases h6:x.Strokes.length > 6
 ·rw [dt_ om_,ct_];exact ⟨5,rfl,λh=>by omega⟩
 rw [df_ om_,cf_];have h:=chkI (L:=Kj FF x) (N:=x.Strokes.length) (P:=λi=>∀ y,x.Strokes[i]?=some y->(0<=y.Actuator/\y.Actuator < 6)/\∀ j z,i=j + 1->x.Strokes[j]?=some z->z.Actuator < y.Actuator) (λn i hi=>by
  have hx:=gE_ hi;rw [Kj,Ak,dt_ hi,ct_,Aj,hx,ob_];unfold N8;rw [ob_];by_cases ha:0<=x.Strokes[i].Actuator/\x.Strokes[i].Actuator < 6
  ·rw [dt_ (show x.Strokes[i].Actuator>=0 from ha.1),dt_ ha.2,JK,JO,cf_];cases i with
   | zero=>
    rw [show decide (((0:Nat):Int) > 0)=false by rfl,cf_,ob_,cf_,cf_,ob_,cf_,Am om_];refine .inr ⟨λy hy=>?_,rfl⟩;obtain rfl:=Option.some.inj hy;exact ⟨ha,λj z hj=>by omega⟩
   | succ i=>
    have hz:=gE_ (show i < x.Strokes.length by omega);have hw:wr (((i + 1:Nat):Int) - 1)=(i:Int):=by rw [Ao om_ om_];omega
    rw [dt_ (by omega:((i + 1:Nat):Int) > 0),ct_,hw,Aj,hz];simp only [ob_,ct_];by_cases he:x.Strokes[i + 1].Actuator=x.Strokes[i].Actuator
    ·rw [show (x.Strokes[i + 1].Actuator == x.Strokes[i].Actuator)=true by simpa using he,ct_];exact .inl ⟨7,by omega,rfl⟩
    ·rw [show (x.Strokes[i + 1].Actuator == x.Strokes[i].Actuator)=false by simpa using he,cf_];by_cases hl:x.Strokes[i + 1].Actuator < x.Strokes[i].Actuator
     ·rw [dt_ hl,ct_];exact .inl ⟨9,by omega,rfl⟩
     ·rw [df_ hl,cf_,Am om_];refine .inr ⟨λy hy=>?_,rfl⟩;obtain rfl:=Option.some.inj hy;refine ⟨ha,λj z hj hz'=>?_⟩;obtain rfl:j=i:=by omega
      rw [hz] at hz';obtain rfl:=Option.some.inj hz';omega
  ·have:(decide (x.Strokes[i].Actuator>=0) && decide (x.Strokes[i].Actuator < 6))=false:=by
    rw [JS,decide_eq_false_iff_not,decide_eq_false_iff_not];omega
   rw [this,J2,ct_];exact .inl ⟨2,by omega,rfl⟩) (λn=>by
  rw [Kj,Ak,df_ om_,cf_]) FF 0 om_ uF
 rw [n0] at h;rcases h with ⟨e,he,h⟩ | ⟨h,hP⟩
 ·rw [h];exact ⟨e,rfl,λh=>absurd h he⟩
 ·rw [h,ob_];dsimp only;unfold N9;rw [ob_];by_cases hw:0<=x.Wait/\x.Wait<=1000000
  ·rw [dt_ (show x.Wait>=0 from hw.1),dt_ hw.2];refine ⟨0,rfl,λ_=>⟨h0,by omega,λy hy=>?_,λi y z hy hz=>?_,hw⟩⟩
   ·obtain ⟨i,hi⟩:=HR hy;exact (hP i (HQ _) (GC.1 hi).1 y hi).1
   ·exact (hP (i + 1) (HQ _) (GC.1 hz).1 z hz).2 i y rfl hy
  ·have:(decide (x.Wait>=0) && decide (x.Wait<=1000000))=false:=by
    rw [JS,decide_eq_false_iff_not,decide_eq_false_iff_not];omega
   rw [this];exact ⟨2,rfl,λh=>by omega⟩
theorem Stk.asc {x:Step} (h:Stk x) {i j:Nat} {y z:Ab} (hij:i < j) (hy:x.Strokes[i]?=some y) (hz:x.Strokes[j]?=some z):y.Actuator < z.Actuator:=by
 induction j generalizing z with
 | zero=>omega
 | succ j ih=>
  have hj:=(GC.1 hz).1;have hw:=gE_ (show j < x.Strokes.length by omega);have h1:=h.srt j _ z hw hz;rcases G8 (show i<=j by omega) with e | e
  ·subst e;rw [hw] at hy;obtain rfl:=Option.some.inj hy;exact h1
  ·have:=ih e hw;omega
def enf (x:Step) (i:Nat) (v:Bool) (a:Nat):Bool:=match (x.Strokes.take i).find? (λy=>y.Actuator.toNat == a) with | some y=>y.Out | none=>v
theorem Yg {x:Step} {l:LJ} (h:Stk x) (hl:l.length<=1000) (hA:∀ y∈x.Strokes,y.Actuator < l.length):∃ r,OD FF x l=some r/\r.length=l.length/\∀ a,a < l.length->r.getD a false=enf x x.Strokes.length (l.getD a false) a:=by
 have h6:=h.le;unfold OD;rw [Ar so_,ob_,HV];obtain ⟨v,⟨hv1,hv⟩,hh⟩:=Rx (L:=Kh x) (mk:=λi (v:LJ)=>((i:Int),v)) (N:=x.Strokes.length) (I:=λi v=>v.length=l.length/\∀ a,a < l.length->v.getD a false=enf x i (l.getD a false) a) (λn i v hi hI=>by
  have hx:=gE_ hi;have hac:=h.ac _ (GN hi);have hlt:=hA _ (GN hi);have hid:idx v x.Strokes[i].Actuator=v[x.Strokes[i].Actuator.toNat]?:=by
   rw [show x.Strokes[i].Actuator=((x.Strokes[i].Actuator.toNat:Nat):Int) by omega,Aj];rfl
  have hlt':x.Strokes[i].Actuator.toNat < v.length:=by rw [hI.1];omega
  rw [Kh];dsimp only;rw [Ak,dt_ hi,ct_,Aj,hx,ob_,ob_,hid,gE_ hlt',ob_,Am om_];refine ⟨_,⟨(HY ..).trans hI.1,λa ha=>?_⟩,rfl⟩;rw [Eu hlt'];unfold enf;rw [J0,hx];simp only [Option.toList_some];rw [List.find?_append];by_cases e:x.Strokes[i].Actuator.toNat=a
  ·rw [if_pos e];have hno:(x.Strokes.take i).find? (λy=>y.Actuator.toNat == a)=none:=by
    rw [KV];intro y hy;obtain ⟨j,hj⟩:=HR hy;have hj2:=(GC.1 hj).1;rw [K1] at hj2;rw [H4 om_] at hj;have h1:=h.asc (show j < i by omega) hj hx;have h2:=h.ac y (GX hj);simp;omega
   rw [hno];simp [e]
  ·rw [if_neg e,hI.2 a ha];have:[x.Strokes[i]].find? (λy=>y.Actuator.toNat == a)=none:=by simp [e]
   rw [this,Option.or_none];rfl) (λn v _=>by
  rw [Kh];dsimp only;rw [Ak,df_ om_,cf_]) FF 0 l om_ uF ⟨rfl,λa _=>by unfold enf;simp⟩
 try dsimp only at hh
 rw [n0] at hh;rw [hh];exact ⟨v,rfl,hv1,hv⟩
theorem CV {s:Ah} {k a:Nat} (h:Stk (stp s k)):enf (stp s k) (stp s k).Strokes.length ((dat s).pos k a) a=(dat s).pos (k + 1) a:=by
 unfold enf;rw [List.take_length];show _=if (a,true)∈S s k then true else if (a,false)∈S s k then false else (dat s).pos k a
 cases hf:(stp s k).Strokes.find? (λy=>y.Actuator.toNat == a) with
 | none=>
  rw [KV] at hf;have hno:∀ o,(a,o) ∉ S s k:=λo ho=>by
   obtain ⟨y,hy,he⟩:=GQ.1 ho;have:=hf y hy;simp at this;exact this (Prod.mk.inj he).1
  rw [if_neg (hno true),if_neg (hno false)]
 | some y=>
  have hy:=KZ hf;have ha:y.Actuator.toNat=a:=by have:=List.find?_some hf;simpa using this
  have hm:(a,y.Out)∈S s k:=GQ.2 ⟨y,hy,by rw [ha]⟩;have huniq:∀ o,(a,o)∈S s k->o=y.Out:=λo ho=>by
   obtain ⟨z,hz,he⟩:=GQ.1 ho;obtain ⟨he1,he2⟩:=Prod.mk.inj he;obtain ⟨i,hi⟩:=HR hy;obtain ⟨j,hj⟩:=HR hz;have h1:=h.ac y hy;have h2:=h.ac z hz;rcases J1 i j with h3 | h3 | h3
   ·have:=h.asc h3 hi hj;omega
   ·subst h3;rw [hi] at hj;rw [Option.some.inj hj];exact he2.symm
   ·have:=h.asc h3 hj hi;omega
  cases ho:y.Out with
  | true=>rw [ho] at hm;rw [if_pos hm];exact ho
  | false=>
   rw [ho] at hm huniq;rw [if_neg (λe=>by have:=huniq true e;cases this),if_pos hm];exact ho
end Go.Pn
namespace Go.Pn
open Go
open Csc
variable {s:Ah}
theorem Uh {v:LJ} {z:Int} (h0:0<=z) (h:z < v.length):idx v z=some (v.getD z.toNat false):=by
 have h1:z.toNat < v.length:=by omega
 have h2:idx v z=v[z.toNat]?:=by
  have:=Aj (xs:=v) (n:=z.toNat);rw [show ((z.toNat:Nat):Int)=z by omega] at this;exact this
 rw [h2,gE_ h1,F7,gE_ h1];rfl
theorem B6 {x:Step} {l:LJ} (h:Stk x) (hl:l.length<=1000):∃ b,OC FF x l=some b/\(b=true->∀ y∈x.Strokes,y.Actuator < l.length/\l.getD y.Actuator.toNat false=!y.Out):=by
 have h6:=h.le;have hh:=Cq (L:=Ki x l) (N:=x.Strokes.length) (Q:=λi=>match x.Strokes[i]? with | some y=>decide (y.Actuator>=(l.length:Int)) || (l.getD y.Actuator.toNat false == y.Out) | none=>false) (r:=λ_=>false) (λn i hi=>by
  have hx:=gE_ hi;have hac:=h.ac _ (GN hi);rw [Ki,Ak,dt_ hi,ct_,Aj,hx,ob_];dsimp only;by_cases hg:x.Strokes[i].Actuator>=(l.length:Int)
  ·rw [dt_ hg,ct_,ob_,ct_];rfl
  ·rw [df_ hg,cf_,Uh hac.1 om_,ob_,ob_,JA,Am om_]) (λn=>by
  rw [Ki,Ak,df_ om_,cf_]) FF 0 om_ uF
 rw [n0] at hh;unfold OC;rcases hh with ⟨k,_,_,_,hh⟩ | ⟨hh,hq⟩
 ·rw [hh];exact ⟨false,rfl,λh=>by cases h⟩
 ·rw [hh];refine ⟨true,rfl,λ_ y hy=>?_⟩;obtain ⟨i,hi⟩:=HR hy;have:=hq i (HQ _) (GC.1 hi).1;rw [hi] at this;dsimp only at this;rw [H6,decide_eq_false_iff_not] at this;refine ⟨by omega,?_⟩;have h2:=this.2;cases e:l.getD y.Actuator.toNat false <;> cases e2:y.Out <;> rw [e,e2] at h2 <;> first | rfl | cases h2
structure Gd4 (s:Ah) (k:Nat):Prop where
 st:Stk (stp s k)
 lt:∀ y∈(stp s k).Strokes,y.Actuator < s.Actuators
 ft:∀ a o,(a,o)∈S s k->(dat s).pos k a=!o
theorem Bj {k:Nat} (hk:k < n s):s.Steps[k]?=some (stp s k):=by
 unfold stp;rw [F7,gE_ hk];rfl
theorem Mh (h1:1<=s.Actuators) (h6:s.Actuators<=6) (hn:n s<=64):∀ (m i:Nat) (l:LJ),i<=n s->n s - i < m->l.length=A s->(∀ a,a < A s->l.getD a false=(dat s).pos i a) ->
  (∃ e,e≠0/\Oq FF s m (l,(i:Int))=some (.ret e))\/(∃ r,Oq FF s m (l,(i:Int))=some (.brk (r,(n s:Int)))/\r.length=A s/\(∀ a,a < A s->r.getD a false=(dat s).pos (n s) a)/\∀ k,i<=k->k < n s->Gd4 s k)
 | 0,i,l,_,h,_,_=>by omega
 | m + 1,i,l,hi1,hi2,hl,hp=>by
  have hA:((A s:Nat):Int)=s.Actuators:=by unfold A;omega
  rw [Oq];dsimp only;by_cases hi:i < n s
  ·have hx:=Bj hi;rw [show decide ((i:Int) < (s.Steps.length:Int))=true from dt_ (by unfold n at hi;omega),ct_,Aj,hx,ob_];obtain ⟨e,he,hst⟩:=B7 (stp s i);rw [he,ob_];by_cases h0:e=0
   ·subst h0;have hS:=hst rfl;have h6':=hS.le;rw [zf_,cf_];have hh:=Cq (L:=Oo s (stp s i)) (N:=(stp s i).Strokes.length) (Q:=λj=>match (stp s i).Strokes[j]? with | some y=>decide (y.Actuator>=s.Actuators) | none=>false) (r:=λ_=>6) (λn' j hj=>by
     have hx:=gE_ hj;rw [Oo,Ak,dt_ hj,ct_,Aj,hx,ob_,Am om_]) (λn'=>by
     rw [Oo,Ak,df_ om_,cf_]) FF 0 om_ uF
    rw [n0] at hh;rcases hh with ⟨k,_,_,_,hh⟩ | ⟨hh,hq⟩
    ·rw [hh];exact .inl ⟨6,by omega,rfl⟩
    ·rw [hh,ob_];dsimp only;have hlt:∀ y∈(stp s i).Strokes,y.Actuator < s.Actuators:=λy hy=>by
      obtain ⟨j,hj⟩:=HR hy;have:=hq j (HQ _) (GC.1 hj).1;rw [hj] at this;have:=of_decide_eq_false this;omega
     obtain ⟨b,hb,hbt⟩:=B6 (l:=l) hS om_;rw [hb,ob_];cases b with
     | false=>rw [nf_,ct_];exact .inl ⟨14,by omega,rfl⟩
     | true=>
      have hft:=hbt rfl;obtain ⟨r,hr,hrl,hrg⟩:=Yg (l:=l) hS om_ (λy hy=>(hft y hy).1);rw [nt_,cf_,hr,ob_,Am om_];have hG:Gd4 s i:=⟨hS,hlt,λa o ho=>by
       obtain ⟨y,hy,he⟩:=GQ.1 ho;obtain ⟨he1,he2⟩:=Prod.mk.inj he;have h3:=hft y hy;have h4:=hS.ac y hy;rw [← hp a om_,← he1,← he2];exact h3.2⟩
      rcases Mh h1 h6 hn m (i + 1) r om_ om_ om_ (λa ha=>by
       rw [hrg a om_,hp a ha];exact CV hS) with h5 | ⟨r',g1,g2,g3,g4⟩
      ·exact .inl h5
      ·refine .inr ⟨r',g1,g2,g3,λk hk1 hk2=>?_⟩;rcases G8 hk1 with e | e
       ·subst e;exact hG
       ·exact g4 k e hk2
   ·rw [show (e != 0)=true by simpa using h0,ct_];exact .inl ⟨e,h0,rfl⟩
  ·obtain rfl:i=n s:=by omega
   rw [show decide (((n s:Nat):Int) < (s.Steps.length:Int))=false from df_ (by unfold n;omega),cf_];exact .inr ⟨l,rfl,hl,hp,λk _ _=>by omega⟩
theorem EG (h1:1<=s.Actuators) (h6:s.Actuators<=6) (hn:n s<=64):∃ e,m51 FF s=some e/\(e=0->(∀ k,k < n s->Gd4 s k)/\∀ a,a < A s->(dat s).pos (n s) a=false):=by
 have hA:((A s:Nat):Int)=s.Actuators:=by unfold A;omega
 have hA6:A s<=6:=by omega
 unfold m51;rw [← hA,Ob om_,ob_];rcases Mh h1 h6 hn FF 0 (List.replicate (A s) false) om_ uF As (λa ha=>by
  rw [F7,HZ,if_pos ha];rfl) with ⟨e,he,h⟩ | ⟨r,h,g2,g3,g4⟩
 ·rw [n0] at h;rw [h];exact ⟨e,rfl,λh=>absurd h he⟩
 ·rw [n0] at h;rw [h,ob_];dsimp only;have hh:=Cq (L:=Ol s (r,(n s:Int))) (N:=A s) (Q:=λj=>r.getD j false) (r:=λ_=>9) (λn' j hj=>by
   rw [Ol];rw [show decide ((j:Int) < s.Actuators)=true from dt_ om_,ct_];dsimp only;rw [Aj,gE_ om_,ob_,F7,gE_ om_,JH,Am om_]) (λn'=>by
   rw [Ol,show decide (((A s:Nat):Int) < s.Actuators)=false from df_ om_,cf_]) FF 0 om_ uF
  rw [n0] at hh;rcases hh with ⟨k,_,_,_,hh⟩ | ⟨hh,hq⟩
  ·rw [hh];exact ⟨9,rfl,λh=>by omega⟩
  ·rw [hh];exact ⟨0,rfl,λ_=>⟨λk hk=>g4 k (HQ _) hk,λa ha=>by rw [← g3 a ha];exact hq a (HQ _) ha⟩⟩
theorem B5 {x:Step} {v:Int} (h:Stk x):∃ w,OE FF x v=some w/\(w != 0)=x.Strokes.any λy=>y.Actuator == v:=by
 have h6:=h.le;have hh:=Cq (L:=Ke x v) (N:=x.Strokes.length) (Q:=λi=>match x.Strokes[i]? with | some y=>y.Actuator == v | none=>false) (r:=λi=>match x.Strokes[i.toNat]? with | some y=>if y.Out=true then 1 else -1 | none=>1) (λn i hi=>by
  have hx:=gE_ hi;rw [Ke,Ak,dt_ hi,ct_,Aj,hx,ob_];dsimp only;rw [HG,hx];cases x.Strokes[i].Actuator == v with
  | true=>
   rw [ct_,ct_,ob_];dsimp only;cases x.Strokes[i].Out <;> rfl
  | false=>rw [cf_,cf_,Am om_]) (λn=>by
  rw [Ke,Ak,df_ om_,cf_]) FF 0 om_ uF
 rw [n0] at hh;unfold OE;rcases hh with ⟨k,_,hk,hq,hh⟩ | ⟨hh,hq⟩
 ·have hx:=gE_ hk;rw [hh];refine ⟨_,rfl,?_⟩;rw [HG,hx];rw [hx] at hq;dsimp only at hq ⊢;have:(x.Strokes.any λy=>y.Actuator == v)=true:=GK.2 ⟨_,GN hk,hq⟩;rw [this];cases x.Strokes[k].Out <;> rfl
 ·rw [hh];refine ⟨0,rfl,?_⟩;have:(x.Strokes.any λy=>y.Actuator == v)=false:=by
   rw [HE];intro y hy;obtain ⟨i,hi⟩:=HR hy;have:=hq i (HQ _) (GC.1 hi).1;rw [hi] at this;simpa using this
  rw [this];rfl
theorem EF (hn:n s<=64) (hG:∀ k,k < n s->Gd4 s k) (v:Int):∃ b,m52 FF s v=some b/\(b=true->∃ k y,k < n s/\y∈(stp s k).Strokes/\y.Actuator=v):=by
 have hh:=Cq (L:=Ok FF s v) (N:=n s) (Q:=λi=>(stp s i).Strokes.any λy=>y.Actuator == v) (r:=λ_=>true) (λm i hi=>by
  obtain ⟨w,hw,hw2⟩:=B5 (v:=v) (hG i hi).st;rw [Ok,show decide ((i:Int) < (s.Steps.length:Int))=true from dt_ (by unfold n at hi;omega),ct_,Aj,Bj hi,ob_,hw,ob_,hw2,Am om_]) (λm=>by
  rw [Ok,show decide (((n s:Nat):Int) < (s.Steps.length:Int))=false from df_ (by unfold n;omega),cf_]) FF 0 om_ uF
 rw [n0] at hh;unfold m52;rcases hh with ⟨k,_,hk,hq,hh⟩ | ⟨hh,_⟩
 ·rw [hh];refine ⟨true,rfl,λ_=>?_⟩;obtain ⟨y,hy,hv⟩:=GK.1 hq;exact ⟨k,y,hk,hy,by simpa using hv⟩
 ·rw [hh];exact ⟨false,rfl,λh=>by cases h⟩
theorem EM (s:Ah):∃ e,m10 FF s=some e/\(e=0->Sqc s/\n s<=64/\∀ k,k < n s->Stk (stp s k)):=by
 unfold m10;by_cases hA:1<=s.Actuators/\s.Actuators<=6
 ·rw [df_ (show ¬ s.Actuators < 1 by omega),df_ (show ¬ s.Actuators > 6 by omega),JF,cf_];by_cases h0:s.Steps.length=0
  ·rw [show ((s.Steps.length:Int) == 0)=true by rw [beq_iff_eq];omega,ct_];exact ⟨13,rfl,λh=>by omega⟩
  rw [show ((s.Steps.length:Int) == 0)=false by rw [beq_eq_false_iff_ne];omega,cf_];by_cases h64:s.Steps.length > 64
  ·rw [dt_ (show (s.Steps.length:Int) > 64 by omega),ct_];exact ⟨5,rfl,λh=>by omega⟩
  rw [df_ (show ¬ (s.Steps.length:Int) > 64 by omega),cf_];have hn:n s<=64:=by unfold n;omega
  obtain ⟨e,he,hst⟩:=EG hA.1 hA.2 hn;rw [he,ob_];by_cases h0':e=0
  ·subst h0';obtain ⟨hG,hB⟩:=hst rfl;rw [zf_,cf_];have hAc:((A s:Nat):Int)=s.Actuators:=by unfold A;omega
   have hh:=chkI (L:=Pc FF s) (N:=A s) (P:=λi=>∃ k y,k < n s/\y∈(stp s k).Strokes/\y.Actuator=(i:Int)) (λm i hi=>by
    obtain ⟨b,hb,hb2⟩:=EF hn hG (i:Int);rw [Pc,show decide ((i:Int) < s.Actuators)=true from dt_ om_,ct_,hb,ob_];cases b with
    | false=>exact .inl ⟨13,by omega,rfl⟩
    | true=>rw [JO,cf_,Am om_];exact .inr ⟨hb2 rfl,rfl⟩) (λm=>by
    rw [Pc,show decide (((A s:Nat):Int) < s.Actuators)=false from df_ om_,cf_]) FF 0 om_ uF
   rw [n0] at hh;rcases hh with ⟨e,he,hh⟩ | ⟨hh,hP⟩
   ·rw [hh];exact ⟨e,rfl,λh=>absurd h he⟩
   ·rw [hh];refine ⟨0,rfl,λ_=>⟨⟨hA.1,hA.2,by unfold n;omega,λk hk=>(hG k hk).st.ne,λk hk y hy=>⟨((hG k hk).st.ac y hy).1,(hG k hk).lt y hy⟩,λk hk=>(hG k hk).st.w.1,λk hk=>(hG k hk).ft,λa=>?_,?_⟩,hn,λk hk=>(hG k hk).st⟩⟩
    ·by_cases ha:a < A s
     ·exact hB a ha
     ·have:∀ k,k<=n s->(dat s).pos k a=false:=by
       intro k
       induction k with
       | zero=>intro _;rfl
       | succ k ih=>
        intro hk;rw [Di (λo ho=>by
         obtain ⟨y,hy,he⟩:=GQ.1 ho;have h1:=(hG k om_).lt y hy;have h2:=((hG k om_).st.ac y hy).1;have h3:=(Prod.mk.inj he).1;omega)]
        exact ih om_
      exact this _ (GT _)
    ·intro a ha;obtain ⟨k,y,hk,hy,hv⟩:=hP a (HQ _) ha;exact ⟨k,y.Out,hk,GQ.2 ⟨y,hy,by rw [hv];rfl⟩⟩
  ·rw [show (e != 0)=true by simpa using h0',ct_];exact ⟨e,rfl,λh=>absurd h h0'⟩
 ·have:(decide (s.Actuators < 1) || decide (s.Actuators > 6))=true:=by
   rw [H7,decide_eq_true_iff,decide_eq_true_iff];omega
  rw [this,ct_];exact ⟨2,rfl,λh=>by omega⟩
end Go.Pn
namespace Go.Pn
open Go
open Csc
variable {s:Ah}
theorem EY {α:Type} {L:Nat->Int×List α->Option (Int×List α)} {N:Nat} {f:Nat->List α} {acc0:List α} (hN:N<=1000) (hf:∀ i,i < N->(f i).length<=100) (h0:acc0.length<=1000000)
  (h:∀ (n i:Nat) acc,i < N->acc.length<=2000000/\acc.length<=acc0.length + 100 * N->L (n + 1) ((i:Int),acc)=L n (((i + 1:Nat):Int),acc ++ f i)) (h':∀ n acc,L (n + 1) ((N:Int),acc)=some ((N:Int),acc)):L FF ((0:Int),acc0)=some ((N:Int),acc0 ++ (List.range N).flatMap f):=by
 have hlen:∀ i,i<=N->((List.range i).flatMap f).length<=100 * i:=by
  intro i
  induction i with
  | zero=>intro _;simp
  | succ i ih=>
   intro hi;rw [G5,JG,GB];have h1:=ih om_;have h2:=hf i om_;simp only [LG,List.flatMap_nil,G3];omega
 obtain ⟨v,hv,hh⟩:=Rx (L:=L) (mk:=λi (v:List α)=>((i:Int),v)) (N:=N) (I:=λi v=>v=acc0 ++ (List.range i).flatMap f) (λn i v hi hI=>by
  subst hI;refine ⟨_,?_,h n i _ hi (by rw [GB];have:=hlen i om_;omega)⟩;rw [G5,JG,GU];simp) (λn v _=>h' n v) FF 0 acc0 om_ uF As
 try dsimp only at hh
 rw [n0] at hh;rw [hh,hv]
theorem Xk {α:Type} {f:Nat->α} {N:Nat}:((List.range N).flatMap λi=>[f i])=(List.range N).map f:=(List.map_eq_flatMap ..).symm
theorem Yl {α:Type} {f:Nat->α} {p:Nat->Bool}:∀ {N:Nat},((List.range N).flatMap λi=>if p i=true then [f i] else [])=((List.range N).filter p).map f
 | 0=>rfl
 | N + 1=>by
  rw [G5,JG,J8,HH,Yl];cases h:p N <;> simp [h]
def nbr (p:UInt8) (k:Nat):LM:=if k < 10 then ⟨#[p,UInt8.ofNat (48 + k)]⟩ else ⟨#[p,UInt8.ofNat (48 + k / 10),UInt8.ofNat (48 + k % 10)]⟩
def nmS:Sg->LM
 | .gl j=>nbr 103 j
 | .tm k=>nbr 119 k
 | .sg k=>nbr 115 k
 | .pl a o=>⟨#[UInt8.ofNat (97 + a),if o=true then 112 else 109]⟩
theorem abc_tab:((List.range 6).all λa=>decide (((ssl (⟨#[97,98,99,100,101,102]⟩:LM) (a:Int) (wr ((a:Int) + 1))).bind λx=>cat x (⟨#[112]⟩:LM))=some (nmS (.pl a true))) && decide (((ssl (⟨#[97,98,99,100,101,102]⟩:LM) (a:Int) (wr ((a:Int) + 1))).bind λx=>cat x (⟨#[109]⟩:LM))=some (nmS (.pl a false))))=true:=by kernel_rfl
theorem Xx {a:Nat} (h:a < 6) (o:Bool):∃ x,ssl (⟨#[97,98,99,100,101,102]⟩:LM) (a:Int) (wr ((a:Int) + 1))=some x/\(bif o then cat x (⟨#[112]⟩:LM) else cat x (⟨#[109]⟩:LM))=some (nmS (.pl a o)):=by
 have h1:=GG.1 abc_tab a (GE.2 h);rw [GF,decide_eq_true_iff,decide_eq_true_iff] at h1;obtain ⟨x,hx,h2⟩:=HU.1 h1.1;obtain ⟨x',hx',h3⟩:=HU.1 h1.2;rw [hx] at hx';obtain rfl:=Option.some.inj hx';exact ⟨x,hx,by cases o <;> assumption⟩
structure Sq4 (s:Ah):Prop where
 q:Sqc s
 n:n s<=64
 st:∀ k,k < Csc.n s->Stk (stp s k)
theorem Sq4.A6 (h:Sq4 s):A s<=6:=by have:=h.q.a6;unfold A;omega
theorem Sq4.Ac (h:Sq4 s):s.Actuators=((A s:Nat):Int):=by have:=h.q.a0;unfold A;omega
theorem Sq4.G64 (h:Sq4 s):G s<=Csc.n s:=by
 have h0:=h.q.n0;have:∀ k,g s k<=k:=by
  intro k
  induction k with
  | zero=>exact GT _
  | succ k ih=>rcases Um (s:=s) k with e | e <;> omega
 rw [E6];have:=this (Csc.n s - 1);omega
theorem Hq {k:Nat}:cts s k<=k:=by
 unfold cts;have:=KH (W s) (List.range k);rw [GV] at this;exact this
theorem cts_s (k:Nat):cts s (k + 1)=cts s k + (if W s k=true then 1 else 0):=by
 unfold cts;rw [G5,J8,GB];cases h:W s k <;> simp [h]
def cin (l:LK):LH:=l.map λx=>((x:Nat):Int)
theorem Gj {l:LK} {i:Nat}:(cin l)[i]?=(l[i]?).map λx=>((x:Nat):Int):=GO ..
end Go.Pn
namespace Go.Pn
open Go
open Csc
variable {s:Ah}
theorem L_eq {x:Sg}:(dat s).L x=2 * A s + 1 + no s x:=rfl
theorem cin_len {l:LK}:(cin l).length=l.length:=GP ..
theorem Kz:(cin (dv s)).length=G s:=cin_len
def lnz (s:Ah):LK:=(List.range (G s)).map λj=>(dat s).L (.gl j)
theorem Qz {j:Nat} (hj:j < G s):(cin (lnz s))[j]?=some (((dat s).L (.gl j):Nat):Int):=by
 rw [Gj];unfold lnz;rw [GO,GM hj];rfl
theorem dv_le {i k:Nat} (hi:i < G s) (hk:k < n s):∃ b,(dv s)[i]?=some b/\(b<=k↔i<=g s k)/\(i=g s k->b=(gb s k).1)/\b < n s:=by
 have hG:=E6 (s:=s);obtain ⟨b,h1,h2,h3,_,_⟩:=Pu (s:=s) (j:=i) (k:=n s - 1) om_;obtain ⟨t,ht⟩:=CY (s:=s) (show k<=n s - 1 by omega);have key:∀ b',(dl s k)[i]?=some b'->b'=b:=λb' hb'=>by
  rw [ht,GJ (GC.1 hb').1,hb'] at h1;exact Option.some.inj h1
 refine ⟨b,h1,⟨λhb=>?_,λhg=>?_⟩,λe=>?_,by omega⟩
 ·have:=El (s:=s) hb;omega
 ·obtain ⟨b',h4,h5,_⟩:=Pu (s:=s) (j:=i) (k:=k) hg;rw [← key b' h4];exact h5
 ·subst e;exact (key _ (Nn k)).symm
theorem g_lt (h:Sq4 s) {k:Nat} (hk:k < n s):g s k < G s:=by
 have:=El (s:=s) (show k<=n s - 1 by omega);rw [E6];omega
theorem Yq {k:Nat}:W s k=true↔(stp s k).Wait≠0:=by unfold W;simp
def tms (s:Ah):LH:=(List.range (n s)).map λk=>if W s k=true then (((dat s).L (.tm k):Nat):Int) else -1
theorem tms_get {k:Nat} (hk:k < n s):(tms s)[k]?=some (if W s k=true then (((dat s).L (.tm k):Nat):Int) else -1):=by
 unfold tms;rw [GO,GM hk];rfl
theorem FK {α β:Type} {l:List α} {d:α} {f:α->β}:((List.range l.length).map λi=>f (l.getD i d))=l.map f:=by
 refine List.ext_getElem As λi h1 h2=>?_;rw [K2,K2,List.getElem_range,F7,gE_ (by simpa using h2)];rfl
theorem Hx {a b:Nat} (h:0 < b):rem (a:Int) (b:Int)=some ((a % b:Nat):Int):=by
 unfold rem;rw [if_neg om_,Int.tmod_eq_emod_of_nonneg om_];congr 1
theorem Fe (h:Sq4 s) {j:Nat} (hj:j < G s):las s j < n s:=(la_ok h.q.n0 hj).1
end Go.Pn
namespace Go.Pn
open Go
open Csc
variable {s:Ah}
def sts (s:Ah):LK:=(List.range (n s)).map λk=>(dat s).L (.sg k)
theorem sts_get {k:Nat} (hk:k < n s):(cin (sts s))[k]?=some (((dat s).L (.sg k):Nat):Int):=by
 rw [Gj];unfold sts;rw [GO,GM hk];rfl
theorem Ut {k:Nat} (hk:k < n s):decide ((k:Int) < (s.Steps.length:Int))=true:=dt_ (by unfold n at hk;omega)
theorem Us:decide (((n s:Nat):Int) < (s.Steps.length:Int))=false:=df_ (by unfold n;omega)
theorem Py (h:Sq4 s) {k:Nat} (hk:k < n s):((S s k).map CasD.sw).length<=6:=by
 rw [GP];show ((stp s k).Strokes.map _).length<=6;rw [GP];exact (h.st k hk).le
theorem CX (h:Sq4 s) {k:Nat} (hk:k < n s):((dat s).en k).length<=6:=by
 unfold CasD.en;split
 ·simp
 ·exact Py h hk
theorem Xe {k:Nat} (hk:0 < k):(gb s k).1=k↔g s (k - 1)≠g s k:=by
 obtain ⟨k,rfl⟩:∃ k',k=k' + 1:=⟨k - 1,by omega⟩;have hb:=Yk (s:=s) k;rw [JD,gb_s,g_s];by_cases h:brk s (gb s k).1 (k + 1)=true
 ·rw [if_pos h,if_pos h];exact ⟨λ_=>by omega,λ_=>rfl⟩
 ·rw [if_neg h,if_neg h];exact ⟨λe=>by omega,λe=>absurd rfl e⟩
abbrev cbl (s:Ah):Aa:=blt nmS ⟨#[115,116,97,114,116]⟩ s
end Go.Pn
namespace Go.Pn
open Go
theorem forG {S σ R:Type} {L:Nat->S->R} {mk:Nat->σ->S} {N:Nat} {I:Nat->σ->Prop} {E:σ->R}
  (h:∀ (n i:Nat) s,i < N->I i s->∃ s',I (i + 1) s'/\L (n + 1) (mk i s)=L n (mk (i + 1) s')) (h':∀ (n:Nat) s,I N s->L (n + 1) (mk N s)=E s) :
  ∀ (n i:Nat) s,i<=N->N - i < n->I i s->∃ s',I N s'/\L n (mk i s)=E s'
 | 0,i,_,_,h,_=>by omega
 | n + 1,i,s,h1,h2,hI=>by
  by_cases hi:i < N
  ·obtain ⟨s',h3,h4⟩:=h n i s hi hI;rw [h4];exact forG h h' n (i + 1) s' om_ om_ h3
  ·obtain rfl:i=N:=by omega
   exact ⟨s,hI,h' n s hI⟩
theorem Kv {x:Af} {l:List Af} (h:l.length<=100000):Dp x (l,0)=some (true,(l ++ [x],0)):=by
 unfold Dp;dsimp only;rw [Ar so_];rfl
theorem BL {s:Ad} (h:Smst s 1000):N6 FF s=some (pend s):=by
 have h1:=h.e;have h2:=h.t;unfold N6 N5;obtain ⟨v,hv,hl⟩:=forG (L:=Fv Dp s) (mk:=λi (v:List Af)=>((i:Int),(v,0))) (N:=s.Ends.length) (I:=λi v=>v=(List.range i).filterMap (Zo s)) (E:=λv=>some (.brk ((s.Ends.length:Int),(v,0)))) (λn i v hi hI=>by
  subst hI;refine ⟨_,rfl,?_⟩;have hle:=Gg (g:=Zo s) (n:=i);have hg:s.Ends.getD i 0=s.Ends[i]:=by rw [F7,gE_ hi];rfl
  rw [Fv];dsimp only;rw [Ak,dt_ hi,ct_,Aj,gE_ hi,ob_,Am om_,Ri];have hp:Zo s i=if s.Ends[i]=1\/s.Ends[i]=3 then some ⟨0,(i:Int),false⟩ else none:=by unfold Zo;rw [hg]
  rw [hp];by_cases a1:s.Ends[i]=1\/s.Ends[i]=3
  ·rw [show ((s.Ends[i] == 1) || (s.Ends[i] == 3))=true by simpa using a1,if_pos a1,ct_,Kv om_];rfl
  ·rw [show ((s.Ends[i] == 1) || (s.Ends[i] == 3))=false by simpa using a1,if_neg a1,cf_,cf_,G3]) (λn v _=>by
  rw [Fv];dsimp only;rw [Ak,df_ om_,cf_]) FF 0 [] om_ uF rfl
 subst hv;try dsimp only at hl
 rw [n0] at hl;rw [hl,ob_];have hle1:=Gg (g:=Zo s) (n:=s.Ends.length);obtain ⟨v,hv,hl⟩:=forG (L:=Fu Dp s) (mk:=λi (v:List Af)=>((i:Int),(v,0))) (N:=s.Timers.length) (I:=λi v=>v=(List.range s.Ends.length).filterMap (Zo s) ++ (List.range i).filterMap (DH s)) (E:=λv=>some (.brk ((s.Timers.length:Int),(v,0)))) (λn i v hi hI=>by
  subst hI;refine ⟨_,rfl,?_⟩;have hle:=Gg (g:=DH s) (n:=i);have hg:s.Timers.getD i 0=s.Timers[i]:=by rw [F7,gE_ hi];rfl
  rw [Fu];dsimp only;rw [Ak,dt_ hi,ct_,Aj,gE_ hi,ob_,Am om_,Ri];have hp:DH s i=if s.Timers[i]=1 then some ⟨1,(i:Int),false⟩ else none:=by unfold DH;rw [hg]
  rw [hp];by_cases a1:s.Timers[i]=1
  ·rw [show (s.Timers[i] == 1)=true by simpa using a1,if_pos a1,ct_,Kv (by rw [GB];omega),← GU];rfl
  ·rw [show (s.Timers[i] == 1)=false by simpa using a1,if_neg a1,cf_,cf_,G3]) (λn v _=>by
  rw [Fu];dsimp only;rw [Ak,df_ om_,cf_]) FF 0 ((List.range s.Ends.length).filterMap (Zo s)) om_ uF As
 subst hv;try dsimp only at hl
 rw [n0] at hl;dsimp only;rw [hl];rfl
theorem Qm {c:Aa} {s:Ad} (hc:Rc c) (hf:Fit c s) (hq:Qt c s):m42 FF c s=some (0,pend s):=by
 unfold m42 N4 N7;rw [Ud hc,(Wq hc.rt.bd).2 ⟨hf,hq⟩,ob_,zf_,cf_,ob_,BL (hf.sm hc.rt.bd)];rfl
end Go.Pn
namespace Go.Pn
open Go
open Csc
variable {s:Ah}
theorem BQ {l:LJ} (hl:l.length<=1000) (h:∀ b∈l,b=true):OZ FF l false=some false:=by
 have hh:=Cq (L:=Jh l false) (N:=l.length) (Q:=λi=>match l[i]? with | some b=>false == b | none=>false) (r:=λi=>i) (λn i hi=>by
  have hx:=gE_ hi;rw [Jh,Ak,dt_ hi,ct_,Aj,hx,ob_,Am om_]) (λn=>by
  rw [Jh,Ak,df_ om_,cf_]) FF 0 om_ uF
 rw [n0] at hh;unfold OZ OY;rcases hh with ⟨k,_,hk,hq,_⟩ | ⟨hh,_⟩
 ·exfalso;rw [gE_ hk] at hq;dsimp only at hq;rw [h _ (GN hk)] at hq;cases hq
 ·rw [hh];rfl
theorem BC {x:Step} (h:Stk x):OU FF x=some 0:=by
 have h6:=h.le;have h0:0 < x.Strokes.length:=KO.2 h.ne;unfold OU;rw [show ((x.Strokes.length:Int) == 0)=false by rw [beq_eq_false_iff_ne];omega,cf_,df_ om_,cf_];obtain ⟨v,_,hh⟩:=forG (L:=Ji FF x) (mk:=λi (v:Int)=>(v,(i:Int))) (N:=x.Strokes.length) (E:=λv=>some (.brk (v,(x.Strokes.length:Int)))) (I:=λi v=>(i=0/\v=-1)\/∃ j y,i=j + 1/\x.Strokes[j]?=some y/\v=y.Actuator) (λn i v hi hI=>by
  have hx:=gE_ hi;have ha:=h.ac _ (GN hi);have hlt:v < x.Strokes[i].Actuator:=by
   rcases hI with ⟨_,rfl⟩ | ⟨j,y,rfl,hy,rfl⟩
   ·omega
   ·exact h.srt j _ _ hy hx
  refine ⟨x.Strokes[i].Actuator,.inr ⟨i,_,rfl,hx,rfl⟩,?_⟩;rw [Ji];dsimp only;rw [Ak,dt_ hi,ct_,Aj,hx,ob_];unfold OT;rw [ob_,dt_ (show x.Strokes[i].Actuator>=0 from ha.1),dt_ ha.2,JK,JO,cf_,show (x.Strokes[i].Actuator == v)=false by rw [beq_eq_false_iff_ne];omega,cf_,df_ om_,cf_,Am om_]) (λn v _=>by
  rw [Ji];dsimp only;rw [Ak,df_ om_,cf_]) FF 0 (-1) om_ uF (.inl ⟨rfl,rfl⟩)
 try dsimp only at hh
 rw [n0] at hh;rw [hh,ob_];dsimp only;rw [df_ (by have:=h.w;omega),df_ (by have:=h.w;omega)];rfl
structure Endz (s:Ah) (z:Ar6) (k:Nat):Prop where
 l:z.l.length=6
 p:∀ a,a < A s->z.at_ a=(dat s).pos k a
 o:∀ a,A s<=a->z.at_ a=false
theorem Rs {a:Int} (h0:0<=a) (h:a < 6):idx (List.range 6) a=some a.toNat:=by
 rw [show a=((a.toNat:Nat):Int) by omega,Aj,GM om_,HG]
theorem FD {z:Ar6} {j a:Nat} {v:Bool} (hj:j < z.l.length):(z.put j v).at_ a=if a=j then v else z.at_ a:=by
 unfold Ar6.put Ar6.at_;dsimp only;rw [F7,List.getElem?_set];by_cases h:j=a
 ·subst h;rw [if_pos rfl,if_pos rfl,if_pos hj];rfl
 ·rw [if_neg h,if_neg (λe=>h e.symm),F7]
theorem enf_s {x:Step} {i:Nat} (hi:i < x.Strokes.length) (h:Stk x) (v:Bool) (a:Nat):enf x (i + 1) v a=if a=x.Strokes[i].Actuator.toNat then x.Strokes[i].Out else enf x i v a:=by
 unfold enf;rw [J0,gE_ hi,List.find?_append];by_cases ha:a=x.Strokes[i].Actuator.toNat
 ·rw [if_pos ha];have hn:(x.Strokes.take i).find? (λy=>y.Actuator.toNat == a)=none:=by
   rw [KV];intro y hy he;obtain ⟨j,hj⟩:=HR hy;rw [LC] at hj;split at hj
   ·rename_i hji;have h1:=h.asc hji hj (gE_ hi);have h2:=h.ac y (GX hj);have h3:=h.ac _ (GN hi);have:y.Actuator.toNat=a:=by simpa using he
    omega
   ·cases hj
  rw [hn];simp [ha]
 ·rw [if_neg ha];have:([x.Strokes[i]].find? λy=>y.Actuator.toNat == a)=none:=by
   rw [KV];intro y hy;obtain rfl:=HF.1 hy;simpa using λe:x.Strokes[i].Actuator.toNat=a=>ha e.symm
  show (match ((x.Strokes.take i).find? λy=>y.Actuator.toNat == a).or ([x.Strokes[i]].find? λy=>y.Actuator.toNat == a) with | some y=>y.Out | none=>v)=_
  rw [this,Option.or_none] <;> rfl
theorem BR {x:Step} {z:Ar6} (h:Stk x) (hz:z.l.length=6):∃ r,OW FF z x=some r/\r.l.length=6/\∀ a,r.at_ a=enf x x.Strokes.length (z.at_ a) a:=by
 have h6:=h.le;unfold OW;obtain ⟨v,hv,hh⟩:=Rx (L:=Jr x) (mk:=λi (v:Ar6)=>((i:Int),v)) (N:=x.Strokes.length) (I:=λi v=>v.l.length=6/\∀ a,v.at_ a=enf x i (z.at_ a) a) (λn i v hi hI=>by
  have hx:=gE_ hi;have ha:=h.ac _ (GN hi);refine ⟨v.put x.Strokes[i].Actuator.toNat x.Strokes[i].Out,⟨by unfold Ar6.put;rw [HY];exact hI.1,λa=>?_⟩,?_⟩
  ·rw [FD (by rw [hI.1];omega),enf_s hi h,hI.2 a]
  ·rw [Jr];dsimp only;rw [Ak,dt_ hi,ct_,Aj,hx,ob_,Rs ha.1 ha.2,ob_,Am om_]) (λn v _=>by
  rw [Jr];dsimp only;rw [Ak,df_ om_,cf_]) FF 0 z om_ uF ⟨hz,λa=>rfl⟩
 try dsimp only at hh
 rw [n0] at hh;rw [hh];exact ⟨v,rfl,hv.1,hv.2⟩
theorem Endz.next (h:Sq4 s) {k:Nat} (hk:k < n s) {z:Ar6} (hz:Endz s z k):∃ r,OW FF z (stp s k)=some r/\Endz s r (k + 1):=by
 obtain ⟨r,h1,h2,h3⟩:=BR (h.st k hk) hz.l;refine ⟨r,h1,h2,λa ha=>?_,λa ha=>?_⟩
 ·rw [h3,hz.p a ha];exact CV (h.st k hk)
 ·rw [h3,hz.o a ha];unfold enf;split
  ·rename_i y hy;exfalso;have h4:=KZ hy;have h5:=List.find?_some hy;have h6:=h.q.ac k hk y (J3 h4);have h7:=h.Ac;have:y.Actuator.toNat=a:=by simpa using h5
   omega
  ·rfl
theorem Endz.ini:Endz s Ar6.z 0:=⟨rfl,λa _=>by
  unfold Ar6.at_ Ar6.z; rw [F7,HZ]; split <;> rfl,λa _=>by
  unfold Ar6.at_ Ar6.z; rw [F7,HZ]; split <;> rfl⟩
theorem BS (h:Sq4 s) {k:Nat} (hk:k < n s) {z:Ar6} (hz:Endz s z k):OV FF s (stp s k) z=some 0:=by
 have hS:=h.st k hk;have h6:=hS.le;have hac:=h.Ac;have e1:=Cq (L:=Jt s (stp s k)) (N:=(stp s k).Strokes.length) (Q:=λ_=>false) (r:=λ_=>6) (λm i hi=>by
  have ha:=h.q.ac k hk _ (GN hi);rw [Jt,Ak,dt_ hi,ct_,Aj,gE_ hi,ob_,df_ om_,cf_,Am om_];rfl) (λm=>by
  rw [Jt,Ak,df_ om_,cf_]) FF 0 om_ uF
 have e2:=Cq (L:=Js (stp s k) z) (N:=(stp s k).Strokes.length) (Q:=λ_=>false) (r:=λ_=>14) (λm i hi=>by
  have ha:=h.q.ac k hk _ (GN hi);have ha6:=hS.ac _ (GN hi);have hft:=h.q.fits k hk (stp s k).Strokes[i].Actuator.toNat (stp s k).Strokes[i].Out (GQ.2 ⟨_,GN hi,rfl⟩);rw [Js,Ak,dt_ hi,ct_,Aj,gE_ hi,ob_,Rs ha.1 ha6.2,ob_,hz.p _ om_,hft];rw [show ((!(stp s k).Strokes[i].Out) == (stp s k).Strokes[i].Out)=false by cases (stp s k).Strokes[i].Out <;> rfl,cf_,Am om_]; rfl) (λm=>by
  rw [Js,Ak,df_ om_,cf_]) FF 0 om_ uF
 rw [n0] at e1 e2;unfold OV;rw [BC hS,ob_,zf_,cf_];rcases e1 with ⟨_,_,_,hq,_⟩ | ⟨e1,_⟩
 ·cases hq
 rw [e1,ob_];dsimp only;rcases e2 with ⟨_,_,_,hq,_⟩ | ⟨e2,_⟩
 ·cases hq
 rw [e2];rfl
def mvd (s:Ah) (k a:Nat):Bool:=(List.range k).any λi=>(S s i).any λx=>x.1 == a
theorem Vj {x:Step} {z:Ar6} (h:Stk x) (hz:z.l.length=6):∃ r,Me x FF ((0:Int),z)=some ((x.Strokes.length:Int),r)/\r.l.length=6/\∀ a,r.at_ a=(z.at_ a || x.Strokes.any λy=>y.Actuator.toNat == a):=by
 have h6:=h.le;obtain ⟨v,hv,hh⟩:=Rx (L:=Me x) (mk:=λi (v:Ar6)=>((i:Int),v)) (N:=x.Strokes.length) (I:=λi v=>v.l.length=6/\∀ a,v.at_ a=(z.at_ a || (x.Strokes.take i).any λy=>y.Actuator.toNat == a)) (λn i v hi hI=>by
  have hx:=gE_ hi;have ha:=h.ac _ (GN hi);refine ⟨v.put x.Strokes[i].Actuator.toNat true,⟨by unfold Ar6.put;rw [HY];exact hI.1,λa=>?_⟩,?_⟩
  ·rw [FD (by rw [hI.1];omega),hI.2 a,J0,hx];simp only [Option.toList_some,KN,K0,List.any_nil,JF];by_cases e:a=x.Strokes[i].Actuator.toNat
   ·rw [if_pos e,← e];simp
   ·rw [if_neg e,show (x.Strokes[i].Actuator.toNat == a)=false by simpa using λh=>e h.symm,JF]
  ·rw [Me];dsimp only;rw [Ak,dt_ hi,ct_,Aj,hx,ob_,Rs ha.1 ha.2,ob_,Am om_]) (λn v _=>by
  rw [Me];dsimp only;rw [Ak,df_ om_,cf_]) FF 0 z om_ uF ⟨hz,λa=>by simp⟩
 try dsimp only at hh
 rw [n0] at hh;refine ⟨v,hh,hv.1,λa=>?_⟩;rw [hv.2 a,List.take_length]
theorem Qk (h:Sq4 s):m90 FF s=some 0:=by
 have hn:=h.n;have h0:=h.q.n0;have hA6:=h.A6;have hac:=h.Ac;have a0:=h.q.a0;have hns:s.Steps.length=n s:=rfl;unfold m90;rw [df_ om_,df_ om_,JF,cf_,show ((s.Steps.length:Int) == 0)=false by rw [beq_eq_false_iff_ne];omega,cf_,df_ om_,cf_];obtain ⟨v,hv,hh⟩:=forG (L:=Og FF s) (mk:=λi (v:Ar6×Ar6)=>((i:Int),v.1,v.2)) (N:=n s) (E:=λv=>some (.brk ((n s:Int),v.1,v.2))) (I:=λi v=>Endz s v.1 i/\v.2.l.length=6/\∀ a,v.2.at_ a=mvd s i a) (λm i v hi hI=>by
  obtain ⟨r,h1,h2⟩:=hI.1.next h hi;obtain ⟨r',h3,h4,h5⟩:=Vj (h.st i hi) hI.2.1;refine ⟨(r,r'),⟨h2,h4,λa=>?_⟩,?_⟩
  ·dsimp only;rw [h5,hI.2.2 a];unfold mvd;rw [G5,KN];simp only [K0,List.any_nil,JF];congr 1;unfold S;rw [List.any_map];rfl
  ·rw [Og];dsimp only;rw [show decide ((i:Int) < (s.Steps.length:Int))=true from dt_ om_,ct_,Aj,Bj hi,ob_,BS h hi hI.1,ob_,zf_,cf_,h1,ob_,h3,ob_,Am om_]) (λm v _=>by
  rw [Og];dsimp only;rw [show decide (((n s:Nat):Int) < (s.Steps.length:Int))=false from df_ om_,cf_]) FF 0 (Ar6.z,Ar6.z) om_ uF ⟨Endz.ini,rfl,λa=>by
  unfold mvd Ar6.at_ Ar6.z; rw [F7,HZ]; split <;> rfl⟩
 try dsimp only at hh
 rw [n0] at hh;rw [hh,ob_];dsimp only;obtain ⟨v1,v2⟩:=v;dsimp only at hv ⊢;have heq:eqqA v1 Ar6.z=true:=by
  unfold eqqA;rw [GG];intro a ha;have h1:v1.at_ a=false:=by
   by_cases h2:a < A s
   ·rw [hv.1.p a h2];exact h.q.back a
   ·exact hv.1.o a om_
  rw [h1];unfold Ar6.at_ Ar6.z;rw [F7,HZ]; split <;> rfl
 rw [heq,JO,cf_];unfold lsl;rw [if_pos ⟨by omega,by omega,by rw [hv.2.1];omega⟩,ob_,BQ so_ (λb hb=>?_),ob_]
 ·rfl
 ·obtain ⟨a,hb⟩:=HR hb;rw [LC] at hb;split at hb
  ·rename_i ha;simp only [Int.toNat_zero,HT] at hb;have haA:a < A s:=by omega
   have h2:=hv.2.2 a;unfold Ar6.at_ at h2;rw [F7,hb] at h2;have h2:b=mvd s (n s) a:=h2;rw [h2];obtain ⟨k,o,hk,hko⟩:=h.q.mv a haA;unfold mvd;rw [GK];refine ⟨k,GE.2 hk,?_⟩;rw [GK];exact ⟨_,hko,by simp⟩
  ·cases hb
end Go.Pn

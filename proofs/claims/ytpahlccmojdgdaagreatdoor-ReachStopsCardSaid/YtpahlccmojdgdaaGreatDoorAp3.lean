import Derived.Test.YtpahlccmojdgdaaGreatDoorAp2
set_option linter.unusedVariables false
set_option linter.unusedSimpArgs false
namespace Go.Pn
open Go Go.RowKit Go.Proofs
def m143 (f:Nat) (v0:Int):Option (Expr):=some (⟨(1:Int),v0,([]:List Expr)⟩:Expr)
set_option maxRecDepth 100000 in
theorem s143 (f:Nat) (v0:Int) (r:Expr) (hm:m143 f v0=some r):Sp Tryz.prog 143 [Va (v0)] (Va (r)):=by
 unfold m143 at hm
 refine ens Tryz.func143 (by kernel_rfl) rfl Tryz.ntmps143 rfl rfl fun M w_0 a hM hD s=>?_
 refine se (rg (sqr 1000 s (alr (cs:=[(.int .i64 (0:Int)),(.int .i64 (0:Int)),(.slice none 0 0)]) (z:=.agg #[(.int .i64 (0:Int)),(.int .i64 (0:Int)),(.slice none 0 0)]) (by kernel_rfl) rfl rfl) rfl rfl fun b1 a w s=>nl ?_))
 refine se (rg (sq s (mv (t rfl)) rfl fun a w s=>sq s (bl129_0_1 ci (t rfl)) rfl fun a w s=>swd (K:=1000) s (t rfl) rfl (t rfl) rfl fun w s=>nl ?_))
 obtain rfl:=si hm
 refine wpIn_ret ?_
 exact rn hD s rfl (rv1 (rc (K:=1000) rfl rfl))
def m79 (f:Nat) :Option (Control):=(m143 f (2:Int)).bind fun x2=>(m143 f (0:Int)).bind fun x3=>(m143 f (1:Int)).bind fun x4=>(m143 f (3:Int)).bind fun x5=>some (⟨(1:Int),([(⟨#[115,116,97,114,116]⟩:ByteArray)]:List ByteArray),([(⟨(⟨#[109]⟩:ByteArray),(1:Int),(⟨(3:Int),(0:Int),([x2,x3]:List Expr)⟩:Expr),x4,(0:Int),false⟩:Signal),(⟨(⟨#[103]⟩:ByteArray),(0:Int),(⟨(2:Int),(0:Int),([x5]:List Expr)⟩:Expr),(⟨(0:Int),(0:Int),([]:List Expr)⟩:Expr),(0:Int),false⟩:Signal)]:List Signal),([(3:Int)]:List Int),([(4:Int)]:List Int)⟩:Control)
set_option maxRecDepth 100000 in
theorem s79 (f:Nat) (r:Control) (hm:m79 f =some r):Sp Tryz.prog 79 [] (Va (r)):=by
 unfold m79 at hm
 refine ens Tryz.func79 (by kernel_rfl) rfl Tryz.ntmps79 rfl rfl fun M w_0 a hM hD s=>?_
 refine se (rg (sqr 1000 s (alr (cs:=[(.int .i64 (0:Int)),(.slice none 0 0),(.slice none 0 0),(.slice none 0 0),(.slice none 0 0)]) (z:=.agg #[(.int .i64 (0:Int)),(.slice none 0 0),(.slice none 0 0),(.slice none 0 0),(.slice none 0 0)]) (by kernel_rfl) rfl rfl) rfl rfl fun b1 a w s=>nl ?_))
 obtain ⟨x2,hx2,hm⟩:=bs hm
 obtain ⟨x3,hx3,hm⟩:=bs hm
 obtain ⟨x4,hx4,hm⟩:=bs hm
 obtain ⟨x5,hx5,hm⟩:=bs hm
 refine se (rg (sq s (bsv (o1 cs o0) rfl rfl (by kernel_rfl)) rfl fun a w s=>sq s (cc rfl (oc ci on) (s143 f _ _ hx2)) rfl fun a w s=>sq s (cc rfl (oc ci on) (s143 f _ _ hx3)) rfl fun a w s=>sq s (bsv (o1 (t rfl) (o1 (t rfl) o0)) rfl rfl (by kernel_rfl)) rfl fun a w s=>sq s (bl129_0_2 ci (t rfl)) rfl fun a w s=>sq s (cc rfl (oc ci on) (s143 f _ _ hx4)) rfl fun a w s=>sq s (bl131_0_1_2_3 cs ci (t rfl) (t rfl)) rfl fun a w s=>sq s (cc rfl (oc ci on) (s143 f _ _ hx5)) rfl fun a w s=>sq s (bsv (o1 (t rfl) o0) rfl rfl (by kernel_rfl)) rfl fun a w s=>sq s (bl129_0_2 ci (t rfl)) rfl fun a w s=>sq s (bl131_0_1_2 cs ci (t rfl)) rfl fun a w s=>sq s (bsv (o1 (t rfl) (o1 (t rfl) o0)) rfl rfl (by kernel_rfl)) rfl fun a w s=>sq s (bsv (o1 ci o0) rfl rfl (by kernel_rfl)) rfl fun a w s=>sq s (bsv (o1 ci o0) rfl rfl (by kernel_rfl)) rfl fun a w s=>sq s (bl26_0_1_2_3_4 ci (t rfl) (t rfl) (t rfl) (t rfl)) rfl fun a w s=>swd (K:=1000) s (t rfl) rfl (t rfl) rfl fun w s=>nl ?_))
 obtain rfl:=si hm
 refine wpIn_ret ?_
 exact rn hD s rfl (rv1 (rc (K:=1000) rfl rfl))
def m209_l1 (v0:ByteArray) (v1:ByteArray):Nat→(Int×Int×(List ByteArray))→Option (Int×Int×(List ByteArray))
 | 0,_=>none
 | n+1,z1=>(bif (decide ((wr (z1.2.1 + (v1.size:Int)))≤(v0.size:Int))) then (bif (decide (z1.2.1≥z1.1)) then (ssl v0 z1.2.1 (wr (z1.2.1 + (v1.size:Int)))).bind fun x4=>some (x4.toList == v1.toList) else some false).bind fun r5=>(bif r5 then (ssl v0 z1.1 z1.2.1).bind fun x7=>(app z1.2.2 ([x7]:List ByteArray)).bind fun x8=>some ((wr (z1.2.1 + (v1.size:Int))),x8) else some (z1.1,z1.2.2)).bind fun z6=>m209_l1 v0 v1 n (z6.1,(wr (z1.2.1 + (1:Int))),z6.2) else some (z1.1,z1.2.1,z1.2.2))
def m209 (f:Nat) (v0:ByteArray) (v1:ByteArray):Option ((List ByteArray)):=(m209_l1 v0 v1 f ((0:Int),(0:Int),([]:List ByteArray))).bind fun o2s=>(ssl v0 o2s.1 v0.size).bind fun x10=>(app o2s.2.2 ([x10]:List ByteArray)).bind fun x11=>some x11
set_option maxRecDepth 100000 in
theorem s209 (f:Nat) (v0:ByteArray) (v1:ByteArray) (r:(List ByteArray)) (hm:m209 f v0 v1=some r):Sp Tryz.prog 209 [Va (v0),Va (v1)] (Va (r)):=by
 unfold m209 at hm
 refine ens Tryz.func209 (by kernel_rfl) rfl Tryz.ntmps209 rfl rfl fun M w_0 a hM hD s=>?_
 refine se (rg (sq s (saq cq) rfl fun a w s=>nl ?_))
 refine se (rg (sq s (saq cq) rfl fun a w s=>nl ?_))
 refine se (rg (sq s (sa ci) rfl fun a w s=>nl ?_))
 refine se ?_
 refine se (rg (sq s (sa ci) rfl fun a w s=>nl ?_))
 refine nilt (α:=ByteArray) (d:=5) 1000 9 s rfl rfl fun c3 s=>?_
 obtain ⟨o2s,hoo2,hko2⟩:=bs hm
 refine cpI (fun a w=>∃ (o2sc0:Value),St M w_0 48 [(0,Va (v0)),(1,Va (v1)),(4,Qv (.slice none 0 0)),(5,Qv o2sc0),(6,Va (o2s.1)),(7,Va (o2s.2.1)),(1000,Ow 9 o2sc0 (o2s.2.2))] a w) ?_ fun a w s=>?_
 ·refine wpIn_block ?_
  refine loI (fun n z1=>m209_l1 v0 v1 n z1) o2s (fun z1 a w=>∃ (z1c0:Value),St M w_0 48 [(0,Va (v0)),(1,Va (v1)),(4,Qv (.slice none 0 0)),(5,Qv z1c0),(6,Va (z1.1)),(7,Va (z1.2.1)),(1000,Ow 9 z1c0 (z1.2.2))] a w) f ((0:Int),(0:Int),([]:List ByteArray)) ⟨c3,s.pick [0,1,4,5,6,7,1000]⟩ hoo2 (fun _=>rfl) fun n z1 a w hm s=>?_
  obtain ⟨z1c0,s⟩:=s
  replace hm:m209_l1 v0 v1 (n + 1) z1=some o2s:=hm
  unfold m209_l1 at hm
  refine se ?_
  refine se (rg (sq s (mv (t rfl)) rfl fun a w s=>sq s (mv (t rfl)) rfl fun a w s=>sq s (lns (t rfl) Tryz.underlying9) rfl fun a w s=>sq s (ad (t rfl) (t rfl)) rfl fun a w s=>sq s (mv (t rfl)) rfl fun a w s=>sq s (lns (t rfl) Tryz.underlying9) rfl fun a w s=>sq s (le (t rfl) (t rfl)) rfl fun a w s=>nl ?_))
  refine cm s rfl hm (fun hb hm=>?_) (fun hb hm=>?_)
  ·refine wpIn_skip ?_
   refine se ?_
   refine wpIn_block ?_
   obtain ⟨r5,hr5,hm⟩:=bs hm
   have gr5:=gT hr5
   have er5:=gF hr5
   obtain ⟨x4,hx4,gr5⟩:=gx gr5
   refine se (rg (sq s (mv (t rfl)) rfl fun a w s=>sq s (mv (t rfl)) rfl fun a w s=>sq s (ge (t rfl) (t rfl)) rfl fun a w s=>sq s (mv (t rfl)) rfl fun a w s=>sg s rfl rfl (fun hb=>(mv (t rfl))) rfl fun a w s=>sg s rfl rfl (fun hb=>(mv (t rfl))) rfl fun a w s=>sg s rfl rfl (fun hb=>(mv (t rfl))) rfl fun a w s=>sg s rfl rfl (fun hb=>(mv (t rfl))) rfl fun a w s=>sg s rfl rfl (fun hb=>(lns (tg rfl hb) Tryz.underlying9)) rfl fun a w s=>sg s rfl rfl (fun hb=>(ad (tg rfl hb) (tg rfl hb))) rfl fun a w s=>sg s rfl rfl (fun hb=>(sl2 (tg rfl hb) (tg rfl hb) (tg rfl hb) Tryz.underlying9 (hx4 hb))) rfl fun a w s=>sg s rfl rfl (fun hb=>(mv (t rfl))) rfl fun a w s=>sg s rfl rfl (fun hb=>(seq (tg rfl hb) (tg rfl hb))) rfl fun a w s=>sq s (pa (t rfl) rfl (fun h=>si (gr5 h)) (fun h=>(si (er5 h)).symm)) rfl fun a w s=>nl ?_))
   obtain ⟨z6,hz6,hkz6⟩:=bs hm
   refine cpI (fun a w=>∃ (z6c0:Value),St M w_0 48 [(0,Va (v0)),(1,Va (v1)),(4,Qv (.slice none 0 0)),(5,Qv z6c0),(6,Va (z6.1)),(7,Va (z1.2.1)),(1000,Ow 9 z6c0 (z6.2))] a w) ?_ fun a w s=>?_
   ·refine cm s rfl hz6 (fun hb hm=>?_) (fun hb hm=>?_)
    ·obtain ⟨x7,hx7,hm⟩:=bs hm
     obtain ⟨x8,hx8,hm⟩:=bs hm
     refine se (rg (sq s (mvq (t rfl)) rfl fun a w s=>sq s (mv (t rfl)) rfl fun a w s=>sq s (mv (t rfl)) rfl fun a w s=>sq s (mv (t rfl)) rfl fun a w s=>sq s (sl2 (t rfl) (t rfl) (t rfl) Tryz.underlying9 hx7) rfl fun a w s=>sq s (bsv (o1 (t rfl) o0) rfl rfl (by kernel_rfl)) rfl fun a w s=>apd (α:=ByteArray) (k:=1000) s (t rfl) rfl (t rfl) hx8 rfl rfl fun c9 a w s=>sq s (saq (t rfl)) rfl fun a w s=>nl ?_))
     refine rg (sq s (mv (t rfl)) rfl fun a w s=>sq s (mv (t rfl)) rfl fun a w s=>sq s (lns (t rfl) Tryz.underlying9) rfl fun a w s=>sq s (ad (t rfl) (t rfl)) rfl fun a w s=>sq s (sa (t rfl)) rfl fun a w s=>nl ?_)
     obtain rfl:=si hm
     exact ⟨c9,s.pick [0,1,4,5,6,7,1000]⟩
    ·refine wpIn_skip ?_
     obtain rfl:=si hm
     exact ⟨z1c0,s.pick [0,1,4,5,6,7,1000]⟩
   ·obtain ⟨z6c0,s⟩:=s
    replace hm:=hkz6
    refine rg (sq s (mv (t rfl)) rfl fun a w s=>sq s (ad (t rfl) ci) rfl fun a w s=>sq s (sa (t rfl)) rfl fun a w s=>nl ?_)
    exact ⟨_,hm,⟨z6c0,s.pick [0,1,4,5,6,7,1000]⟩⟩
  ·refine wpIn_exit ?_
   obtain rfl:=si hm
   exact ⟨z1c0,s.pick [0,1,4,5,6,7,1000]⟩
 ·obtain ⟨o2sc0,s⟩:=s
  replace hm:=hko2
  obtain ⟨x10,hx10,hm⟩:=bs hm
  obtain ⟨x11,hx11,hm⟩:=bs hm
  refine se (rg (sq s (mvq (t rfl)) rfl fun a w s=>sq s (mv (t rfl)) rfl fun a w s=>sq s (mv (t rfl)) rfl fun a w s=>sq s (sl1 (t rfl) (t rfl) Tryz.underlying9 hx10) rfl fun a w s=>sq s (bsv (o1 (t rfl) o0) rfl rfl (by kernel_rfl)) rfl fun a w s=>apd (α:=ByteArray) (k:=1000) s (t rfl) rfl (t rfl) hx11 rfl rfl fun c12 a w s=>sq s (saq (t rfl)) rfl fun a w s=>nl ?_))
  obtain rfl:=si hm
  refine fzk (α:=ByteArray) (k:=1000) hM s rfl fun s=>?_
  refine wpIn_ret ?_
  exact rn hD s rfl (rv1 (ro (ta (k:=1000) (t rfl) rfl)))
def m256_l1 (v0:ByteArray):Nat→(Int×Int)→Option (Lo (Int×Int) (Int×Bool))
 | 0,_=>none
 | n+1,z4=>(bif (decide (z4.2 < (v0.size:Int))) then (sidx v0 z4.2).bind fun x6=>(bif (decide ((x6.toNat:Int) < (UInt8.ofNat 48).toNat)) then some true else (sidx v0 z4.2).bind fun x7=>some (decide ((x7.toNat:Int) > (UInt8.ofNat 57).toNat))).bind fun r8=>(bif r8 then some (.ret ((0:Int),false)) else (sidx v0 z4.2).bind fun x9=>m256_l1 v0 n ((wr ((wr ((10:Int) * z4.1)) + (Ik.ofI (Ik.toI (Ik.ofI (Ik.toI x9 - Ik.toI (UInt8.ofNat 48)):UInt8)):Int))),(wr (z4.2 + (1:Int))))) else some (.brk (z4.1,z4.2)))
def m256 (f:Nat) (v0:ByteArray):Option (Int×Bool):=(bif ((v0.toList == (⟨#[]⟩:ByteArray).toList) || (decide ((v0.size:Int) > (7:Int)))) then some true else (bif (decide ((v0.size:Int) > (1:Int))) then (sidx v0 (0:Int)).bind fun x1=>some ((x1.toNat:Int) == (UInt8.ofNat 48).toNat) else some false).bind fun r2=>some r2).bind fun r3=>(bif r3 then some ((0:Int),false) else ((m256_l1 v0 f ((0:Int),(0:Int))).bind fun o5=>match o5 with | .brk o5s=>some (o5s.1,true) | .ret r=>some r))
set_option maxRecDepth 100000 in
theorem s256 (f:Nat) (v0:ByteArray) (r:Int×Bool) (hm:m256 f v0=some r):Sp Tryz.prog 256 [Va (v0)] (T2 (Va (r.1)) (Va (r.2))):=by
 unfold m256 at hm
 refine ens Tryz.func256 (by kernel_rfl) rfl Tryz.ntmps256 rfl rfl fun M w_0 a hM hD s=>?_
 refine se (rg (sq s (sa ci) rfl fun a w s=>sq s (sa cb) rfl fun a w s=>nl ?_))
 refine se ?_
 obtain ⟨r3,hr3,hm⟩:=bs hm
 have gr3:=gF hr3
 have er3:=gT hr3
 obtain ⟨r2,hr2,gr3⟩:=gx gr3
 have gr2:=gT2 hr2
 have er2:=gF1 hr2
 obtain ⟨x1,hx1,gr2⟩:=gx gr2
 refine se (rg (sq s (mv (t rfl)) rfl fun a w s=>sq s (seq (t rfl) cs) rfl fun a w s=>sq s (mv (t rfl)) rfl fun a w s=>sg s rfl rfl (fun hb=>(mv (t rfl))) rfl fun a w s=>sg s rfl rfl (fun hb=>(lns (tg rfl hb) Tryz.underlying9)) rfl fun a w s=>sg s rfl rfl (fun hb=>(gt (tg rfl hb) ci)) rfl fun a w s=>sq s (poP (t rfl) rfl) rfl fun a w s=>sq s (mv (t rfl)) rfl fun a w s=>sg s rfl rfl (fun hb=>(mv (t rfl))) rfl fun a w s=>sg s rfl rfl (fun hb=>(lns (tg rfl hb) Tryz.underlying9)) rfl fun a w s=>sg s rfl rfl (fun hb=>(gt (tg rfl hb) ci)) rfl fun a w s=>sg s rfl rfl (fun hb=>(mv (tg rfl hb))) rfl fun a w s=>sn s rfl rfl (fun hb hc=>(mv (t rfl))) rfl fun a w s=>sn s rfl rfl (fun hb hc=>(sx (tg rfl (g2 hb hc)) ci Tryz.underlying9 (hx1 (g2 hb hc)))) rfl fun a w s=>sn s rfl rfl (fun hb hc=>(eq8 (tg rfl (g2 hb hc)) (c8 (by decide)))) rfl fun a w s=>sg s rfl rfl (fun hb=>(pag (tg rfl hb) rfl (fun h=>g2 hb h) (fun h=>si (gr2 (g2 hb h))) (fun h=>(si (er2 hb h)).symm))) rfl fun a w s=>sq s (po (t rfl) rfl (fun h=>si (gr3 h)) (fun h=>(si (er3 h)).symm)) rfl fun a w s=>nl ?_))
 refine cm s rfl hm (fun hb hm=>?_) (fun hb hm=>?_)
 ·refine se (rg (sq s (sa ci) rfl fun a w s=>sq s (sa cb) rfl fun a w s=>nl ?_))
  obtain rfl:=si hm
  refine wpIn_ret ?_
  exact rn hD s rfl (rv2 (rt rfl) (rt rfl))
 ·refine wpIn_skip ?_
  refine se (rg (sq s (sa ci) rfl fun a w s=>nl ?_))
  refine se ?_
  refine se (rg (sq s (sa ci) rfl fun a w s=>nl ?_))
  obtain ⟨o5,hoo5,hko5⟩:=bs hm
  refine lcI o5 (fun o5s a w=>St M w_0 48 [(0,Va (v0)),(2,Va ((0:Int))),(3,Va (false)),(4,Va (o5s.1)),(5,Va (o5s.2))] a w) ?_ fun o5s a w ho s=>?_
  ·refine wpIn_block ?_
   refine loI (fun n z4=>m256_l1 v0 n z4) o5 (fun z4 a w=>St M w_0 48 [(0,Va (v0)),(2,Va ((0:Int))),(3,Va (false)),(4,Va (z4.1)),(5,Va (z4.2))] a w) f ((0:Int),(0:Int)) (s.pick [0,2,3,4,5]) hoo5 (fun _=>rfl) fun n z4 a w hm s=>?_
   replace hm:m256_l1 v0 (n + 1) z4=some o5:=hm
   unfold m256_l1 at hm
   refine se ?_
   refine se (rg (sq s (mv (t rfl)) rfl fun a w s=>sq s (mv (t rfl)) rfl fun a w s=>sq s (lns (t rfl) Tryz.underlying9) rfl fun a w s=>sq s (lt (t rfl) (t rfl)) rfl fun a w s=>nl ?_))
   refine cm s rfl hm (fun hb hm=>?_) (fun hb hm=>?_)
   ·refine wpIn_skip ?_
    refine se ?_
    refine wpIn_block ?_
    refine se ?_
    obtain ⟨x6,hx6,hm⟩:=bs hm
    obtain ⟨r8,hr8,hm⟩:=bs hm
    have gr8:=gF hr8
    have er8:=gT hr8
    obtain ⟨x7,hx7,gr8⟩:=gx gr8
    refine se (rg (sq s (mv (t rfl)) rfl fun a w s=>sq s (mv (t rfl)) rfl fun a w s=>sq s (sx (t rfl) (t rfl) Tryz.underlying9 hx6) rfl fun a w s=>sq s (lt8 (t rfl) (c8 (by decide))) rfl fun a w s=>sq s (mv (t rfl)) rfl fun a w s=>sg s rfl rfl (fun hb=>(mv (t rfl))) rfl fun a w s=>sg s rfl rfl (fun hb=>(mv (t rfl))) rfl fun a w s=>sg s rfl rfl (fun hb=>(sx (tg rfl hb) (tg rfl hb) Tryz.underlying9 (hx7 hb))) rfl fun a w s=>sg s rfl rfl (fun hb=>(gt8 (tg rfl hb) (c8 (by decide)))) rfl fun a w s=>sq s (po (t rfl) rfl (fun h=>si (gr8 h)) (fun h=>(si (er8 h)).symm)) rfl fun a w s=>nl ?_))
    refine cm s rfl hm (fun hb hm=>?_) (fun hb hm=>?_)
    ·refine se (rg (sq s (sa ci) rfl fun a w s=>sq s (sa cb) rfl fun a w s=>nl ?_))
     obtain rfl:=si hm
     replace hm:=hko5
     dsimp only at hm
     obtain rfl:=si hm
     refine wpIn_ret ?_
     exact rn hD s rfl (rv2 (rt rfl) (rt rfl))
    ·refine wpIn_skip ?_
     obtain ⟨x9,hx9,hm⟩:=bs hm
     refine rg (sq s (mv (t rfl)) rfl fun a w s=>sq s (ml ci (t rfl)) rfl fun a w s=>sq s (mv (t rfl)) rfl fun a w s=>sq s (mv (t rfl)) rfl fun a w s=>sq s (sx (t rfl) (t rfl) Tryz.underlying9 hx9) rfl fun a w s=>sq s (sbk (t rfl) (c8 (by decide))) rfl fun a w s=>sq s (cvk (t rfl) (by kernel_rfl) (by kernel_rfl)) rfl fun a w s=>sq s (ad (t rfl) (t rfl)) rfl fun a w s=>sq s (sa (t rfl)) rfl fun a w s=>nl ?_)
     refine rg (sq s (mv (t rfl)) rfl fun a w s=>sq s (ad (t rfl) ci) rfl fun a w s=>sq s (sa (t rfl)) rfl fun a w s=>nl ?_)
     exact ⟨_,hm,s.pick [0,2,3,4,5]⟩
   ·refine wpIn_exit ?_
    exact ⟨_,(si hm).symm,s.pick [0,2,3,4,5]⟩
  ·subst ho
   replace hm:=hko5
   dsimp only at hm
   refine se (rg (sq s (mv (t rfl)) rfl fun a w s=>sq s (sa (t rfl)) rfl fun a w s=>sq s (sa cb) rfl fun a w s=>nl ?_))
   obtain rfl:=si hm
   refine wpIn_ret ?_
   exact rn hD s rfl (rv2 (rt rfl) (rt rfl))
def m243 (f:Nat) (v0:Int):Option (Bool):=some ((decide (v0≥(0:Int))) && (decide (v0 < (6:Int))))
set_option maxRecDepth 100000 in
theorem s243 (f:Nat) (v0:Int) (r:Bool) (hm:m243 f v0=some r):Sp Tryz.prog 243 [Va (v0)] (Va (r)):=by
 unfold m243 at hm
 refine ens Tryz.func243 (by kernel_rfl) rfl Tryz.ntmps243 rfl rfl fun M w_0 a hM hD s=>?_
 refine se (rg (sq s (sa cb) rfl fun a w s=>nl ?_))
 refine se (rg (sq s (mv (t rfl)) rfl fun a w s=>sq s (ge (t rfl) ci) rfl fun a w s=>sq s (mv (t rfl)) rfl fun a w s=>sg s rfl rfl (fun hb=>(mv (t rfl))) rfl fun a w s=>sg s rfl rfl (fun hb=>(lt (tg rfl hb) ci)) rfl fun a w s=>sq s (paP (t rfl) rfl) rfl fun a w s=>sq s (sa (t rfl)) rfl fun a w s=>nl ?_))
 obtain rfl:=si hm
 refine wpIn_ret ?_
 exact rn hD s rfl (rv1 (rt rfl))
def m244 (f:Nat) (v0:Int):Option (Bool):=some ((decide (v0≥(0:Int))) && (decide (v0≤(1000000:Int))))
set_option maxRecDepth 100000 in
theorem s244 (f:Nat) (v0:Int) (r:Bool) (hm:m244 f v0=some r):Sp Tryz.prog 244 [Va (v0)] (Va (r)):=by
 unfold m244 at hm
 refine ens Tryz.func244 (by kernel_rfl) rfl Tryz.ntmps244 rfl rfl fun M w_0 a hM hD s=>?_
 refine se (rg (sq s (sa cb) rfl fun a w s=>nl ?_))
 refine se (rg (sq s (mv (t rfl)) rfl fun a w s=>sq s (ge (t rfl) ci) rfl fun a w s=>sq s (mv (t rfl)) rfl fun a w s=>sg s rfl rfl (fun hb=>(mv (t rfl))) rfl fun a w s=>sg s rfl rfl (fun hb=>(le (tg rfl hb) ci)) rfl fun a w s=>sq s (paP (t rfl) rfl) rfl fun a w s=>sq s (sa (t rfl)) rfl fun a w s=>nl ?_))
 obtain rfl:=si hm
 refine wpIn_ret ?_
 exact rn hD s rfl (rv1 (rt rfl))
def m196_l1 (f:Nat) (v0:Step):Nat→Int→Option (Lo (Int) (Int))
 | 0,_=>none
 | n+1,z1=>(bif (decide (z1 < (((v0).Strokes).length:Int))) then (idx ((v0).Strokes) z1).bind fun x3=>(m243 f ((x3).Actuator)).bind fun x4=>(bif (!x4) then some (.ret (2:Int)) else (bif (decide (z1 > (0:Int))) then (idx ((v0).Strokes) z1).bind fun x5=>(idx ((v0).Strokes) (wr (z1 - (1:Int)))).bind fun x6=>some ((x5).Actuator == (x6).Actuator) else some false).bind fun r7=>(bif r7 then some (.ret (7:Int)) else (bif (decide (z1 > (0:Int))) then (idx ((v0).Strokes) z1).bind fun x8=>(idx ((v0).Strokes) (wr (z1 - (1:Int)))).bind fun x9=>some (decide ((x8).Actuator < (x9).Actuator)) else some false).bind fun r10=>(bif r10 then some (.ret (9:Int)) else m196_l1 f v0 n (wr (z1 + (1:Int)))))) else some (.brk z1))
def m196 (f:Nat) (v0:Step):Option (Int):=(bif ((((v0).Strokes).length:Int) == (0:Int)) then some (13:Int) else (bif (decide ((((v0).Strokes).length:Int) > (6:Int))) then some (5:Int) else ((m196_l1 f v0 f (0:Int)).bind fun o2=>match o2 with | .brk o2s=>(m244 f ((v0).Wait)).bind fun x11=>(bif (!x11) then some (2:Int) else some (0:Int)) | .ret r=>some r)))
set_option maxRecDepth 100000 in
theorem s196 (f:Nat) (v0:Step) (r:Int) (hm:m196 f v0=some r):Sp Tryz.prog 196 [Va (v0)] (Va (r)):=by
 unfold m196 at hm
 refine ens Tryz.func196 (by kernel_rfl) rfl Tryz.ntmps196 rfl rfl fun M w_0 a hM hD s=>?_
 refine se (rg (sq s (bx (t rfl)) rfl fun a w s=>sq s (sa ci) rfl fun a w s=>nl ?_))
 refine se ?_
 refine se (rg (sq s (fa (f:=Step.Strokes) (t rfl)) rfl fun a w s=>sq s (ld (t rfl)) rfl fun a w s=>sq s (ln (t rfl)) rfl fun a w s=>sq s (eq (t rfl) ci) rfl fun a w s=>nl ?_))
 refine cm s rfl hm (fun hb hm=>?_) (fun hb hm=>?_)
 ·refine se (rg (sq s (sa ci) rfl fun a w s=>nl ?_))
  obtain rfl:=si hm
  refine wpIn_ret ?_
  exact rn hD s rfl (rv1 (rt rfl))
 ·refine wpIn_skip ?_
  refine se ?_
  refine se (rg (sq s (fa (f:=Step.Strokes) (t rfl)) rfl fun a w s=>sq s (ld (t rfl)) rfl fun a w s=>sq s (ln (t rfl)) rfl fun a w s=>sq s (gt (t rfl) ci) rfl fun a w s=>nl ?_))
  refine cm s rfl hm (fun hb hm=>?_) (fun hb hm=>?_)
  ·refine se (rg (sq s (sa ci) rfl fun a w s=>nl ?_))
   obtain rfl:=si hm
   refine wpIn_ret ?_
   exact rn hD s rfl (rv1 (rt rfl))
  ·refine wpIn_skip ?_
   refine se ?_
   refine se (rg (sq s (sa ci) rfl fun a w s=>nl ?_))
   obtain ⟨o2,hoo2,hko2⟩:=bs hm
   refine lcI o2 (fun o2s a w=>St M w_0 67 [(0,Va (v0)),(1,Pt (v0)),(2,Va ((0:Int))),(3,Va (o2s))] a w) ?_ fun o2s a w ho s=>?_
   ·refine wpIn_block ?_
    refine loI (fun n z1=>m196_l1 f v0 n z1) o2 (fun z1 a w=>St M w_0 67 [(0,Va (v0)),(1,Pt (v0)),(2,Va ((0:Int))),(3,Va (z1))] a w) f (0:Int) (s.pick [0,1,2,3]) hoo2 (fun _=>rfl) fun n z1 a w hm s=>?_
    replace hm:m196_l1 f v0 (n + 1) z1=some o2:=hm
    unfold m196_l1 at hm
    refine se ?_
    refine se (rg (sq s (mv (t rfl)) rfl fun a w s=>sq s (fa (f:=Step.Strokes) (t rfl)) rfl fun a w s=>sq s (ld (t rfl)) rfl fun a w s=>sq s (ln (t rfl)) rfl fun a w s=>sq s (lt (t rfl) (t rfl)) rfl fun a w s=>nl ?_))
    refine cm s rfl hm (fun hb hm=>?_) (fun hb hm=>?_)
    ·refine wpIn_skip ?_
     refine se ?_
     refine wpIn_block ?_
     refine se ?_
     obtain ⟨x3,hx3,hm⟩:=bs hm
     obtain ⟨x4,hx4,hm⟩:=bs hm
     refine se (rg (sq s (fa (f:=Step.Strokes) (t rfl)) rfl fun a w s=>sq s (ld (t rfl)) rfl fun a w s=>sq s (mv (t rfl)) rfl fun a w s=>sq s (ix (t rfl) (t rfl) hx3) rfl fun a w s=>sq s (fa (f:=Stroke.Actuator) (t rfl)) rfl fun a w s=>sq s (ld (t rfl)) rfl fun a w s=>sq s (cc rfl (oc (t rfl) on) (s243 f _ _ hx4)) rfl fun a w s=>sq s (nt (t rfl)) rfl fun a w s=>nl ?_))
     refine cm s rfl hm (fun hb hm=>?_) (fun hb hm=>?_)
     ·refine se (rg (sq s (sa ci) rfl fun a w s=>nl ?_))
      obtain rfl:=si hm
      replace hm:=hko2
      dsimp only at hm
      obtain rfl:=si hm
      refine wpIn_ret ?_
      exact rn hD s rfl (rv1 (rt rfl))
     ·refine wpIn_skip ?_
      refine se ?_
      obtain ⟨r7,hr7,hm⟩:=bs hm
      have gr7:=gT hr7
      have er7:=gF hr7
      obtain ⟨x5,hx5,gr7⟩:=gx gr7
      obtain ⟨x6,hx6,gr7⟩:=gx gr7
      refine se (flow s (m:=18) (.cons (.cong (.cong (.cong (.cong (.cong (.cong (.cong (.cong (.cong (.cong (.cong (.cong (.cong (.cong (.cons (.cons (.cons .nil rfl (mv (t rfl))) rfl (gt (t rfl) ci)) rfl (mv (t rfl))) rfl rfl rfl (fun hb=>(fa (f:=Step.Strokes) (t rfl)))) rfl rfl rfl (fun hb=>(ld (tg rfl hb)))) rfl rfl rfl (fun hb=>(mv (t rfl)))) rfl rfl rfl (fun hb=>(ix (tg rfl hb) (tg rfl hb) (hx5 hb)))) rfl rfl rfl (fun hb=>(fa (f:=Stroke.Actuator) (tg rfl hb)))) rfl rfl rfl (fun hb=>(ld (tg rfl hb)))) rfl rfl rfl (fun hb=>(fa (f:=Step.Strokes) (t rfl)))) rfl rfl rfl (fun hb=>(ld (tg rfl hb)))) rfl rfl rfl (fun hb=>(mv (t rfl)))) rfl rfl rfl (fun hb=>(sb (tg rfl hb) ci))) rfl rfl rfl (fun hb=>(ix (tg rfl hb) (tg rfl hb) (hx6 hb)))) rfl rfl rfl (fun hb=>(fa (f:=Stroke.Actuator) (tg rfl hb)))) rfl rfl rfl (fun hb=>(ld (tg rfl hb)))) rfl rfl rfl (fun hb=>(eq (tg rfl hb) (tg rfl hb)))) rfl (pa (t rfl) rfl (fun h=>si (gr7 h)) (fun h=>(si (er7 h)).symm))) (by kernel_rfl) rfl rfl fun a w s=>nl ?_)
      refine cm s rfl hm (fun hb hm=>?_) (fun hb hm=>?_)
      ·refine se (rg (sq s (sa ci) rfl fun a w s=>nl ?_))
       obtain rfl:=si hm
       replace hm:=hko2
       dsimp only at hm
       obtain rfl:=si hm
       refine wpIn_ret ?_
       exact rn hD s rfl (rv1 (rt rfl))
      ·refine wpIn_skip ?_
       obtain ⟨r10,hr10,hm⟩:=bs hm
       have gr10:=gT hr10
       have er10:=gF hr10
       obtain ⟨x8,hx8,gr10⟩:=gx gr10
       obtain ⟨x9,hx9,gr10⟩:=gx gr10
       refine se (flow s (m:=18) (.cons (.cong (.cong (.cong (.cong (.cong (.cong (.cong (.cong (.cong (.cong (.cong (.cong (.cong (.cong (.cons (.cons (.cons .nil rfl (mv (t rfl))) rfl (gt (t rfl) ci)) rfl (mv (t rfl))) rfl rfl rfl (fun hb=>(fa (f:=Step.Strokes) (t rfl)))) rfl rfl rfl (fun hb=>(ld (tg rfl hb)))) rfl rfl rfl (fun hb=>(mv (t rfl)))) rfl rfl rfl (fun hb=>(ix (tg rfl hb) (tg rfl hb) (hx8 hb)))) rfl rfl rfl (fun hb=>(fa (f:=Stroke.Actuator) (tg rfl hb)))) rfl rfl rfl (fun hb=>(ld (tg rfl hb)))) rfl rfl rfl (fun hb=>(fa (f:=Step.Strokes) (t rfl)))) rfl rfl rfl (fun hb=>(ld (tg rfl hb)))) rfl rfl rfl (fun hb=>(mv (t rfl)))) rfl rfl rfl (fun hb=>(sb (tg rfl hb) ci))) rfl rfl rfl (fun hb=>(ix (tg rfl hb) (tg rfl hb) (hx9 hb)))) rfl rfl rfl (fun hb=>(fa (f:=Stroke.Actuator) (tg rfl hb)))) rfl rfl rfl (fun hb=>(ld (tg rfl hb)))) rfl rfl rfl (fun hb=>(lt (tg rfl hb) (tg rfl hb)))) rfl (pa (t rfl) rfl (fun h=>si (gr10 h)) (fun h=>(si (er10 h)).symm))) (by kernel_rfl) rfl rfl fun a w s=>nl ?_)
       refine cm s rfl hm (fun hb hm=>?_) (fun hb hm=>?_)
       ·refine se (rg (sq s (sa ci) rfl fun a w s=>nl ?_))
        obtain rfl:=si hm
        replace hm:=hko2
        dsimp only at hm
        obtain rfl:=si hm
        refine wpIn_ret ?_
        exact rn hD s rfl (rv1 (rt rfl))
       ·refine wpIn_skip ?_
        refine rg (sq s (mv (t rfl)) rfl fun a w s=>sq s (ad (t rfl) ci) rfl fun a w s=>sq s (sa (t rfl)) rfl fun a w s=>nl ?_)
        exact ⟨_,hm,s.pick [0,1,2,3]⟩
    ·refine wpIn_exit ?_
     exact ⟨_,(si hm).symm,s.pick [0,1,2,3]⟩
   ·subst ho
    replace hm:=hko2
    dsimp only at hm
    refine se ?_
    obtain ⟨x11,hx11,hm⟩:=bs hm
    refine se (rg (sq s (fa (f:=Step.Wait) (t rfl)) rfl fun a w s=>sq s (ld (t rfl)) rfl fun a w s=>sq s (cc rfl (oc (t rfl) on) (s244 f _ _ hx11)) rfl fun a w s=>sq s (nt (t rfl)) rfl fun a w s=>nl ?_))
    refine cm s rfl hm (fun hb hm=>?_) (fun hb hm=>?_)
    ·refine se (rg (sq s (sa ci) rfl fun a w s=>nl ?_))
     obtain rfl:=si hm
     refine wpIn_ret ?_
     exact rn hD s rfl (rv1 (rt rfl))
    ·refine wpIn_skip ?_
     refine se (rg (sq s (sa ci) rfl fun a w s=>nl ?_))
     obtain rfl:=si hm
     refine wpIn_ret ?_
     exact rn hD s rfl (rv1 (rt rfl))
def m285 (f:Nat) (v0:Stroke):Option (ByteArray):=(ssl (⟨#[65,66,67,68,69,70]⟩:ByteArray) ((v0).Actuator) (wr ((v0).Actuator + (1:Int)))).bind fun x1=>(bif (v0).Out then (cat x1 (⟨#[43]⟩:ByteArray)).bind fun x2=>some x2 else (cat x1 (⟨#[45]⟩:ByteArray)).bind fun x3=>some x3)
set_option maxRecDepth 100000 in
theorem s285 (f:Nat) (v0:Stroke) (r:ByteArray) (hm:m285 f v0=some r):Sp Tryz.prog 285 [Va (v0)] (Va (r)):=by
 unfold m285 at hm
 refine ens Tryz.func285 (by kernel_rfl) rfl Tryz.ntmps285 rfl rfl fun M w_0 a hM hD s=>?_
 refine se (rg (sq s (bx (t rfl)) rfl fun a w s=>sq s (sa cs) rfl fun a w s=>nl ?_))
 obtain ⟨x1,hx1,hm⟩:=bs hm
 refine se (rg (sq s (fa (f:=Stroke.Actuator) (t rfl)) rfl fun a w s=>sq s (ld (t rfl)) rfl fun a w s=>sq s (fa (f:=Stroke.Actuator) (t rfl)) rfl fun a w s=>sq s (ld (t rfl)) rfl fun a w s=>sq s (ad (t rfl) ci) rfl fun a w s=>sq s (sl2 cs (t rfl) (t rfl) Tryz.underlying9 hx1) rfl fun a w s=>sq s (sa (t rfl)) rfl fun a w s=>nl ?_))
 refine se ?_
 refine se (rg (sq s (fa (f:=Stroke.Out) (t rfl)) rfl fun a w s=>sq s (ld (t rfl)) rfl fun a w s=>nl ?_))
 refine cm s rfl hm (fun hb hm=>?_) (fun hb hm=>?_)
 ·obtain ⟨x2,hx2,hm⟩:=bs hm
  refine se (rg (sq s (mv (t rfl)) rfl fun a w s=>sq s (ct (t rfl) cs hx2) rfl fun a w s=>sq s (sa (t rfl)) rfl fun a w s=>nl ?_))
  obtain rfl:=si hm
  refine wpIn_ret ?_
  exact rn hD s rfl (rv1 (rt rfl))
 ·refine wpIn_skip ?_
  obtain ⟨x3,hx3,hm⟩:=bs hm
  refine se (rg (sq s (mv (t rfl)) rfl fun a w s=>sq s (ct (t rfl) cs hx3) rfl fun a w s=>sq s (sa (t rfl)) rfl fun a w s=>nl ?_))
  obtain rfl:=si hm
  refine wpIn_ret ?_
  exact rn hD s rfl (rv1 (rt rfl))
def m255_l2 (f:Nat) (v0:ByteArray) (z2:Int):Nat→Int→Option (Lo (Int) (Stroke×Bool))
 | 0,_=>none
 | n+1,z4=>(bif (decide (z4 < (([false,true]:List Bool).length:Int))) then (idx ([false,true]:List Bool) z4).bind fun x6=>(m285 f (⟨z2,x6⟩:Stroke)).bind fun x8=>(bif (x8.toList == v0.toList) then some (.ret ((⟨z2,x6⟩:Stroke),true)) else m255_l2 f v0 z2 n (wr (z4 + (1:Int)))) else some (.brk z4))
def m255_l1 (f:Nat) (v0:ByteArray):Nat→Int→Option (Lo (Int) (Stroke×Bool))
 | 0,_=>none
 | n+1,z2=>(bif (decide (z2 < (6:Int))) then ((m255_l2 f v0 z2 f (0:Int)).bind fun o5=>match o5 with | .brk o5s=>m255_l1 f v0 n (wr (z2 + (1:Int))) | .ret r=>some (.ret r)) else some (.brk z2))
def m255 (f:Nat) (v0:ByteArray):Option (Stroke×Bool):=((m255_l1 f v0 f (0:Int)).bind fun o3=>match o3 with | .brk o3s=>some ((⟨(0:Int),false⟩:Stroke),false) | .ret r=>some r)
set_option maxRecDepth 100000 in
theorem s255 (f:Nat) (v0:ByteArray) (r:Stroke×Bool) (hm:m255 f v0=some r):Sp Tryz.prog 255 [Va (v0)] (T2 (Va (r.1)) (Va (r.2))):=by
 unfold m255 at hm
 refine ens Tryz.func255 (by kernel_rfl) rfl Tryz.ntmps255 rfl rfl fun M w_0 a hM hD s=>?_
 refine se (rg (sqb 1000 s (al (z:=(⟨(0:Int),false⟩:Stroke))) rfl rfl fun b1 a w s=>sq s (sa cb) rfl fun a w s=>nl ?_))
 refine se ?_
 refine se (rg (sq s (sa ci) rfl fun a w s=>nl ?_))
 obtain ⟨o3,hoo3,hko3⟩:=bs hm
 refine lcI o3 (fun o3s a w=>St M w_0 28 [(0,Va (v0)),(2,Qv (pb b1 0)),(3,Va (false)),(4,Va (o3s)),(1000,Mg b1 ((⟨(0:Int),false⟩:Stroke)))] a w) ?_ fun o3s a w ho s=>?_
 ·refine wpIn_block ?_
  refine loI (fun n z2=>m255_l1 f v0 n z2) o3 (fun z2 a w=>St M w_0 28 [(0,Va (v0)),(2,Qv (pb b1 0)),(3,Va (false)),(4,Va (z2)),(1000,Mg b1 ((⟨(0:Int),false⟩:Stroke)))] a w) f (0:Int) (s.pick [0,2,3,4,1000]) hoo3 (fun _=>rfl) fun n z2 a w hm s=>?_
  replace hm:m255_l1 f v0 (n + 1) z2=some o3:=hm
  unfold m255_l1 at hm
  refine se ?_
  refine se (rg (sq s (mv (t rfl)) rfl fun a w s=>sq s (lt (t rfl) ci) rfl fun a w s=>nl ?_))
  refine cm s rfl hm (fun hb hm=>?_) (fun hb hm=>?_)
  ·refine wpIn_skip ?_
   refine se ?_
   refine wpIn_block ?_
   refine se (rg (sq s (bsv (o1 cb (o1 cb o0)) rfl rfl (by kernel_rfl)) rfl fun a w s=>sq s (ln (t rfl)) rfl fun a w s=>sq s (mv ci) rfl fun a w s=>nl ?_))
   obtain ⟨o5,hoo5,hko5⟩:=bs hm
   refine lcI o5 (fun o5s a w=>St M w_0 28 [(0,Va (v0)),(2,Qv (pb b1 0)),(3,Va (false)),(4,Va (z2)),(12,Va (([false,true]:List Bool))),(13,Va ((([false,true]:List Bool).length:Int))),(14,Va (o5s)),(1000,Mg b1 ((⟨(0:Int),false⟩:Stroke)))] a w) ?_ fun o5s a w ho s=>?_
   ·refine wpIn_block ?_
    refine loI (fun n z4=>m255_l2 f v0 z2 n z4) o5 (fun z4 a w=>St M w_0 28 [(0,Va (v0)),(2,Qv (pb b1 0)),(3,Va (false)),(4,Va (z2)),(12,Va (([false,true]:List Bool))),(13,Va ((([false,true]:List Bool).length:Int))),(14,Va (z4)),(1000,Mg b1 ((⟨(0:Int),false⟩:Stroke)))] a w) f (0:Int) (s.pick [0,2,3,4,12,13,14,1000]) hoo5 (fun _=>rfl) fun n z4 a w hm s=>?_
    replace hm:m255_l2 f v0 z2 (n + 1) z4=some o5:=hm
    unfold m255_l2 at hm
    refine se (rg (sq s (lt (t rfl) (t rfl)) rfl fun a w s=>nl ?_))
    refine se ?_
    refine cm s rfl hm (fun hb hm=>?_) (fun hb hm=>?_)
    ·refine wpIn_skip ?_
     refine se ?_
     refine wpIn_block ?_
     obtain ⟨x6,hx6,hm⟩:=bs hm
     refine se (rg (sq s (ix (t rfl) (t rfl) hx6) rfl fun a w s=>sq s (ld (t rfl)) rfl fun a w s=>sq s (sa (t rfl)) rfl fun a w s=>nl ?_))
     refine se (rg (sq s (mv (t rfl)) rfl fun a w s=>sq s (mv (t rfl)) rfl fun a w s=>sq s (bl120_0_1 (t rfl) (t rfl)) rfl fun a w s=>sqb 1001 s (al (z:=(⟨(0:Int),false⟩:Stroke))) rfl rfl fun b7 a w s=>sw (K:=1001) s (t rfl) rfl (t rfl) rfl fun w s=>nl ?_))
     obtain ⟨x8,hx8,hm⟩:=bs hm
     refine se (rg (sq s (lm (K:=1001) (t rfl) rfl) rfl fun a w s=>sq s (cc rfl (oc (t rfl) on) (s285 f _ _ hx8)) rfl fun a w s=>sq s (mv (t rfl)) rfl fun a w s=>sq s (seq (t rfl) (t rfl)) rfl fun a w s=>nl ?_))
     refine cm s rfl hm (fun hb hm=>?_) (fun hb hm=>?_)
     ·refine se (rg (sq s (lm (K:=1001) (t rfl) rfl) rfl fun a w s=>sw (K:=1000) s (t rfl) rfl (t rfl) rfl fun w s=>sq s (sa cb) rfl fun a w s=>nl ?_))
      obtain rfl:=si hm
      replace hm:=hko5
      dsimp only at hm
      obtain rfl:=si hm
      replace hm:=hko3
      dsimp only at hm
      obtain rfl:=si hm
      refine wpIn_ret ?_
      exact rn hD s rfl (rv2 (rc (K:=1000) rfl rfl) (rt rfl))
     ·refine wpIn_skip ?_
      refine rg (sq s (ad (t rfl) ci) rfl fun a w s=>sq s (mv (t rfl)) rfl fun a w s=>nl ?_)
      exact ⟨_,hm,s.pick [0,2,3,4,12,13,14,1000]⟩
    ·refine wpIn_exit ?_
     exact ⟨_,(si hm).symm,s.pick [0,2,3,4,12,13,14,1000]⟩
   ·subst ho
    replace hm:=hko5
    dsimp only at hm
    refine rg (sq s (mv (t rfl)) rfl fun a w s=>sq s (ad (t rfl) ci) rfl fun a w s=>sq s (sa (t rfl)) rfl fun a w s=>nl ?_)
    exact ⟨_,hm,s.pick [0,2,3,4,1000]⟩
  ·refine wpIn_exit ?_
   exact ⟨_,(si hm).symm,s.pick [0,2,3,4,1000]⟩
 ·subst ho
  replace hm:=hko3
  dsimp only at hm
  refine se (rg (sq s (bl120_ ) rfl fun a w s=>sw (K:=1000) s (t rfl) rfl (t rfl) rfl fun w s=>sq s (sa cb) rfl fun a w s=>nl ?_))
  obtain rfl:=si hm
  refine wpIn_ret ?_
  exact rn hD s rfl (rv2 (rc (K:=1000) rfl rfl) (rt rfl))
def m210_l1 (f:Nat) (x3:(List ByteArray)):Nat→(Int×Int×(List Stroke))→Option (Lo (Int×Int×(List Stroke)) (Step×Int))
 | 0,_=>none
 | n+1,z4=>(bif (decide (z4.1 < (x3.length:Int))) then (idx x3 z4.1).bind fun x7=>(m255 f x7).bind fun x8=>(bif (x8.2 && (z4.2.1 == (0:Int))) then (app z4.2.2 ([x8.1]:List Stroke)).bind fun x10=>m210_l1 f x3 n ((wr (z4.1 + (1:Int))),z4.2.1,x10) else (idx x3 z4.1).bind fun x12=>(m256 f x12).bind fun x13=>(bif ((((!x13.2) || (x13.1 == (0:Int))) || (z4.1 == (0:Int))) || (decide (z4.1 < (wr ((x3.length:Int) - (1:Int)))))) then some (.ret ((⟨([]:List Stroke),(0:Int)⟩:Step),(4:Int))) else m210_l1 f x3 n ((wr (z4.1 + (1:Int))),x13.1,z4.2.2))) else some (.brk (z4.1,z4.2.1,z4.2.2)))
def m210 (f:Nat) (v0:ByteArray):Option (Step×Int):=(m209 f v0 (⟨#[32]⟩:ByteArray)).bind fun x3=>((m210_l1 f x3 f ((0:Int),(0:Int),([]:List Stroke))).bind fun o5=>match o5 with | .brk o5s=>(m196 f (⟨o5s.2.2,o5s.2.1⟩:Step)).bind fun x14=>(bif (x14 != (0:Int)) then some ((⟨([]:List Stroke),(0:Int)⟩:Step),x14) else some ((⟨o5s.2.2,o5s.2.1⟩:Step),(0:Int))) | .ret r=>some r)
set_option maxRecDepth 100000 in
set_option maxHeartbeats 2000000 in
theorem s210 (f:Nat) (v0:ByteArray) (r:Step×Int) (hm:m210 f v0=some r):Sp Tryz.prog 210 [Va (v0)] (T2 (Va (r.1)) (Va (r.2))):=by
 unfold m210 at hm
 refine ens Tryz.func210 (by kernel_rfl) rfl Tryz.ntmps210 rfl rfl fun M w_0 a hM hD s=>?_
 refine se (rg (sqr 1000 s (alr (cs:=[(.slice none 0 0),(.int .i64 (0:Int))]) (z:=.agg #[(.slice none 0 0),(.int .i64 (0:Int))]) (by kernel_rfl) rfl rfl) rfl rfl fun b1 a w s=>sq s (sa ci) rfl fun a w s=>nl ?_))
 refine se (rg (sqr 1001 s (alr (cs:=[(.slice none 0 0),(.int .i64 (0:Int))]) (z:=.agg #[(.slice none 0 0),(.int .i64 (0:Int))]) (by kernel_rfl) rfl rfl) rfl rfl fun b2 a w s=>nl ?_))
 obtain ⟨x3,hx3,hm⟩:=bs hm
 refine se (rg (sq s (mv (t rfl)) rfl fun a w s=>sq s (cc rfl (oc (t rfl) (oc cs on)) (s209 f _ _ _ hx3)) rfl fun a w s=>sq s (sa (t rfl)) rfl fun a w s=>nl ?_))
 refine se ?_
 refine se (rg (sq s (sa ci) rfl fun a w s=>nl ?_))
 refine nilc (α:=Stroke) (k:=1001) (cs':=fun c6=>[c6,(.int .i64 (0:Int))]) 1002 120 s rfl (fun _=>rfl) rfl fun c6 s=>?_
 obtain ⟨o5,hoo5,hko5⟩:=bs hm
 refine lcI o5 (fun o5s a w=>∃ (o5sc0:Value),St M w_0 75 [(0,Va (v0)),(2,Qv (pb b1 0)),(3,Va ((0:Int))),(4,Qv (pb b2 0)),(5,Va (x3)),(6,Va (o5s.1)),(1000,Mr b1 [(.slice none 0 0),(.int .i64 (0:Int))]),(1001,Mr b2 [o5sc0,(.int .i64 o5s.2.1)]),(1002,Ow 120 o5sc0 (o5s.2.2))] a w) ?_ fun o5s a w ho s=>?_
 ·refine wpIn_block ?_
  refine loI (fun n z4=>m210_l1 f x3 n z4) o5 (fun z4 a w=>∃ (z4c0:Value),St M w_0 75 [(0,Va (v0)),(2,Qv (pb b1 0)),(3,Va ((0:Int))),(4,Qv (pb b2 0)),(5,Va (x3)),(6,Va (z4.1)),(1000,Mr b1 [(.slice none 0 0),(.int .i64 (0:Int))]),(1001,Mr b2 [z4c0,(.int .i64 z4.2.1)]),(1002,Ow 120 z4c0 (z4.2.2))] a w) f ((0:Int),(0:Int),([]:List Stroke)) ⟨c6,s.pick [0,2,3,4,5,6,1000,1001,1002]⟩ hoo5 (fun _=>rfl) fun n z4 a w hm s=>?_
  obtain ⟨z4c0,s⟩:=s
  replace hm:m210_l1 f x3 (n + 1) z4=some o5:=hm
  unfold m210_l1 at hm
  refine se ?_
  refine se (rg (sq s (mv (t rfl)) rfl fun a w s=>sq s (mv (t rfl)) rfl fun a w s=>sq s (ln (t rfl)) rfl fun a w s=>sq s (lt (t rfl) (t rfl)) rfl fun a w s=>nl ?_))
  refine cm s rfl hm (fun hb hm=>?_) (fun hb hm=>?_)
  ·refine wpIn_skip ?_
   refine se ?_
   refine wpIn_block ?_
   refine se ?_
   obtain ⟨x7,hx7,hm⟩:=bs hm
   obtain ⟨x8,hx8,hm⟩:=bs hm
   refine se (rg (sq s (mv (t rfl)) rfl fun a w s=>sq s (mv (t rfl)) rfl fun a w s=>sq s (ix (t rfl) (t rfl) hx7) rfl fun a w s=>sq s (ld (t rfl)) rfl fun a w s=>sq s (cc rfl (oc (t rfl) on) (s255 f _ _ hx8)) rfl fun a w s=>sq s (mve (t rfl)) rfl fun a w s=>sq s (Pn.x20 (t rfl)) rfl fun a w s=>sq s (Pn.x21 (t rfl)) rfl fun a w s=>sqb 1003 s (al (z:=(⟨(0:Int),false⟩:Stroke))) rfl rfl fun b9 a w s=>sw (K:=1003) s (t rfl) rfl (t rfl) rfl fun w s=>sq s (sa (t rfl)) rfl fun a w s=>nl ?_))
   refine se (rg (sq s (mv (t rfl)) rfl fun a w s=>sq s (mv (t rfl)) rfl fun a w s=>sg s rfl rfl (fun hb=>(fm_ (off:=1) (m:=0) (q:=1) (t rfl) (by kernel_rfl) rfl)) rfl fun a w s=>sg s rfl rfl (fun hb=>(lrc (K:=1001) Int (tg rfl hb) rfl rfl rfl rfl)) rfl fun a w s=>sg s rfl rfl (fun hb=>(eq (qi (tg rfl hb)) ci)) rfl fun a w s=>sq s (paP (t rfl) rfl) rfl fun a w s=>nl ?_))
   refine cm s rfl hm (fun hb hm=>?_) (fun hb hm=>?_)
   ·obtain ⟨x10,hx10,hm⟩:=bs hm
    refine se (rg (sq s (fm_ (off:=0) (m:=0) (q:=0) (t rfl) (by kernel_rfl) rfl) rfl fun a w s=>sq s (lrc (K:=1001) (List Stroke) (t rfl) rfl rfl rfl rfl) rfl fun a w s=>sq s (lm (K:=1003) (t rfl) rfl) rfl fun a w s=>sq s (bsv (o1 (t rfl) o0) rfl rfl (by kernel_rfl)) rfl fun a w s=>apd (α:=Stroke) (k:=1002) s (t rfl) rfl (t rfl) hx10 rfl rfl fun c11 a w s=>sq s (fm_ (off:=0) (m:=0) (q:=0) (t rfl) (by kernel_rfl) rfl) rfl fun a w s=>srq (K:=1001) (cs':=[c11,(.int .i64 z4.2.1)]) s (t rfl) rfl (t rfl) (by kernel_rfl) (oco (k:=1002) rfl) rfl rfl fun w s=>nl ?_))
    refine wpIn_exit ?_
    refine rg (sq s (mv (t rfl)) rfl fun a w s=>sq s (ad (t rfl) ci) rfl fun a w s=>sq s (sa (t rfl)) rfl fun a w s=>nl ?_)
    exact ⟨_,hm,⟨c11,s.pick [0,2,3,4,5,6,1000,1001,1002]⟩⟩
   ·refine wpIn_skip ?_
    obtain ⟨x12,hx12,hm⟩:=bs hm
    obtain ⟨x13,hx13,hm⟩:=bs hm
    refine se (rg (sq s (mv (t rfl)) rfl fun a w s=>sq s (mv (t rfl)) rfl fun a w s=>sq s (ix (t rfl) (t rfl) hx12) rfl fun a w s=>sq s (ld (t rfl)) rfl fun a w s=>sq s (cc rfl (oc (t rfl) on) (s256 f _ _ hx13)) rfl fun a w s=>sq s (mve (t rfl)) rfl fun a w s=>sq s (Pn.x20 (t rfl)) rfl fun a w s=>sq s (Pn.x21 (t rfl)) rfl fun a w s=>sq s (sa (t rfl)) rfl fun a w s=>sq s (sa (t rfl)) rfl fun a w s=>nl ?_))
    refine se ?_
    refine se (rg (sq s (mv (t rfl)) rfl fun a w s=>sq s (nt (t rfl)) rfl fun a w s=>sq s (mv (t rfl)) rfl fun a w s=>sg s rfl rfl (fun hb=>(mv (t rfl))) rfl fun a w s=>sg s rfl rfl (fun hb=>(eq (tg rfl hb) ci)) rfl fun a w s=>sq s (poP (t rfl) rfl) rfl fun a w s=>sq s (mv (t rfl)) rfl fun a w s=>sg s rfl rfl (fun hb=>(mv (t rfl))) rfl fun a w s=>sg s rfl rfl (fun hb=>(eq (tg rfl hb) ci)) rfl fun a w s=>sq s (poP (t rfl) rfl) rfl fun a w s=>sq s (mv (t rfl)) rfl fun a w s=>sg s rfl rfl (fun hb=>(mv (t rfl))) rfl fun a w s=>sg s rfl rfl (fun hb=>(mv (t rfl))) rfl fun a w s=>sg s rfl rfl (fun hb=>(ln (tg rfl hb))) rfl fun a w s=>sg s rfl rfl (fun hb=>(sb (tg rfl hb) ci)) rfl fun a w s=>sg s rfl rfl (fun hb=>(lt (tg rfl hb) (tg rfl hb))) rfl fun a w s=>sq s (poP (t rfl) rfl) rfl fun a w s=>nl ?_))
    refine cm s rfl hm (fun hb hm=>?_) (fun hb hm=>?_)
    ·refine se (rg (sq s (bl198_ ) rfl fun a w s=>swd (K:=1000) s (t rfl) rfl (t rfl) rfl fun w s=>sq s (sa ci) rfl fun a w s=>nl ?_))
     obtain rfl:=si hm
     replace hm:=hko5
     dsimp only at hm
     obtain rfl:=si hm
     refine wpIn_ret ?_
     exact rn hD s rfl (rv2 (rc (K:=1000) rfl rfl) (rt rfl))
    ·refine wpIn_skip ?_
     refine rg (sq s (mv (t rfl)) rfl fun a w s=>sq s (fm_ (off:=1) (m:=0) (q:=1) (t rfl) (by kernel_rfl) rfl) rfl fun a w s=>srq (K:=1001) (cs':=[z4c0,(.int .i64 x13.1)]) s (t rfl) rfl (iq (t rfl)) (by kernel_rfl) (ocr rfl) rfl rfl fun w s=>nl ?_)
     refine rg (sq s (mv (t rfl)) rfl fun a w s=>sq s (ad (t rfl) ci) rfl fun a w s=>sq s (sa (t rfl)) rfl fun a w s=>nl ?_)
     exact ⟨_,hm,⟨z4c0,s.pick [0,2,3,4,5,6,1000,1001,1002]⟩⟩
  ·refine wpIn_exit ?_
   exact ⟨_,(si hm).symm,⟨z4c0,s.pick [0,2,3,4,5,6,1000,1001,1002]⟩⟩
 ·obtain ⟨o5sc0,s⟩:=s
  subst ho
  replace hm:=hko5
  dsimp only at hm
  refine se ?_
  obtain ⟨x14,hx14,hm⟩:=bs hm
  refine se (rg (sq s (lra (K:=1001) (ds:=[o5sc0,(.int .i64 o5s.2.1)]) Step (t rfl) rfl rfl rfl rfl) rfl fun a w s=>sq s (tfg (k:=1002) fl1 rfl (cc rfl (oc (qad (y:=(⟨o5s.2.2,o5s.2.1⟩:Step)) (t rfl) (rpS197 (l:=([o5sc0],[(.int .i64 o5s.2.1)])) (rpz (k:=1002) rfl) rpi) rfl) on) (s196 f _ _ hx14))) rfl fun a w s=>sq s (sa (t rfl)) rfl fun a w s=>nl ?_))
  refine se (rg (sq s (mv (t rfl)) rfl fun a w s=>sq s (ne (t rfl) ci) rfl fun a w s=>nl ?_))
  refine cm s rfl hm (fun hb hm=>?_) (fun hb hm=>?_)
  ·refine se (rg (sq s (bl198_ ) rfl fun a w s=>sq s (mv (t rfl)) rfl fun a w s=>swd (K:=1000) s (t rfl) rfl (t rfl) rfl fun w s=>sq s (sa (t rfl)) rfl fun a w s=>nl ?_))
   obtain rfl:=si hm
   refine wpIn_ret ?_
   exact rn hD s rfl (rv2 (rc (K:=1000) rfl rfl) (rt rfl))
  ·refine wpIn_skip ?_
   refine se (rg (sq s (lra (K:=1001) (ds:=[o5sc0,(.int .i64 o5s.2.1)]) Step (t rfl) rfl rfl rfl rfl) rfl fun a w s=>sra (K:=1000) (m:=[o5sc0,(.int .i64 o5s.2.1)]) (cs':=[o5sc0,(.int .i64 o5s.2.1)]) s (t rfl) rfl (t rfl) (by kernel_rfl) rfl rfl rfl fun w s=>sq s (sa ci) rfl fun a w s=>nl ?_))
   obtain rfl:=si hm
   refine fzk (α:=Stroke) (k:=1002) hM s rfl fun s=>?_
   refine shut (k:=1000) (x:=(⟨o5s.2.2,o5s.2.1⟩:Step)) s rfl (rpS197 (l:=([o5sc0],[(.int .i64 o5s.2.1)])) (rpz (k:=1002) rfl) rpi) fun s=>?_
   refine wpIn_ret ?_
   exact rn hD s rfl (rv2 (rc (K:=1000) rfl rfl) (rt rfl))
def m144_l1 (f:Nat) (x1:(List ByteArray)):Nat→(Int×Int×(List Step))→Option (Lo (Int×Int×(List Step)) ((List Step)×Int×Int))
 | 0,_=>none
 | n+1,z2=>(bif (decide (z2.2.1 < (x1.length:Int))) then (bif (z2.2.1 == (64:Int)) then some (.ret (([]:List Step),z2.1,(5:Int))) else (idx x1 z2.2.1).bind fun x5=>(m210 f x5).bind fun x6=>(bif (x6.2 != (0:Int)) then some (.ret (([]:List Step),z2.1,x6.2)) else (app z2.2.2 ([x6.1]:List Step)).bind fun x8=>(idx x1 z2.2.1).bind fun x10=>m144_l1 f x1 n ((wr (z2.1 + (wr ((x10.size:Int) + (2:Int))))),(wr (z2.2.1 + (1:Int))),x8))) else some (.brk (z2.1,z2.2.1,z2.2.2)))
def m144 (f:Nat) (v0:ByteArray):Option ((List Step)×Int×Int):=(bif (decide ((v0.size:Int) > (4096:Int))) then some (([]:List Step),(0:Int),(17:Int)) else (bif (v0.toList == (⟨#[]⟩:ByteArray).toList) then some (([]:List Step),(0:Int),(0:Int)) else (m209 f v0 (⟨#[59,32]⟩:ByteArray)).bind fun x1=>((m144_l1 f x1 f ((0:Int),(0:Int),([]:List Step))).bind fun o3=>match o3 with | .brk o3s=>some (o3s.2.2,(0:Int),(0:Int)) | .ret r=>some r)))
set_option maxRecDepth 100000 in
theorem s144 (f:Nat) (v0:ByteArray) (r:(List Step)×Int×Int) (hm:m144 f v0=some r):Sp Tryz.prog 144 [Va (v0)] (T3 (Va (r.1)) (Va (r.2.1)) (Va (r.2.2))):=by
 unfold m144 at hm
 refine ens Tryz.func144 (by kernel_rfl) rfl Tryz.ntmps144 rfl rfl fun M w_0 a hM hD s=>?_
 refine se (rg (sq s (saq cq) rfl fun a w s=>sq s (sa ci) rfl fun a w s=>sq s (sa ci) rfl fun a w s=>nl ?_))
 refine se ?_
 refine se (rg (sq s (mv (t rfl)) rfl fun a w s=>sq s (lns (t rfl) Tryz.underlying9) rfl fun a w s=>sq s (gt (t rfl) ci) rfl fun a w s=>nl ?_))
 refine cm s rfl hm (fun hb hm=>?_) (fun hb hm=>?_)
 ·refine se (rg (sq s (saq cq) rfl fun a w s=>sq s (sa ci) rfl fun a w s=>sq s (sa ci) rfl fun a w s=>nl ?_))
  obtain rfl:=si hm
  refine wpIn_ret ?_
  exact rn hD s rfl (rv3 (ro (qns (α:=Step) (t rfl))) (rt rfl) (rt rfl))
 ·refine wpIn_skip ?_
  refine se ?_
  refine se (rg (sq s (mv (t rfl)) rfl fun a w s=>sq s (seq (t rfl) cs) rfl fun a w s=>nl ?_))
  refine cm s rfl hm (fun hb hm=>?_) (fun hb hm=>?_)
  ·refine se (rg (sq s (saq cq) rfl fun a w s=>sq s (sa ci) rfl fun a w s=>sq s (sa ci) rfl fun a w s=>nl ?_))
   obtain rfl:=si hm
   refine wpIn_ret ?_
   exact rn hD s rfl (rv3 (ro (qns (α:=Step) (t rfl))) (rt rfl) (rt rfl))
  ·refine wpIn_skip ?_
   refine se (rg (sq s (saq cq) rfl fun a w s=>nl ?_))
   obtain ⟨x1,hx1,hm⟩:=bs hm
   refine se (rg (sq s (mv (t rfl)) rfl fun a w s=>sq s (cc rfl (oc (t rfl) (oc cs on)) (s209 f _ _ _ hx1)) rfl fun a w s=>sq s (sa (t rfl)) rfl fun a w s=>nl ?_))
   refine se (rg (sq s (sa ci) rfl fun a w s=>nl ?_))
   refine se ?_
   refine se (rg (sq s (sa ci) rfl fun a w s=>nl ?_))
   refine nilt (α:=Step) (d:=5) 1000 198 s rfl rfl fun c4 s=>?_
   obtain ⟨o3,hoo3,hko3⟩:=bs hm
   refine lcI o3 (fun o3s a w=>∃ (o3sc0:Value),St M w_0 52 [(0,Va (v0)),(2,Qv (.slice none 0 0)),(3,Va ((0:Int))),(4,Va ((0:Int))),(5,Qv o3sc0),(6,Va (x1)),(7,Va (o3s.1)),(8,Va (o3s.2.1)),(1000,Ow 198 o3sc0 (o3s.2.2))] a w) ?_ fun o3s a w ho s=>?_
   ·refine wpIn_block ?_
    refine loI (fun n z2=>m144_l1 f x1 n z2) o3 (fun z2 a w=>∃ (z2c0:Value),St M w_0 52 [(0,Va (v0)),(2,Qv (.slice none 0 0)),(3,Va ((0:Int))),(4,Va ((0:Int))),(5,Qv z2c0),(6,Va (x1)),(7,Va (z2.1)),(8,Va (z2.2.1)),(1000,Ow 198 z2c0 (z2.2.2))] a w) f ((0:Int),(0:Int),([]:List Step)) ⟨c4,s.pick [0,2,3,4,5,6,7,8,1000]⟩ hoo3 (fun _=>rfl) fun n z2 a w hm s=>?_
    obtain ⟨z2c0,s⟩:=s
    replace hm:m144_l1 f x1 (n + 1) z2=some o3:=hm
    unfold m144_l1 at hm
    refine se ?_
    refine se (rg (sq s (mv (t rfl)) rfl fun a w s=>sq s (mv (t rfl)) rfl fun a w s=>sq s (ln (t rfl)) rfl fun a w s=>sq s (lt (t rfl) (t rfl)) rfl fun a w s=>nl ?_))
    refine cm s rfl hm (fun hb hm=>?_) (fun hb hm=>?_)
    ·refine wpIn_skip ?_
     refine se ?_
     refine wpIn_block ?_
     refine se ?_
     refine se (rg (sq s (mv (t rfl)) rfl fun a w s=>sq s (eq (t rfl) ci) rfl fun a w s=>nl ?_))
     refine cm s rfl hm (fun hb hm=>?_) (fun hb hm=>?_)
     ·refine se (rg (sq s (mv (t rfl)) rfl fun a w s=>sq s (saq cq) rfl fun a w s=>sq s (sa (t rfl)) rfl fun a w s=>sq s (sa ci) rfl fun a w s=>nl ?_))
      obtain rfl:=si hm
      replace hm:=hko3
      dsimp only at hm
      obtain rfl:=si hm
      refine wpIn_ret ?_
      exact rn hD s rfl (rv3 (ro (qns (α:=Step) (t rfl))) (rt rfl) (rt rfl))
     ·refine wpIn_skip ?_
      obtain ⟨x5,hx5,hm⟩:=bs hm
      obtain ⟨x6,hx6,hm⟩:=bs hm
      refine se (rg (sq s (mv (t rfl)) rfl fun a w s=>sq s (mv (t rfl)) rfl fun a w s=>sq s (ix (t rfl) (t rfl) hx5) rfl fun a w s=>sq s (ld (t rfl)) rfl fun a w s=>sq s (cc rfl (oc (t rfl) on) (s210 f _ _ hx6)) rfl fun a w s=>sq s (mve (t rfl)) rfl fun a w s=>sq s (Pn.x20 (t rfl)) rfl fun a w s=>sq s (Pn.x21 (t rfl)) rfl fun a w s=>sqr 1001 s (alr (cs:=[(.slice none 0 0),(.int .i64 (0:Int))]) (z:=.agg #[(.slice none 0 0),(.int .i64 (0:Int))]) (by kernel_rfl) rfl rfl) rfl rfl fun b7 a w s=>swd (K:=1001) s (t rfl) rfl (t rfl) rfl fun w s=>sq s (sa (t rfl)) rfl fun a w s=>nl ?_))
      refine se ?_
      refine se (rg (sq s (mv (t rfl)) rfl fun a w s=>sq s (ne (t rfl) ci) rfl fun a w s=>nl ?_))
      refine cm s rfl hm (fun hb hm=>?_) (fun hb hm=>?_)
      ·refine se (rg (sq s (mv (t rfl)) rfl fun a w s=>sq s (mv (t rfl)) rfl fun a w s=>sq s (saq cq) rfl fun a w s=>sq s (sa (t rfl)) rfl fun a w s=>sq s (sa (t rfl)) rfl fun a w s=>nl ?_))
       obtain rfl:=si hm
       replace hm:=hko3
       dsimp only at hm
       obtain rfl:=si hm
       refine wpIn_ret ?_
       exact rn hD s rfl (rv3 (ro (qns (α:=Step) (t rfl))) (rt rfl) (rt rfl))
      ·refine wpIn_skip ?_
       obtain ⟨x8,hx8,hm⟩:=bs hm
       refine se (rg (sq s (mvq (t rfl)) rfl fun a w s=>sq s (lm (K:=1001) (t rfl) rfl) rfl fun a w s=>sq s (bsv (o1 (t rfl) o0) rfl rfl (by kernel_rfl)) rfl fun a w s=>apd (α:=Step) (k:=1000) s (t rfl) rfl (t rfl) hx8 rfl rfl fun c9 a w s=>sq s (saq (t rfl)) rfl fun a w s=>nl ?_))
       obtain ⟨x10,hx10,hm⟩:=bs hm
       refine rg (sq s (mv (t rfl)) rfl fun a w s=>sq s (mv (t rfl)) rfl fun a w s=>sq s (mv (t rfl)) rfl fun a w s=>sq s (ix (t rfl) (t rfl) hx10) rfl fun a w s=>sq s (ld (t rfl)) rfl fun a w s=>sq s (lns (t rfl) Tryz.underlying9) rfl fun a w s=>sq s (ad (t rfl) ci) rfl fun a w s=>sq s (ad (t rfl) (t rfl)) rfl fun a w s=>sq s (sa (t rfl)) rfl fun a w s=>nl ?_)
       refine rg (sq s (mv (t rfl)) rfl fun a w s=>sq s (ad (t rfl) ci) rfl fun a w s=>sq s (sa (t rfl)) rfl fun a w s=>nl ?_)
       exact ⟨_,hm,⟨c9,s.pick [0,2,3,4,5,6,7,8,1000]⟩⟩
    ·refine wpIn_exit ?_
     exact ⟨_,(si hm).symm,⟨z2c0,s.pick [0,2,3,4,5,6,7,8,1000]⟩⟩
   ·obtain ⟨o3sc0,s⟩:=s
    subst ho
    replace hm:=hko3
    dsimp only at hm
    refine se (rg (sq s (mvq (t rfl)) rfl fun a w s=>sq s (saq (t rfl)) rfl fun a w s=>sq s (sa ci) rfl fun a w s=>sq s (sa ci) rfl fun a w s=>nl ?_))
    obtain rfl:=si hm
    refine fzk (α:=Step) (k:=1000) hM s rfl fun s=>?_
    refine wpIn_ret ?_
    exact rn hD s rfl (rv3 (ro (ta (k:=1000) (t rfl) rfl)) (rt rfl) (rt rfl))
def m145_l2 (v0:List Step) (z3:Int×Sequence):Nat→(Int×Sequence)→Option (Int×Sequence)
 | 0,_=>none
 | n+1,z5=>(idx v0 z3.1).bind fun x7=>(bif (decide (z5.1 < (((x7).Strokes).length:Int))) then (idx v0 z3.1).bind fun x8=>(idx ((x8).Strokes) z5.1).bind fun x9=>m145_l2 v0 z3 n ((wr (z5.1 + (1:Int))),{ z5.2 with Actuators:=(if (wr ((x9).Actuator + (1:Int))) > (z5.2).Actuators then (wr ((x9).Actuator + (1:Int))) else (z5.2).Actuators) }) else some (z5.1,z5.2))
def m145_l1 (f:Nat) (v0:List Step):Nat→(Int×Sequence)→Option (Int×Sequence)
 | 0,_=>none
 | n+1,z3=>(bif (decide (z3.1 < (v0.length:Int))) then (m145_l2 v0 z3 f ((0:Int),z3.2)).bind fun o6s=>m145_l1 f v0 n ((wr (z3.1 + (1:Int))),o6s.2) else some (z3.1,z3.2))
def m145 (f:Nat) (v0:List Step):Option (Sequence):=(m145_l1 f v0 f ((0:Int),(⟨(0:Int),v0⟩:Sequence))).bind fun o4s=>some o4s.2
set_option maxRecDepth 100000 in
theorem s145 (f:Nat) (v0:List Step) (r:Sequence) (hm:m145 f v0=some r):Sp Tryz.prog 145 [Va (v0)] (Va (r)):=by
 unfold m145 at hm
 refine ens Tryz.func145 (by kernel_rfl) rfl Tryz.ntmps145 rfl rfl fun M w_0 a hM hD s=>?_
 refine se (rg (sqr 1000 s (alr (cs:=[(.int .i64 (0:Int)),(.slice none 0 0)]) (z:=.agg #[(.int .i64 (0:Int)),(.slice none 0 0)]) (by kernel_rfl) rfl rfl) rfl rfl fun b1 a w s=>nl ?_))
 refine se (rg (sq s (mv (t rfl)) rfl fun a w s=>sq s (bl108_1 (t rfl)) rfl fun a w s=>sqr 1001 s (alr (cs:=[(.int .i64 (0:Int)),(.slice none 0 0)]) (z:=.agg #[(.int .i64 (0:Int)),(.slice none 0 0)]) (by kernel_rfl) rfl rfl) rfl rfl fun b2 a w s=>swd (K:=1001) s (t rfl) rfl (t rfl) rfl fun w s=>nl ?_))
 refine se ?_
 refine se (rg (sq s (sa ci) rfl fun a w s=>nl ?_))
 obtain ⟨o4s,hoo4,hko4⟩:=bs hm
 refine cpI (fun a w=>St M w_0 39 [(0,Va (v0)),(2,Qv (pb b1 0)),(3,Qv (pb b2 0)),(4,Va (o4s.1)),(1000,Mr b1 [(.int .i64 (0:Int)),(.slice none 0 0)]),(1001,Mg b2 (o4s.2))] a w) ?_ fun a w s=>?_
 ·refine wpIn_block ?_
  refine loI (fun n z3=>m145_l1 f v0 n z3) o4s (fun z3 a w=>St M w_0 39 [(0,Va (v0)),(2,Qv (pb b1 0)),(3,Qv (pb b2 0)),(4,Va (z3.1)),(1000,Mr b1 [(.int .i64 (0:Int)),(.slice none 0 0)]),(1001,Mg b2 (z3.2))] a w) f ((0:Int),(⟨(0:Int),v0⟩:Sequence)) (s.pick [0,2,3,4,1000,1001]) hoo4 (fun _=>rfl) fun n z3 a w hm s=>?_
  replace hm:m145_l1 f v0 (n + 1) z3=some o4s:=hm
  unfold m145_l1 at hm
  refine se ?_
  refine se (rg (sq s (mv (t rfl)) rfl fun a w s=>sq s (mv (t rfl)) rfl fun a w s=>sq s (ln (t rfl)) rfl fun a w s=>sq s (lt (t rfl) (t rfl)) rfl fun a w s=>nl ?_))
  refine cm s rfl hm (fun hb hm=>?_) (fun hb hm=>?_)
  ·refine wpIn_skip ?_
   refine se ?_
   refine wpIn_block ?_
   refine se (rg (sq s (sa ci) rfl fun a w s=>nl ?_))
   obtain ⟨o6s,hoo6,hko6⟩:=bs hm
   refine cpI (fun a w=>St M w_0 39 [(0,Va (v0)),(2,Qv (pb b1 0)),(3,Qv (pb b2 0)),(4,Va (z3.1)),(5,Va (o6s.1)),(1000,Mr b1 [(.int .i64 (0:Int)),(.slice none 0 0)]),(1001,Mg b2 (o6s.2))] a w) ?_ fun a w s=>?_
   ·refine wpIn_block ?_
    refine loI (fun n z5=>m145_l2 v0 z3 n z5) o6s (fun z5 a w=>St M w_0 39 [(0,Va (v0)),(2,Qv (pb b1 0)),(3,Qv (pb b2 0)),(4,Va (z3.1)),(5,Va (z5.1)),(1000,Mr b1 [(.int .i64 (0:Int)),(.slice none 0 0)]),(1001,Mg b2 (z5.2))] a w) f ((0:Int),z3.2) (s.pick [0,2,3,4,5,1000,1001]) hoo6 (fun _=>rfl) fun n z5 a w hm s=>?_
    replace hm:m145_l2 v0 z3 (n + 1) z5=some o6s:=hm
    unfold m145_l2 at hm
    refine se ?_
    obtain ⟨x7,hx7,hm⟩:=bs hm
    refine se (rg (sq s (mv (t rfl)) rfl fun a w s=>sq s (mv (t rfl)) rfl fun a w s=>sq s (mv (t rfl)) rfl fun a w s=>sq s (ix (t rfl) (t rfl) hx7) rfl fun a w s=>sq s (fa (f:=Step.Strokes) (t rfl)) rfl fun a w s=>sq s (ld (t rfl)) rfl fun a w s=>sq s (ln (t rfl)) rfl fun a w s=>sq s (lt (t rfl) (t rfl)) rfl fun a w s=>nl ?_))
    refine cm s rfl hm (fun hb hm=>?_) (fun hb hm=>?_)
    ·refine wpIn_skip ?_
     refine se ?_
     refine wpIn_block ?_
     obtain ⟨x8,hx8,hm⟩:=bs hm
     obtain ⟨x9,hx9,hm⟩:=bs hm
     refine flow s (m:=14) (.cons (.cons (.cons (.cons (.cons (.cons (.cons (.cons (.cons (.cons (.cons (.cons (.cons (.cons .nil rfl (fm_ (off:=0) (m:=0) (q:=0) (t rfl) (by kernel_rfl) rfl)) rfl (lf (K:=1001) (f:=Sequence.Actuators) (t rfl) rfl)) rfl (mv (t rfl))) rfl (mv (t rfl))) rfl (ix (t rfl) (t rfl) hx8)) rfl (fa (f:=Step.Strokes) (t rfl))) rfl (ld (t rfl))) rfl (mv (t rfl))) rfl (ix (t rfl) (t rfl) hx9)) rfl (fa (f:=Stroke.Actuator) (t rfl))) rfl (ld (t rfl))) rfl (ad (t rfl) ci)) rfl (mx (t rfl) (t rfl))) rfl (fm_ (off:=0) (m:=0) (q:=0) (t rfl) (by kernel_rfl) rfl)) (by kernel_rfl) rfl rfl fun a w s=>sf (γ:=Sequence) (K:=1001) s (t rfl) rfl (t rfl) fun w s=>nl ?_
     refine rg (sq s (mv (t rfl)) rfl fun a w s=>sq s (ad (t rfl) ci) rfl fun a w s=>sq s (sa (t rfl)) rfl fun a w s=>nl ?_)
     exact ⟨_,hm,s.pick [0,2,3,4,5,1000,1001]⟩
    ·refine wpIn_exit ?_
     obtain rfl:=si hm
     exact s.pick [0,2,3,4,5,1000,1001]
   ·replace hm:=hko6
    refine rg (sq s (mv (t rfl)) rfl fun a w s=>sq s (ad (t rfl) ci) rfl fun a w s=>sq s (sa (t rfl)) rfl fun a w s=>nl ?_)
    exact ⟨_,hm,s.pick [0,2,3,4,1000,1001]⟩
  ·refine wpIn_exit ?_
   obtain rfl:=si hm
   exact s.pick [0,2,3,4,1000,1001]
 ·replace hm:=hko4
  refine se (rg (sq s (lm (K:=1001) (t rfl) rfl) rfl fun a w s=>swd (K:=1000) s (t rfl) rfl (t rfl) rfl fun w s=>nl ?_))
  obtain rfl:=si hm
  refine wpIn_ret ?_
  exact rn hD s rfl (rv1 (rc (K:=1000) rfl rfl))
def m197_l1 (v0:Step) (v1:List Bool):Nat→Int→Option (Lo (Int) (Bool))
 | 0,_=>none
 | n+1,z1=>(bif (decide (z1 < (((v0).Strokes).length:Int))) then (idx ((v0).Strokes) z1).bind fun x3=>(bif (decide ((x3).Actuator≥(v1.length:Int))) then some true else (idx v1 ((x3).Actuator)).bind fun x5=>some (x5 == (x3).Out)).bind fun r6=>(bif r6 then some (.ret false) else m197_l1 v0 v1 n (wr (z1 + (1:Int)))) else some (.brk z1))
def m197 (f:Nat) (v0:Step) (v1:List Bool):Option (Bool):=((m197_l1 v0 v1 f (0:Int)).bind fun o2=>match o2 with | .brk o2s=>some true | .ret r=>some r)
set_option maxRecDepth 100000 in
theorem s197 (f:Nat) (v0:Step) (v1:List Bool) (r:Bool) (hm:m197 f v0 v1=some r):Sp Tryz.prog 197 [Va (v0),Va (v1)] (Va (r)):=by
 unfold m197 at hm
 refine ens Tryz.func197 (by kernel_rfl) rfl Tryz.ntmps197 rfl rfl fun M w_0 a hM hD s=>?_
 refine se (rg (sq s (bx (t rfl)) rfl fun a w s=>sq s (sa cb) rfl fun a w s=>nl ?_))
 refine se ?_
 refine se (rg (sq s (sa ci) rfl fun a w s=>nl ?_))
 obtain ⟨o2,hoo2,hko2⟩:=bs hm
 refine lcI o2 (fun o2s a w=>St M w_0 34 [(0,Va (v0)),(1,Va (v1)),(2,Pt (v0)),(4,Va (false)),(5,Va (o2s))] a w) ?_ fun o2s a w ho s=>?_
 ·refine wpIn_block ?_
  refine loI (fun n z1=>m197_l1 v0 v1 n z1) o2 (fun z1 a w=>St M w_0 34 [(0,Va (v0)),(1,Va (v1)),(2,Pt (v0)),(4,Va (false)),(5,Va (z1))] a w) f (0:Int) (s.pick [0,1,2,4,5]) hoo2 (fun _=>rfl) fun n z1 a w hm s=>?_
  replace hm:m197_l1 v0 v1 (n + 1) z1=some o2:=hm
  unfold m197_l1 at hm
  refine se ?_
  refine se (rg (sq s (mv (t rfl)) rfl fun a w s=>sq s (fa (f:=Step.Strokes) (t rfl)) rfl fun a w s=>sq s (ld (t rfl)) rfl fun a w s=>sq s (ln (t rfl)) rfl fun a w s=>sq s (lt (t rfl) (t rfl)) rfl fun a w s=>nl ?_))
  refine cm s rfl hm (fun hb hm=>?_) (fun hb hm=>?_)
  ·refine wpIn_skip ?_
   refine se ?_
   refine wpIn_block ?_
   obtain ⟨x3,hx3,hm⟩:=bs hm
   refine se (rg (sq s (fa (f:=Step.Strokes) (t rfl)) rfl fun a w s=>sq s (ld (t rfl)) rfl fun a w s=>sq s (mv (t rfl)) rfl fun a w s=>sq s (ix (t rfl) (t rfl) hx3) rfl fun a w s=>sq s (ld (t rfl)) rfl fun a w s=>sqb 1000 s (al (z:=(⟨(0:Int),false⟩:Stroke))) rfl rfl fun b4 a w s=>sw (K:=1000) s (t rfl) rfl (t rfl) rfl fun w s=>nl ?_))
   obtain ⟨r6,hr6,hm⟩:=bs hm
   have gr6:=gF hr6
   have er6:=gT hr6
   obtain ⟨x5,hx5,gr6⟩:=gx gr6
   refine se (flow s (m:=15) (.cons (.cong (.cong (.cong (.cong (.cong (.cong (.cong (.cong (.cons (.cons (.cons (.cons (.cons (.cons .nil rfl (fm_ (off:=0) (m:=0) (q:=0) (t rfl) (by kernel_rfl) rfl)) rfl (lf (K:=1000) (f:=Stroke.Actuator) (t rfl) rfl)) rfl (mv (t rfl))) rfl (ln (t rfl))) rfl (ge (t rfl) (t rfl))) rfl (mv (t rfl))) rfl rfl rfl (fun hb=>(mv (t rfl)))) rfl rfl rfl (fun hb=>(fm_ (off:=0) (m:=0) (q:=0) (t rfl) (by kernel_rfl) rfl))) rfl rfl rfl (fun hb=>(lf (K:=1000) (f:=Stroke.Actuator) (tg rfl hb) rfl))) rfl rfl rfl (fun hb=>(ix (tg rfl hb) (tg rfl hb) (hx5 hb)))) rfl rfl rfl (fun hb=>(ld (tg rfl hb)))) rfl rfl rfl (fun hb=>(fm_ (off:=1) (m:=0) (q:=1) (t rfl) (by kernel_rfl) rfl))) rfl rfl rfl (fun hb=>(lf (K:=1000) (f:=Stroke.Out) (tg rfl hb) rfl))) rfl rfl rfl (fun hb=>(beq (tg rfl hb) (tg rfl hb) Tryz.underlying4))) rfl (po (t rfl) rfl (fun h=>si (gr6 h)) (fun h=>(si (er6 h)).symm))) (by kernel_rfl) rfl rfl fun a w s=>nl ?_)
   refine cm s rfl hm (fun hb hm=>?_) (fun hb hm=>?_)
   ·refine se (rg (sq s (sa cb) rfl fun a w s=>nl ?_))
    obtain rfl:=si hm
    replace hm:=hko2
    dsimp only at hm
    obtain rfl:=si hm
    refine wpIn_ret ?_
    exact rn hD s rfl (rv1 (rt rfl))
   ·refine wpIn_skip ?_
    refine rg (sq s (mv (t rfl)) rfl fun a w s=>sq s (ad (t rfl) ci) rfl fun a w s=>sq s (sa (t rfl)) rfl fun a w s=>nl ?_)
    exact ⟨_,hm,s.pick [0,1,2,4,5]⟩
  ·refine wpIn_exit ?_
   exact ⟨_,(si hm).symm,s.pick [0,1,2,4,5]⟩
 ·subst ho
  replace hm:=hko2
  dsimp only at hm
  refine se (rg (sq s (sa cb) rfl fun a w s=>nl ?_))
  obtain rfl:=si hm
  refine wpIn_ret ?_
  exact rn hD s rfl (rv1 (rt rfl))
def m198_l1 (v0:Step):Nat→(Int×(List Bool))→Option (Int×(List Bool))
 | 0,_=>none
 | n+1,z4=>(bif (decide (z4.1 < (((v0).Strokes).length:Int))) then (idx ((v0).Strokes) z4.1).bind fun x6=>(idx ((v0).Strokes) z4.1).bind fun x7=>(idx z4.2 ((x6).Actuator)).bind fun x8=>m198_l1 v0 n ((wr (z4.1 + (1:Int))),(z4.2.set ((x6).Actuator).toNat ((x7).Out))) else some (z4.1,z4.2))
def m198 (f:Nat) (v0:Step) (v1:List Bool):Option ((List Bool)):=(app ([]:List Bool) v1).bind fun x2=>(m198_l1 v0 f ((0:Int),x2)).bind fun o5s=>some o5s.2
set_option maxRecDepth 100000 in
theorem s198 (f:Nat) (v0:Step) (v1:List Bool) (r:(List Bool)) (hm:m198 f v0 v1=some r):Sp Tryz.prog 198 [Va (v0),Va (v1)] (Va (r)):=by
 unfold m198 at hm
 refine ens Tryz.func198 (by kernel_rfl) rfl Tryz.ntmps198 rfl rfl fun M w_0 a hM hD s=>?_
 refine se (rg (sq s (bx (t rfl)) rfl fun a w s=>sq s (saq cq) rfl fun a w s=>nl ?_))
 obtain ⟨x2,hx2,hm⟩:=bs hm
 refine se (rg (sqo 1000 s (bso (o0 (α:=Bool)) rfl rfl (by kernel_rfl)) rfl rfl fun c1 a w s=>sq s (mv (t rfl)) rfl fun a w s=>apd (α:=Bool) (k:=1000) s (t rfl) rfl (t rfl) hx2 rfl rfl fun c3 a w s=>sq s (saq (t rfl)) rfl fun a w s=>nl ?_))
 refine se ?_
 refine se (rg (sq s (sa ci) rfl fun a w s=>nl ?_))
 obtain ⟨o5s,hoo5,hko5⟩:=bs hm
 refine cpI (fun a w=>St M w_0 32 [(0,Va (v0)),(1,Va (v1)),(2,Pt (v0)),(4,Qv (.slice none 0 0)),(5,Qv c3),(6,Va (o5s.1)),(1000,Ow 4 c3 (o5s.2))] a w) ?_ fun a w s=>?_
 ·refine wpIn_block ?_
  refine loI (fun n z4=>m198_l1 v0 n z4) o5s (fun z4 a w=>St M w_0 32 [(0,Va (v0)),(1,Va (v1)),(2,Pt (v0)),(4,Qv (.slice none 0 0)),(5,Qv c3),(6,Va (z4.1)),(1000,Ow 4 c3 (z4.2))] a w) f ((0:Int),x2) (s.pick [0,1,2,4,5,6,1000]) hoo5 (fun _=>rfl) fun n z4 a w hm s=>?_
  replace hm:m198_l1 v0 (n + 1) z4=some o5s:=hm
  unfold m198_l1 at hm
  refine se ?_
  refine se (rg (sq s (mv (t rfl)) rfl fun a w s=>sq s (fa (f:=Step.Strokes) (t rfl)) rfl fun a w s=>sq s (ld (t rfl)) rfl fun a w s=>sq s (ln (t rfl)) rfl fun a w s=>sq s (lt (t rfl) (t rfl)) rfl fun a w s=>nl ?_))
  refine cm s rfl hm (fun hb hm=>?_) (fun hb hm=>?_)
  ·refine wpIn_skip ?_
   refine se ?_
   refine wpIn_block ?_
   obtain ⟨x6,hx6,hm⟩:=bs hm
   obtain ⟨x7,hx7,hm⟩:=bs hm
   obtain ⟨x8,hx8,hm⟩:=bs hm
   refine flow s (m:=14) (.cons (.cons (.cons (.cons (.cons (.cons (.cons (.cons (.cons (.cons (.cons (.cons (.cons (.cons .nil rfl (mvq (t rfl))) rfl (fa (f:=Step.Strokes) (t rfl))) rfl (ld (t rfl))) rfl (mv (t rfl))) rfl (ix (t rfl) (t rfl) hx6)) rfl (fa (f:=Stroke.Actuator) (t rfl))) rfl (ld (t rfl))) rfl (fa (f:=Step.Strokes) (t rfl))) rfl (ld (t rfl))) rfl (mv (t rfl))) rfl (ix (t rfl) (t rfl) hx7)) rfl (fa (f:=Stroke.Out) (t rfl))) rfl (ld (t rfl))) rfl (ixq (α:=Bool) (k:=1000) (t rfl) rfl (t rfl) hx8)) (by kernel_rfl) rfl rfl fun a w s=>stq (k:=1000) s (t rfl) rfl (idxg hx8) (t rfl) fun w s=>nl ?_
   refine rg (sq s (mv (t rfl)) rfl fun a w s=>sq s (ad (t rfl) ci) rfl fun a w s=>sq s (sa (t rfl)) rfl fun a w s=>nl ?_)
   exact ⟨_,hm,s.pick [0,1,2,4,5,6,1000]⟩
  ·refine wpIn_exit ?_
   obtain rfl:=si hm
   exact s.pick [0,1,2,4,5,6,1000]
 ·replace hm:=hko5
  refine se (rg (sq s (mvq (t rfl)) rfl fun a w s=>sq s (saq (t rfl)) rfl fun a w s=>nl ?_))
  obtain rfl:=si hm
  refine fzk (α:=Bool) (k:=1000) hM s rfl fun s=>?_
  refine wpIn_ret ?_
  exact rn hD s rfl (rv1 (ro (ta (k:=1000) (t rfl) rfl)))
def m130_l3 (v0:Sequence) (o4s:(List Bool)×Int):Nat→Int→Option (Lo (Int) (Int))
 | 0,_=>none
 | n+1,z13=>(bif (decide (z13 < (v0).Actuators)) then (idx o4s.1 z13).bind fun x15=>(bif x15 then some (.ret (9:Int)) else m130_l3 v0 o4s n (wr (z13 + (1:Int)))) else some (.brk z13))
def m130_l2 (v0:Sequence) (x5:Step):Nat→Int→Option (Lo (Int) (Int))
 | 0,_=>none
 | n+1,z8=>(bif (decide (z8 < (((x5).Strokes).length:Int))) then (idx ((x5).Strokes) z8).bind fun x10=>(bif (decide ((x10).Actuator≥(v0).Actuators)) then some (.ret (6:Int)) else m130_l2 v0 x5 n (wr (z8 + (1:Int)))) else some (.brk z8))
def m130_l1 (f:Nat) (v0:Sequence):Nat→((List Bool)×Int)→Option (Lo ((List Bool)×Int) (Int))
 | 0,_=>none
 | n+1,z3=>(bif (decide (z3.2 < (((v0).Steps).length:Int))) then (idx ((v0).Steps) z3.2).bind fun x5=>(m196 f x5).bind fun x7=>(bif (x7 != (0:Int)) then some (.ret x7) else ((m130_l2 v0 x5 f (0:Int)).bind fun o9=>match o9 with | .brk o9s=>(m197 f x5 z3.1).bind fun x11=>(bif (!x11) then some (.ret (14:Int)) else (m198 f x5 z3.1).bind fun x12=>m130_l1 f v0 n (x12,(wr (z3.2 + (1:Int))))) | .ret r=>some (.ret r))) else some (.brk (z3.1,z3.2)))
def m130 (f:Nat) (v0:Sequence):Option (Int):=(mks false ((v0).Actuators)).bind fun x1=>((m130_l1 f v0 f (x1,(0:Int))).bind fun o4=>match o4 with | .brk o4s=>((m130_l3 v0 o4s f (0:Int)).bind fun o14=>match o14 with | .brk o14s=>some (0:Int) | .ret r=>some r) | .ret r=>some r)
set_option maxRecDepth 100000 in
set_option maxHeartbeats 2000000 in
theorem s130 (f:Nat) (v0:Sequence) (r:Int) (hm:m130 f v0=some r):Sp Tryz.prog 130 [Va (v0)] (Va (r)):=by
 unfold m130 at hm
 refine ens Tryz.func130 (by kernel_rfl) rfl Tryz.ntmps130 rfl rfl fun M w_0 a hM hD s=>?_
 refine se (rg (sq s (bx (t rfl)) rfl fun a w s=>sq s (sa ci) rfl fun a w s=>nl ?_))
 obtain ⟨x1,hx1,hm⟩:=bs hm
 refine se (rg (sq s (fa (f:=Sequence.Actuators) (t rfl)) rfl fun a w s=>sq s (ld (t rfl)) rfl fun a w s=>sqo 1000 s (mkS (t rfl) (t rfl) hx1) rfl rfl fun c2 a w s=>sq s (saq (t rfl)) rfl fun a w s=>nl ?_))
 refine se ?_
 refine se (rg (sq s (sa ci) rfl fun a w s=>nl ?_))
 refine fzk (α:=Bool) (k:=1000) hM s rfl fun s=>?_
 replace s:=tv (d:=3) s (ta (k:=1000) (t rfl) rfl)
 obtain ⟨o4,hoo4,hko4⟩:=bs hm
 refine lcI o4 (fun o4s a w=>St M w_0 62 [(0,Va (v0)),(1,Pt (v0)),(2,Va ((0:Int))),(3,Va (o4s.1)),(4,Va (o4s.2))] a w) ?_ fun o4s a w ho s=>?_
 ·refine wpIn_block ?_
  refine loI (fun n z3=>m130_l1 f v0 n z3) o4 (fun z3 a w=>St M w_0 62 [(0,Va (v0)),(1,Pt (v0)),(2,Va ((0:Int))),(3,Va (z3.1)),(4,Va (z3.2))] a w) f (x1,(0:Int)) (s.pick [0,1,2,3,4]) hoo4 (fun _=>rfl) fun n z3 a w hm s=>?_
  replace hm:m130_l1 f v0 (n + 1) z3=some o4:=hm
  unfold m130_l1 at hm
  refine se ?_
  refine se (rg (sq s (mv (t rfl)) rfl fun a w s=>sq s (fa (f:=Sequence.Steps) (t rfl)) rfl fun a w s=>sq s (ld (t rfl)) rfl fun a w s=>sq s (ln (t rfl)) rfl fun a w s=>sq s (lt (t rfl) (t rfl)) rfl fun a w s=>nl ?_))
  refine cm s rfl hm (fun hb hm=>?_) (fun hb hm=>?_)
  ·refine wpIn_skip ?_
   refine se ?_
   refine wpIn_block ?_
   obtain ⟨x5,hx5,hm⟩:=bs hm
   refine se (rg (sq s (fa (f:=Sequence.Steps) (t rfl)) rfl fun a w s=>sq s (ld (t rfl)) rfl fun a w s=>sq s (mv (t rfl)) rfl fun a w s=>sq s (ix (t rfl) (t rfl) hx5) rfl fun a w s=>sq s (ld (t rfl)) rfl fun a w s=>sqr 1001 s (alr (cs:=[(.slice none 0 0),(.int .i64 (0:Int))]) (z:=.agg #[(.slice none 0 0),(.int .i64 (0:Int))]) (by kernel_rfl) rfl rfl) rfl rfl fun b6 a w s=>swd (K:=1001) s (t rfl) rfl (t rfl) rfl fun w s=>nl ?_))
   refine se ?_
   obtain ⟨x7,hx7,hm⟩:=bs hm
   refine se (rg (sq s (lm (K:=1001) (t rfl) rfl) rfl fun a w s=>sq s (cc rfl (oc (t rfl) on) (s196 f _ _ hx7)) rfl fun a w s=>sq s (sa (t rfl)) rfl fun a w s=>nl ?_))
   refine se (rg (sq s (mv (t rfl)) rfl fun a w s=>sq s (ne (t rfl) ci) rfl fun a w s=>nl ?_))
   refine cm s rfl hm (fun hb hm=>?_) (fun hb hm=>?_)
   ·refine se (rg (sq s (mv (t rfl)) rfl fun a w s=>sq s (sa (t rfl)) rfl fun a w s=>nl ?_))
    obtain rfl:=si hm
    replace hm:=hko4
    dsimp only at hm
    obtain rfl:=si hm
    refine wpIn_ret ?_
    exact rn hD s rfl (rv1 (rt rfl))
   ·refine wpIn_skip ?_
    refine se ?_
    refine se (rg (sq s (sa ci) rfl fun a w s=>nl ?_))
    obtain ⟨o9,hoo9,hko9⟩:=bs hm
    refine lcI o9 (fun o9s a w=>St M w_0 62 [(0,Va (v0)),(1,Pt (v0)),(2,Va ((0:Int))),(3,Va (z3.1)),(4,Va (z3.2)),(5,Qv (pb b6 0)),(6,Va (x7)),(7,Va (o9s)),(1001,Mg b6 (x5))] a w) ?_ fun o9s a w ho s=>?_
    ·refine wpIn_block ?_
     refine loI (fun n z8=>m130_l2 v0 x5 n z8) o9 (fun z8 a w=>St M w_0 62 [(0,Va (v0)),(1,Pt (v0)),(2,Va ((0:Int))),(3,Va (z3.1)),(4,Va (z3.2)),(5,Qv (pb b6 0)),(6,Va (x7)),(7,Va (z8)),(1001,Mg b6 (x5))] a w) f (0:Int) (s.pick [0,1,2,3,4,5,6,7,1001]) hoo9 (fun _=>rfl) fun n z8 a w hm s=>?_
     replace hm:m130_l2 v0 x5 (n + 1) z8=some o9:=hm
     unfold m130_l2 at hm
     refine se ?_
     refine se (rg (sq s (mv (t rfl)) rfl fun a w s=>sq s (fm_ (off:=0) (m:=0) (q:=0) (t rfl) (by kernel_rfl) rfl) rfl fun a w s=>sq s (lf (K:=1001) (f:=Step.Strokes) (t rfl) rfl) rfl fun a w s=>sq s (ln (t rfl)) rfl fun a w s=>sq s (lt (t rfl) (t rfl)) rfl fun a w s=>nl ?_))
     refine cm s rfl hm (fun hb hm=>?_) (fun hb hm=>?_)
     ·refine wpIn_skip ?_
      refine se ?_
      refine wpIn_block ?_
      obtain ⟨x10,hx10,hm⟩:=bs hm
      refine se (flow s (m:=9) (.cons (.cons (.cons (.cons (.cons (.cons (.cons (.cons (.cons .nil rfl (fm_ (off:=0) (m:=0) (q:=0) (t rfl) (by kernel_rfl) rfl)) rfl (lf (K:=1001) (f:=Step.Strokes) (t rfl) rfl)) rfl (mv (t rfl))) rfl (ix (t rfl) (t rfl) hx10)) rfl (fa (f:=Stroke.Actuator) (t rfl))) rfl (ld (t rfl))) rfl (fa (f:=Sequence.Actuators) (t rfl))) rfl (ld (t rfl))) rfl (ge (t rfl) (t rfl))) (by kernel_rfl) rfl rfl fun a w s=>nl ?_)
      refine cm s rfl hm (fun hb hm=>?_) (fun hb hm=>?_)
      ·refine se (rg (sq s (sa ci) rfl fun a w s=>nl ?_))
       obtain rfl:=si hm
       replace hm:=hko9
       dsimp only at hm
       obtain rfl:=si hm
       replace hm:=hko4
       dsimp only at hm
       obtain rfl:=si hm
       refine wpIn_ret ?_
       exact rn hD s rfl (rv1 (rt rfl))
      ·refine wpIn_skip ?_
       refine rg (sq s (mv (t rfl)) rfl fun a w s=>sq s (ad (t rfl) ci) rfl fun a w s=>sq s (sa (t rfl)) rfl fun a w s=>nl ?_)
       exact ⟨_,hm,s.pick [0,1,2,3,4,5,6,7,1001]⟩
     ·refine wpIn_exit ?_
      exact ⟨_,(si hm).symm,s.pick [0,1,2,3,4,5,6,7,1001]⟩
    ·subst ho
     replace hm:=hko9
     dsimp only at hm
     refine se ?_
     obtain ⟨x11,hx11,hm⟩:=bs hm
     refine se (rg (sq s (lm (K:=1001) (t rfl) rfl) rfl fun a w s=>sq s (mv (t rfl)) rfl fun a w s=>sq s (cc rfl (oc (t rfl) (oc (t rfl) on)) (s197 f _ _ _ hx11)) rfl fun a w s=>sq s (nt (t rfl)) rfl fun a w s=>nl ?_))
     refine cm s rfl hm (fun hb hm=>?_) (fun hb hm=>?_)
     ·refine se (rg (sq s (sa ci) rfl fun a w s=>nl ?_))
      obtain rfl:=si hm
      replace hm:=hko4
      dsimp only at hm
      obtain rfl:=si hm
      refine wpIn_ret ?_
      exact rn hD s rfl (rv1 (rt rfl))
     ·refine wpIn_skip ?_
      obtain ⟨x12,hx12,hm⟩:=bs hm
      refine rg (sq s (lm (K:=1001) (t rfl) rfl) rfl fun a w s=>sq s (mv (t rfl)) rfl fun a w s=>sq s (cc rfl (oc (t rfl) (oc (t rfl) on)) (s198 f _ _ _ hx12)) rfl fun a w s=>sq s (sa (t rfl)) rfl fun a w s=>nl ?_)
      refine rg (sq s (mv (t rfl)) rfl fun a w s=>sq s (ad (t rfl) ci) rfl fun a w s=>sq s (sa (t rfl)) rfl fun a w s=>nl ?_)
      exact ⟨_,hm,s.pick [0,1,2,3,4]⟩
  ·refine wpIn_exit ?_
   exact ⟨_,(si hm).symm,s.pick [0,1,2,3,4]⟩
 ·subst ho
  replace hm:=hko4
  dsimp only at hm
  refine se ?_
  refine se (rg (sq s (sa ci) rfl fun a w s=>nl ?_))
  obtain ⟨o14,hoo14,hko14⟩:=bs hm
  refine lcI o14 (fun o14s a w=>St M w_0 62 [(0,Va (v0)),(1,Pt (v0)),(2,Va ((0:Int))),(3,Va (o4s.1)),(4,Va (o4s.2)),(8,Va (o14s))] a w) ?_ fun o14s a w ho s=>?_
  ·refine wpIn_block ?_
   refine loI (fun n z13=>m130_l3 v0 o4s n z13) o14 (fun z13 a w=>St M w_0 62 [(0,Va (v0)),(1,Pt (v0)),(2,Va ((0:Int))),(3,Va (o4s.1)),(4,Va (o4s.2)),(8,Va (z13))] a w) f (0:Int) (s.pick [0,1,2,3,4,8]) hoo14 (fun _=>rfl) fun n z13 a w hm s=>?_
   replace hm:m130_l3 v0 o4s (n + 1) z13=some o14:=hm
   unfold m130_l3 at hm
   refine se ?_
   refine se (rg (sq s (mv (t rfl)) rfl fun a w s=>sq s (fa (f:=Sequence.Actuators) (t rfl)) rfl fun a w s=>sq s (ld (t rfl)) rfl fun a w s=>sq s (lt (t rfl) (t rfl)) rfl fun a w s=>nl ?_))
   refine cm s rfl hm (fun hb hm=>?_) (fun hb hm=>?_)
   ·refine wpIn_skip ?_
    refine se ?_
    refine wpIn_block ?_
    obtain ⟨x15,hx15,hm⟩:=bs hm
    refine se (rg (sq s (mv (t rfl)) rfl fun a w s=>sq s (mv (t rfl)) rfl fun a w s=>sq s (ix (t rfl) (t rfl) hx15) rfl fun a w s=>sq s (ld (t rfl)) rfl fun a w s=>nl ?_))
    refine cm s rfl hm (fun hb hm=>?_) (fun hb hm=>?_)
    ·refine se (rg (sq s (sa ci) rfl fun a w s=>nl ?_))
     obtain rfl:=si hm
     replace hm:=hko14
     dsimp only at hm
     obtain rfl:=si hm
     refine wpIn_ret ?_
     exact rn hD s rfl (rv1 (rt rfl))
    ·refine wpIn_skip ?_
     refine rg (sq s (mv (t rfl)) rfl fun a w s=>sq s (ad (t rfl) ci) rfl fun a w s=>sq s (sa (t rfl)) rfl fun a w s=>nl ?_)
     exact ⟨_,hm,s.pick [0,1,2,3,4,8]⟩
   ·refine wpIn_exit ?_
    exact ⟨_,(si hm).symm,s.pick [0,1,2,3,4,8]⟩
  ·subst ho
   replace hm:=hko14
   dsimp only at hm
   refine se (rg (sq s (sa ci) rfl fun a w s=>nl ?_))
   obtain rfl:=si hm
   refine wpIn_ret ?_
   exact rn hD s rfl (rv1 (rt rfl))
def m199_l1 (v0:Step) (v1:Int):Nat→Int→Option (Lo (Int) (Int))
 | 0,_=>none
 | n+1,z1=>(bif (decide (z1 < (((v0).Strokes).length:Int))) then (idx ((v0).Strokes) z1).bind fun x3=>(bif ((x3).Actuator == v1) then (idx ((v0).Strokes) z1).bind fun x4=>(bif (x4).Out then some (.ret (1:Int)) else some (.ret (-1:Int))) else m199_l1 v0 v1 n (wr (z1 + (1:Int)))) else some (.brk z1))
def m199 (f:Nat) (v0:Step) (v1:Int):Option (Int):=((m199_l1 v0 v1 f (0:Int)).bind fun o2=>match o2 with | .brk o2s=>some (0:Int) | .ret r=>some r)
set_option maxRecDepth 100000 in
theorem s199 (f:Nat) (v0:Step) (v1:Int) (r:Int) (hm:m199 f v0 v1=some r):Sp Tryz.prog 199 [Va (v0),Va (v1)] (Va (r)):=by
 unfold m199 at hm
 refine ens Tryz.func199 (by kernel_rfl) rfl Tryz.ntmps199 rfl rfl fun M w_0 a hM hD s=>?_
 refine se (rg (sq s (bx (t rfl)) rfl fun a w s=>sq s (sa ci) rfl fun a w s=>nl ?_))
 refine se ?_
 refine se (rg (sq s (sa ci) rfl fun a w s=>nl ?_))
 obtain ⟨o2,hoo2,hko2⟩:=bs hm
 refine lcI o2 (fun o2s a w=>St M w_0 27 [(0,Va (v0)),(1,Va (v1)),(2,Pt (v0)),(4,Va ((0:Int))),(5,Va (o2s))] a w) ?_ fun o2s a w ho s=>?_
 ·refine wpIn_block ?_
  refine loI (fun n z1=>m199_l1 v0 v1 n z1) o2 (fun z1 a w=>St M w_0 27 [(0,Va (v0)),(1,Va (v1)),(2,Pt (v0)),(4,Va ((0:Int))),(5,Va (z1))] a w) f (0:Int) (s.pick [0,1,2,4,5]) hoo2 (fun _=>rfl) fun n z1 a w hm s=>?_
  replace hm:m199_l1 v0 v1 (n + 1) z1=some o2:=hm
  unfold m199_l1 at hm
  refine se ?_
  refine se (rg (sq s (mv (t rfl)) rfl fun a w s=>sq s (fa (f:=Step.Strokes) (t rfl)) rfl fun a w s=>sq s (ld (t rfl)) rfl fun a w s=>sq s (ln (t rfl)) rfl fun a w s=>sq s (lt (t rfl) (t rfl)) rfl fun a w s=>nl ?_))
  refine cm s rfl hm (fun hb hm=>?_) (fun hb hm=>?_)
  ·refine wpIn_skip ?_
   refine se ?_
   refine wpIn_block ?_
   obtain ⟨x3,hx3,hm⟩:=bs hm
   refine se (rg (sq s (fa (f:=Step.Strokes) (t rfl)) rfl fun a w s=>sq s (ld (t rfl)) rfl fun a w s=>sq s (mv (t rfl)) rfl fun a w s=>sq s (ix (t rfl) (t rfl) hx3) rfl fun a w s=>sq s (fa (f:=Stroke.Actuator) (t rfl)) rfl fun a w s=>sq s (ld (t rfl)) rfl fun a w s=>sq s (mv (t rfl)) rfl fun a w s=>sq s (eq (t rfl) (t rfl)) rfl fun a w s=>nl ?_))
   refine cm s rfl hm (fun hb hm=>?_) (fun hb hm=>?_)
   ·refine se ?_
    obtain ⟨x4,hx4,hm⟩:=bs hm
    refine se (rg (sq s (fa (f:=Step.Strokes) (t rfl)) rfl fun a w s=>sq s (ld (t rfl)) rfl fun a w s=>sq s (mv (t rfl)) rfl fun a w s=>sq s (ix (t rfl) (t rfl) hx4) rfl fun a w s=>sq s (fa (f:=Stroke.Out) (t rfl)) rfl fun a w s=>sq s (ld (t rfl)) rfl fun a w s=>nl ?_))
    refine cm s rfl hm (fun hb hm=>?_) (fun hb hm=>?_)
    ·refine se (rg (sq s (sa ci) rfl fun a w s=>nl ?_))
     obtain rfl:=si hm
     replace hm:=hko2
     dsimp only at hm
     obtain rfl:=si hm
     refine wpIn_ret ?_
     exact rn hD s rfl (rv1 (rt rfl))
    ·refine wpIn_skip ?_
     refine se (rg (sq s (sa ci) rfl fun a w s=>nl ?_))
     obtain rfl:=si hm
     replace hm:=hko2
     dsimp only at hm
     obtain rfl:=si hm
     refine wpIn_ret ?_
     exact rn hD s rfl (rv1 (rt rfl))
   ·refine wpIn_skip ?_
    refine rg (sq s (mv (t rfl)) rfl fun a w s=>sq s (ad (t rfl) ci) rfl fun a w s=>sq s (sa (t rfl)) rfl fun a w s=>nl ?_)
    exact ⟨_,hm,s.pick [0,1,2,4,5]⟩
  ·refine wpIn_exit ?_
   exact ⟨_,(si hm).symm,s.pick [0,1,2,4,5]⟩
 ·subst ho
  replace hm:=hko2
  dsimp only at hm
  refine se (rg (sq s (sa ci) rfl fun a w s=>nl ?_))
  obtain rfl:=si hm
  refine wpIn_ret ?_
  exact rn hD s rfl (rv1 (rt rfl))
def m131_l1 (f:Nat) (v0:Sequence) (v1:Int):Nat→Int→Option (Lo (Int) (Bool))
 | 0,_=>none
 | n+1,z1=>(bif (decide (z1 < (((v0).Steps).length:Int))) then (idx ((v0).Steps) z1).bind fun x3=>(m199 f x3 v1).bind fun x4=>(bif (x4 != (0:Int)) then some (.ret true) else m131_l1 f v0 v1 n (wr (z1 + (1:Int)))) else some (.brk z1))
def m131 (f:Nat) (v0:Sequence) (v1:Int):Option (Bool):=((m131_l1 f v0 v1 f (0:Int)).bind fun o2=>match o2 with | .brk o2s=>some false | .ret r=>some r)
set_option maxRecDepth 100000 in
theorem s131 (f:Nat) (v0:Sequence) (v1:Int) (r:Bool) (hm:m131 f v0 v1=some r):Sp Tryz.prog 131 [Va (v0),Va (v1)] (Va (r)):=by
 unfold m131 at hm
 refine ens Tryz.func131 (by kernel_rfl) rfl Tryz.ntmps131 rfl rfl fun M w_0 a hM hD s=>?_
 refine se (rg (sq s (bx (t rfl)) rfl fun a w s=>sq s (sa cb) rfl fun a w s=>nl ?_))
 refine se ?_
 refine se (rg (sq s (sa ci) rfl fun a w s=>nl ?_))
 obtain ⟨o2,hoo2,hko2⟩:=bs hm
 refine lcI o2 (fun o2s a w=>St M w_0 21 [(0,Va (v0)),(1,Va (v1)),(2,Pt (v0)),(4,Va (false)),(5,Va (o2s))] a w) ?_ fun o2s a w ho s=>?_
 ·refine wpIn_block ?_
  refine loI (fun n z1=>m131_l1 f v0 v1 n z1) o2 (fun z1 a w=>St M w_0 21 [(0,Va (v0)),(1,Va (v1)),(2,Pt (v0)),(4,Va (false)),(5,Va (z1))] a w) f (0:Int) (s.pick [0,1,2,4,5]) hoo2 (fun _=>rfl) fun n z1 a w hm s=>?_
  replace hm:m131_l1 f v0 v1 (n + 1) z1=some o2:=hm
  unfold m131_l1 at hm
  refine se ?_
  refine se (rg (sq s (mv (t rfl)) rfl fun a w s=>sq s (fa (f:=Sequence.Steps) (t rfl)) rfl fun a w s=>sq s (ld (t rfl)) rfl fun a w s=>sq s (ln (t rfl)) rfl fun a w s=>sq s (lt (t rfl) (t rfl)) rfl fun a w s=>nl ?_))
  refine cm s rfl hm (fun hb hm=>?_) (fun hb hm=>?_)
  ·refine wpIn_skip ?_
   refine se ?_
   refine wpIn_block ?_
   obtain ⟨x3,hx3,hm⟩:=bs hm
   obtain ⟨x4,hx4,hm⟩:=bs hm
   refine se (rg (sq s (fa (f:=Sequence.Steps) (t rfl)) rfl fun a w s=>sq s (ld (t rfl)) rfl fun a w s=>sq s (mv (t rfl)) rfl fun a w s=>sq s (ix (t rfl) (t rfl) hx3) rfl fun a w s=>sq s (ld (t rfl)) rfl fun a w s=>sq s (mv (t rfl)) rfl fun a w s=>sq s (cc rfl (oc (t rfl) (oc (t rfl) on)) (s199 f _ _ _ hx4)) rfl fun a w s=>sq s (ne (t rfl) ci) rfl fun a w s=>nl ?_))
   refine cm s rfl hm (fun hb hm=>?_) (fun hb hm=>?_)
   ·refine se (rg (sq s (sa cb) rfl fun a w s=>nl ?_))
    obtain rfl:=si hm
    replace hm:=hko2
    dsimp only at hm
    obtain rfl:=si hm
    refine wpIn_ret ?_
    exact rn hD s rfl (rv1 (rt rfl))
   ·refine wpIn_skip ?_
    refine rg (sq s (mv (t rfl)) rfl fun a w s=>sq s (ad (t rfl) ci) rfl fun a w s=>sq s (sa (t rfl)) rfl fun a w s=>nl ?_)
    exact ⟨_,hm,s.pick [0,1,2,4,5]⟩
  ·refine wpIn_exit ?_
   exact ⟨_,(si hm).symm,s.pick [0,1,2,4,5]⟩
 ·subst ho
  replace hm:=hko2
  dsimp only at hm
  refine se (rg (sq s (sa cb) rfl fun a w s=>nl ?_))
  obtain rfl:=si hm
  refine wpIn_ret ?_
  exact rn hD s rfl (rv1 (rt rfl))
def m69_l1 (f:Nat) (v0:Sequence):Nat→Int→Option (Lo (Int) (Int))
 | 0,_=>none
 | n+1,z2=>(bif (decide (z2 < (v0).Actuators)) then (m131 f v0 z2).bind fun x4=>(bif (!x4) then some (.ret (13:Int)) else m69_l1 f v0 n (wr (z2 + (1:Int)))) else some (.brk z2))
def m69 (f:Nat) (v0:Sequence):Option (Int):=(bif ((decide ((v0).Actuators < (1:Int))) || (decide ((v0).Actuators > (6:Int)))) then some (2:Int) else (bif ((((v0).Steps).length:Int) == (0:Int)) then some (13:Int) else (bif (decide ((((v0).Steps).length:Int) > (64:Int))) then some (5:Int) else (m130 f v0).bind fun x1=>(bif (x1 != (0:Int)) then some x1 else ((m69_l1 f v0 f (0:Int)).bind fun o3=>match o3 with | .brk o3s=>some (0:Int) | .ret r=>some r)))))
set_option maxRecDepth 100000 in
theorem s69 (f:Nat) (v0:Sequence) (r:Int) (hm:m69 f v0=some r):Sp Tryz.prog 69 [Va (v0)] (Va (r)):=by
 unfold m69 at hm
 refine ens Tryz.func69 (by kernel_rfl) rfl Tryz.ntmps69 rfl rfl fun M w_0 a hM hD s=>?_
 refine se (rg (sq s (bx (t rfl)) rfl fun a w s=>sq s (sa ci) rfl fun a w s=>nl ?_))
 refine se ?_
 refine se (rg (sq s (fa (f:=Sequence.Actuators) (t rfl)) rfl fun a w s=>sq s (ld (t rfl)) rfl fun a w s=>sq s (lt (t rfl) ci) rfl fun a w s=>sq s (mv (t rfl)) rfl fun a w s=>sg s rfl rfl (fun hb=>(fa (f:=Sequence.Actuators) (t rfl))) rfl fun a w s=>sg s rfl rfl (fun hb=>(ld (tg rfl hb))) rfl fun a w s=>sg s rfl rfl (fun hb=>(gt (tg rfl hb) ci)) rfl fun a w s=>sq s (poP (t rfl) rfl) rfl fun a w s=>nl ?_))
 refine cm s rfl hm (fun hb hm=>?_) (fun hb hm=>?_)
 ·refine se (rg (sq s (sa ci) rfl fun a w s=>nl ?_))
  obtain rfl:=si hm
  refine wpIn_ret ?_
  exact rn hD s rfl (rv1 (rt rfl))
 ·refine wpIn_skip ?_
  refine se ?_
  refine se (rg (sq s (fa (f:=Sequence.Steps) (t rfl)) rfl fun a w s=>sq s (ld (t rfl)) rfl fun a w s=>sq s (ln (t rfl)) rfl fun a w s=>sq s (eq (t rfl) ci) rfl fun a w s=>nl ?_))
  refine cm s rfl hm (fun hb hm=>?_) (fun hb hm=>?_)
  ·refine se (rg (sq s (sa ci) rfl fun a w s=>nl ?_))
   obtain rfl:=si hm
   refine wpIn_ret ?_
   exact rn hD s rfl (rv1 (rt rfl))
  ·refine wpIn_skip ?_
   refine se ?_
   refine se (rg (sq s (fa (f:=Sequence.Steps) (t rfl)) rfl fun a w s=>sq s (ld (t rfl)) rfl fun a w s=>sq s (ln (t rfl)) rfl fun a w s=>sq s (gt (t rfl) ci) rfl fun a w s=>nl ?_))
   refine cm s rfl hm (fun hb hm=>?_) (fun hb hm=>?_)
   ·refine se (rg (sq s (sa ci) rfl fun a w s=>nl ?_))
    obtain rfl:=si hm
    refine wpIn_ret ?_
    exact rn hD s rfl (rv1 (rt rfl))
   ·refine wpIn_skip ?_
    refine se ?_
    obtain ⟨x1,hx1,hm⟩:=bs hm
    refine se (rg (sq s (ld (t rfl)) rfl fun a w s=>sq s (cc rfl (oc (t rfl) on) (s130 f _ _ hx1)) rfl fun a w s=>sq s (sa (t rfl)) rfl fun a w s=>nl ?_))
    refine se (rg (sq s (mv (t rfl)) rfl fun a w s=>sq s (ne (t rfl) ci) rfl fun a w s=>nl ?_))
    refine cm s rfl hm (fun hb hm=>?_) (fun hb hm=>?_)
    ·refine se (rg (sq s (mv (t rfl)) rfl fun a w s=>sq s (sa (t rfl)) rfl fun a w s=>nl ?_))
     obtain rfl:=si hm
     refine wpIn_ret ?_
     exact rn hD s rfl (rv1 (rt rfl))
    ·refine wpIn_skip ?_
     refine se ?_
     refine se (rg (sq s (sa ci) rfl fun a w s=>nl ?_))
     obtain ⟨o3,hoo3,hko3⟩:=bs hm
     refine lcI o3 (fun o3s a w=>St M w_0 36 [(0,Va (v0)),(1,Pt (v0)),(2,Va ((0:Int))),(3,Va (x1)),(4,Va (o3s))] a w) ?_ fun o3s a w ho s=>?_
     ·refine wpIn_block ?_
      refine loI (fun n z2=>m69_l1 f v0 n z2) o3 (fun z2 a w=>St M w_0 36 [(0,Va (v0)),(1,Pt (v0)),(2,Va ((0:Int))),(3,Va (x1)),(4,Va (z2))] a w) f (0:Int) (s.pick [0,1,2,3,4]) hoo3 (fun _=>rfl) fun n z2 a w hm s=>?_
      replace hm:m69_l1 f v0 (n + 1) z2=some o3:=hm
      unfold m69_l1 at hm
      refine se ?_
      refine se (rg (sq s (mv (t rfl)) rfl fun a w s=>sq s (fa (f:=Sequence.Actuators) (t rfl)) rfl fun a w s=>sq s (ld (t rfl)) rfl fun a w s=>sq s (lt (t rfl) (t rfl)) rfl fun a w s=>nl ?_))
      refine cm s rfl hm (fun hb hm=>?_) (fun hb hm=>?_)
      ·refine wpIn_skip ?_
       refine se ?_
       refine wpIn_block ?_
       obtain ⟨x4,hx4,hm⟩:=bs hm
       refine se (rg (sq s (ld (t rfl)) rfl fun a w s=>sq s (mv (t rfl)) rfl fun a w s=>sq s (cc rfl (oc (t rfl) (oc (t rfl) on)) (s131 f _ _ _ hx4)) rfl fun a w s=>sq s (nt (t rfl)) rfl fun a w s=>nl ?_))
       refine cm s rfl hm (fun hb hm=>?_) (fun hb hm=>?_)
       ·refine se (rg (sq s (sa ci) rfl fun a w s=>nl ?_))
        obtain rfl:=si hm
        replace hm:=hko3
        dsimp only at hm
        obtain rfl:=si hm
        refine wpIn_ret ?_
        exact rn hD s rfl (rv1 (rt rfl))
       ·refine wpIn_skip ?_
        refine rg (sq s (mv (t rfl)) rfl fun a w s=>sq s (ad (t rfl) ci) rfl fun a w s=>sq s (sa (t rfl)) rfl fun a w s=>nl ?_)
        exact ⟨_,hm,s.pick [0,1,2,3,4]⟩
      ·refine wpIn_exit ?_
       exact ⟨_,(si hm).symm,s.pick [0,1,2,3,4]⟩
     ·subst ho
      replace hm:=hko3
      dsimp only at hm
      refine se (rg (sq s (sa ci) rfl fun a w s=>nl ?_))
      obtain rfl:=si hm
      refine wpIn_ret ?_
      exact rn hD s rfl (rv1 (rt rfl))
def m80 (f:Nat) (v0:ByteArray):Option (Sequence×Int×Int):=(m144 f v0).bind fun x2=>(bif (x2.2.2 != (0:Int)) then some ((⟨(0:Int),([]:List Step)⟩:Sequence),x2.2.1,x2.2.2) else (bif ((x2.1.length:Int) == (0:Int)) then some ((⟨(0:Int),([]:List Step)⟩:Sequence),(0:Int),(13:Int)) else (m145 f x2.1).bind fun x3=>(m69 f x3).bind fun x4=>(bif (x4 != (0:Int)) then some ((⟨(0:Int),([]:List Step)⟩:Sequence),(0:Int),x4) else (m145 f x2.1).bind fun x5=>some (x5,(0:Int),(0:Int)))))
set_option maxRecDepth 100000 in
theorem s80 (f:Nat) (v0:ByteArray) (r:Sequence×Int×Int) (hm:m80 f v0=some r):Sp Tryz.prog 80 [Va (v0)] (T3 (Va (r.1)) (Va (r.2.1)) (Va (r.2.2))):=by
 unfold m80 at hm
 refine ens Tryz.func80 (by kernel_rfl) rfl Tryz.ntmps80 rfl rfl fun M w_0 a hM hD s=>?_
 refine se (rg (sqr 1000 s (alr (cs:=[(.int .i64 (0:Int)),(.slice none 0 0)]) (z:=.agg #[(.int .i64 (0:Int)),(.slice none 0 0)]) (by kernel_rfl) rfl rfl) rfl rfl fun b1 a w s=>sq s (sa ci) rfl fun a w s=>sq s (sa ci) rfl fun a w s=>nl ?_))
 obtain ⟨x2,hx2,hm⟩:=bs hm
 refine se (rg (sq s (mv (t rfl)) rfl fun a w s=>sq s (cc rfl (oc (t rfl) on) (s144 f _ _ hx2)) rfl fun a w s=>sq s (mve (t rfl)) rfl fun a w s=>sq s (Pn.x30 (t rfl)) rfl fun a w s=>sq s (Pn.x31 (t rfl)) rfl fun a w s=>sq s (Pn.x32 (t rfl)) rfl fun a w s=>sq s (sa (t rfl)) rfl fun a w s=>sq s (sa (t rfl)) rfl fun a w s=>sq s (sa (t rfl)) rfl fun a w s=>nl ?_))
 refine se ?_
 refine se (rg (sq s (mv (t rfl)) rfl fun a w s=>sq s (ne (t rfl) ci) rfl fun a w s=>nl ?_))
 refine cm s rfl hm (fun hb hm=>?_) (fun hb hm=>?_)
 ·refine se (rg (sq s (bl108_ ) rfl fun a w s=>sq s (mv (t rfl)) rfl fun a w s=>sq s (mv (t rfl)) rfl fun a w s=>swd (K:=1000) s (t rfl) rfl (t rfl) rfl fun w s=>sq s (sa (t rfl)) rfl fun a w s=>sq s (sa (t rfl)) rfl fun a w s=>nl ?_))
  obtain rfl:=si hm
  refine wpIn_ret ?_
  exact rn hD s rfl (rv3 (rc (K:=1000) rfl rfl) (rt rfl) (rt rfl))
 ·refine wpIn_skip ?_
  refine se ?_
  refine se (rg (sq s (mv (t rfl)) rfl fun a w s=>sq s (ln (t rfl)) rfl fun a w s=>sq s (eq (t rfl) ci) rfl fun a w s=>nl ?_))
  refine cm s rfl hm (fun hb hm=>?_) (fun hb hm=>?_)
  ·refine se (rg (sq s (bl108_ ) rfl fun a w s=>swd (K:=1000) s (t rfl) rfl (t rfl) rfl fun w s=>sq s (sa ci) rfl fun a w s=>sq s (sa ci) rfl fun a w s=>nl ?_))
   obtain rfl:=si hm
   refine wpIn_ret ?_
   exact rn hD s rfl (rv3 (rc (K:=1000) rfl rfl) (rt rfl) (rt rfl))
  ·refine wpIn_skip ?_
   refine se ?_
   obtain ⟨x3,hx3,hm⟩:=bs hm
   obtain ⟨x4,hx4,hm⟩:=bs hm
   refine se (rg (sq s (mv (t rfl)) rfl fun a w s=>sq s (cc rfl (oc (t rfl) on) (s145 f _ _ hx3)) rfl fun a w s=>sq s (cc rfl (oc (t rfl) on) (s69 f _ _ hx4)) rfl fun a w s=>sq s (sa (t rfl)) rfl fun a w s=>nl ?_))
   refine se (rg (sq s (mv (t rfl)) rfl fun a w s=>sq s (ne (t rfl) ci) rfl fun a w s=>nl ?_))
   refine cm s rfl hm (fun hb hm=>?_) (fun hb hm=>?_)
   ·refine se (rg (sq s (bl108_ ) rfl fun a w s=>sq s (mv (t rfl)) rfl fun a w s=>swd (K:=1000) s (t rfl) rfl (t rfl) rfl fun w s=>sq s (sa ci) rfl fun a w s=>sq s (sa (t rfl)) rfl fun a w s=>nl ?_))
    obtain rfl:=si hm
    refine wpIn_ret ?_
    exact rn hD s rfl (rv3 (rc (K:=1000) rfl rfl) (rt rfl) (rt rfl))
   ·refine wpIn_skip ?_
    obtain ⟨x5,hx5,hm⟩:=bs hm
    refine se (rg (sq s (mv (t rfl)) rfl fun a w s=>sq s (cc rfl (oc (t rfl) on) (s145 f _ _ hx5)) rfl fun a w s=>swd (K:=1000) s (t rfl) rfl (t rfl) rfl fun w s=>sq s (sa ci) rfl fun a w s=>sq s (sa ci) rfl fun a w s=>nl ?_))
    obtain rfl:=si hm
    refine wpIn_ret ?_
    exact rn hD s rfl (rv3 (rc (K:=1000) rfl rfl) (rt rfl) (rt rfl))
def m245_l1 (f:Nat) (v0:Sequence) (v1:Int) (v2:Int):Nat→Int→Option (Lo (Int) (Bool))
 | 0,_=>none
 | n+1,z1=>(bif (decide (z1 < (v0).Actuators)) then (idx ((v0).Steps) v1).bind fun x3=>(m199 f x3 z1).bind fun x4=>(bif (x4 != (0:Int)) then (idx ((v0).Steps) v2).bind fun x5=>(m199 f x5 z1).bind fun x6=>some (x6 != (0:Int)) else some false).bind fun r7=>(bif r7 then some (.ret true) else m245_l1 f v0 v1 v2 n (wr (z1 + (1:Int)))) else some (.brk z1))
def m245 (f:Nat) (v0:Sequence) (v1:Int) (v2:Int):Option (Bool):=((m245_l1 f v0 v1 v2 f (0:Int)).bind fun o2=>match o2 with | .brk o2s=>some false | .ret r=>some r)
set_option maxRecDepth 100000 in
theorem s245 (f:Nat) (v0:Sequence) (v1:Int) (v2:Int) (r:Bool) (hm:m245 f v0 v1 v2=some r):Sp Tryz.prog 245 [Va (v0),Va (v1),Va (v2)] (Va (r)):=by
 unfold m245 at hm
 refine ens Tryz.func245 (by kernel_rfl) rfl Tryz.ntmps245 rfl rfl fun M w_0 a hM hD s=>?_
 refine se (rg (sq s (bx (t rfl)) rfl fun a w s=>sq s (sa cb) rfl fun a w s=>nl ?_))
 refine se ?_
 refine se (rg (sq s (sa ci) rfl fun a w s=>nl ?_))
 obtain ⟨o2,hoo2,hko2⟩:=bs hm
 refine lcI o2 (fun o2s a w=>St M w_0 32 [(0,Va (v0)),(1,Va (v1)),(2,Va (v2)),(3,Pt (v0)),(6,Va (false)),(7,Va (o2s))] a w) ?_ fun o2s a w ho s=>?_
 ·refine wpIn_block ?_
  refine loI (fun n z1=>m245_l1 f v0 v1 v2 n z1) o2 (fun z1 a w=>St M w_0 32 [(0,Va (v0)),(1,Va (v1)),(2,Va (v2)),(3,Pt (v0)),(6,Va (false)),(7,Va (z1))] a w) f (0:Int) (s.pick [0,1,2,3,6,7]) hoo2 (fun _=>rfl) fun n z1 a w hm s=>?_
  replace hm:m245_l1 f v0 v1 v2 (n + 1) z1=some o2:=hm
  unfold m245_l1 at hm
  refine se ?_
  refine se (rg (sq s (mv (t rfl)) rfl fun a w s=>sq s (fa (f:=Sequence.Actuators) (t rfl)) rfl fun a w s=>sq s (ld (t rfl)) rfl fun a w s=>sq s (lt (t rfl) (t rfl)) rfl fun a w s=>nl ?_))
  refine cm s rfl hm (fun hb hm=>?_) (fun hb hm=>?_)
  ·refine wpIn_skip ?_
   refine se ?_
   refine wpIn_block ?_
   obtain ⟨x3,hx3,hm⟩:=bs hm
   obtain ⟨x4,hx4,hm⟩:=bs hm
   obtain ⟨r7,hr7,hm⟩:=bs hm
   have gr7:=gT hr7
   have er7:=gF hr7
   obtain ⟨x5,hx5,gr7⟩:=gx gr7
   obtain ⟨x6,hx6,gr7⟩:=gx gr7
   refine se (rg (sq s (fa (f:=Sequence.Steps) (t rfl)) rfl fun a w s=>sq s (ld (t rfl)) rfl fun a w s=>sq s (mv (t rfl)) rfl fun a w s=>sq s (ix (t rfl) (t rfl) hx3) rfl fun a w s=>sq s (ld (t rfl)) rfl fun a w s=>sq s (mv (t rfl)) rfl fun a w s=>sq s (cc rfl (oc (t rfl) (oc (t rfl) on)) (s199 f _ _ _ hx4)) rfl fun a w s=>sq s (ne (t rfl) ci) rfl fun a w s=>sq s (mv (t rfl)) rfl fun a w s=>sg s rfl rfl (fun hb=>(fa (f:=Sequence.Steps) (t rfl))) rfl fun a w s=>sg s rfl rfl (fun hb=>(ld (tg rfl hb))) rfl fun a w s=>sg s rfl rfl (fun hb=>(mv (t rfl))) rfl fun a w s=>sg s rfl rfl (fun hb=>(ix (tg rfl hb) (tg rfl hb) (hx5 hb))) rfl fun a w s=>sg s rfl rfl (fun hb=>(ld (tg rfl hb))) rfl fun a w s=>sg s rfl rfl (fun hb=>(mv (t rfl))) rfl fun a w s=>sg s rfl rfl (fun hb=>(cc rfl (oc (tg rfl hb) (oc (tg rfl hb) on)) (s199 f _ _ _ (hx6 hb)))) rfl fun a w s=>sg s rfl rfl (fun hb=>(ne (tg rfl hb) ci)) rfl fun a w s=>sq s (pa (t rfl) rfl (fun h=>si (gr7 h)) (fun h=>(si (er7 h)).symm)) rfl fun a w s=>nl ?_))
   refine cm s rfl hm (fun hb hm=>?_) (fun hb hm=>?_)
   ·refine se (rg (sq s (sa cb) rfl fun a w s=>nl ?_))
    obtain rfl:=si hm
    replace hm:=hko2
    dsimp only at hm
    obtain rfl:=si hm
    refine wpIn_ret ?_
    exact rn hD s rfl (rv1 (rt rfl))
   ·refine wpIn_skip ?_
    refine rg (sq s (mv (t rfl)) rfl fun a w s=>sq s (ad (t rfl) ci) rfl fun a w s=>sq s (sa (t rfl)) rfl fun a w s=>nl ?_)
    exact ⟨_,hm,s.pick [0,1,2,3,6,7]⟩
  ·refine wpIn_exit ?_
   exact ⟨_,(si hm).symm,s.pick [0,1,2,3,6,7]⟩
 ·subst ho
  replace hm:=hko2
  dsimp only at hm
  refine se (rg (sq s (sa cb) rfl fun a w s=>nl ?_))
  obtain rfl:=si hm
  refine wpIn_ret ?_
  exact rn hD s rfl (rv1 (rt rfl))
def m200_l2 (f:Nat) (v0:Sequence) (z2:Int×(List Int)):Nat→(Int×(List Int))→Option (Int×(List Int))
 | 0,_=>none
 | n+1,z5=>(bif (decide (z5.1 < z2.1)) then (m245 f v0 z5.1 z2.1).bind fun x7=>(bif x7 then (app z5.2 ([z2.1]:List Int)).bind fun x8=>some (z5.1,x8) else m200_l2 f v0 z2 n ((wr (z5.1 + (1:Int))),z5.2)) else some (z5.1,z5.2))
def m200_l1 (f:Nat) (v0:Sequence):Nat→(Int×(List Int))→Option (Int×(List Int))
 | 0,_=>none
 | n+1,z2=>(bif (decide (z2.1 < (((v0).Steps).length:Int))) then (idx z2.2 (wr ((z2.2.length:Int) - (1:Int)))).bind fun x4=>(m200_l2 f v0 z2 f (x4,z2.2)).bind fun o6s=>m200_l1 f v0 n ((wr (z2.1 + (1:Int))),o6s.2) else some (z2.1,z2.2))
def m200 (f:Nat) (v0:Sequence):Option ((List Int)):=(m200_l1 f v0 f ((1:Int),([(0:Int)]:List Int))).bind fun o3s=>some o3s.2
set_option maxRecDepth 100000 in
theorem s200 (f:Nat) (v0:Sequence) (r:(List Int)) (hm:m200 f v0=some r):Sp Tryz.prog 200 [Va (v0)] (Va (r)):=by
 unfold m200 at hm
 refine ens Tryz.func200 (by kernel_rfl) rfl Tryz.ntmps200 rfl rfl fun M w_0 a hM hD s=>?_
 refine se (rg (sq s (bx (t rfl)) rfl fun a w s=>sq s (saq cq) rfl fun a w s=>nl ?_))
 refine se (rg (sqo 1000 s (bso (o1 ci o0) rfl rfl (by kernel_rfl)) rfl rfl fun c1 a w s=>sq s (saq (t rfl)) rfl fun a w s=>nl ?_))
 refine se ?_
 refine se (rg (sq s (sa ci) rfl fun a w s=>nl ?_))
 obtain ⟨o3s,hoo3,hko3⟩:=bs hm
 refine cpI (fun a w=>∃ (o3sc0:Value),St M w_0 34 [(0,Va (v0)),(1,Pt (v0)),(2,Qv (.slice none 0 0)),(3,Qv o3sc0),(4,Va (o3s.1)),(1000,Ow 3 o3sc0 (o3s.2))] a w) ?_ fun a w s=>?_
 ·refine wpIn_block ?_
  refine loI (fun n z2=>m200_l1 f v0 n z2) o3s (fun z2 a w=>∃ (z2c0:Value),St M w_0 34 [(0,Va (v0)),(1,Pt (v0)),(2,Qv (.slice none 0 0)),(3,Qv z2c0),(4,Va (z2.1)),(1000,Ow 3 z2c0 (z2.2))] a w) f ((1:Int),([(0:Int)]:List Int)) ⟨c1,s.pick [0,1,2,3,4,1000]⟩ hoo3 (fun _=>rfl) fun n z2 a w hm s=>?_
  obtain ⟨z2c0,s⟩:=s
  replace hm:m200_l1 f v0 (n + 1) z2=some o3s:=hm
  unfold m200_l1 at hm
  refine se ?_
  refine se (rg (sq s (mv (t rfl)) rfl fun a w s=>sq s (fa (f:=Sequence.Steps) (t rfl)) rfl fun a w s=>sq s (ld (t rfl)) rfl fun a w s=>sq s (ln (t rfl)) rfl fun a w s=>sq s (lt (t rfl) (t rfl)) rfl fun a w s=>nl ?_))
  refine cm s rfl hm (fun hb hm=>?_) (fun hb hm=>?_)
  ·refine wpIn_skip ?_
   refine se ?_
   refine wpIn_block ?_
   obtain ⟨x4,hx4,hm⟩:=bs hm
   refine se (rg (sq s (mvq (t rfl)) rfl fun a w s=>sq s (mvq (t rfl)) rfl fun a w s=>sq s (lnq (α:=Int) (k:=1000) (t rfl) rfl) rfl fun a w s=>sq s (sb (t rfl) ci) rfl fun a w s=>sq s (ixq (α:=Int) (k:=1000) (t rfl) rfl (t rfl) hx4) rfl fun a w s=>sq s (lq (k:=1000) (t rfl) rfl (idxg hx4)) rfl fun a w s=>sq s (sa (t rfl)) rfl fun a w s=>nl ?_))
   obtain ⟨o6s,hoo6,hko6⟩:=bs hm
   refine cpI (fun a w=>∃ (o6sc0:Value),St M w_0 34 [(0,Va (v0)),(1,Pt (v0)),(2,Qv (.slice none 0 0)),(3,Qv o6sc0),(4,Va (z2.1)),(5,Va (o6s.1)),(1000,Ow 3 o6sc0 (o6s.2))] a w) ?_ fun a w s=>?_
   ·refine wpIn_block ?_
    refine loI (fun n z5=>m200_l2 f v0 z2 n z5) o6s (fun z5 a w=>∃ (z5c0:Value),St M w_0 34 [(0,Va (v0)),(1,Pt (v0)),(2,Qv (.slice none 0 0)),(3,Qv z5c0),(4,Va (z2.1)),(5,Va (z5.1)),(1000,Ow 3 z5c0 (z5.2))] a w) f (x4,z2.2) ⟨z2c0,s.pick [0,1,2,3,4,5,1000]⟩ hoo6 (fun _=>rfl) fun n z5 a w hm s=>?_
    obtain ⟨z5c0,s⟩:=s
    replace hm:m200_l2 f v0 z2 (n + 1) z5=some o6s:=hm
    unfold m200_l2 at hm
    refine se ?_
    refine se (rg (sq s (mv (t rfl)) rfl fun a w s=>sq s (mv (t rfl)) rfl fun a w s=>sq s (lt (t rfl) (t rfl)) rfl fun a w s=>nl ?_))
    refine cm s rfl hm (fun hb hm=>?_) (fun hb hm=>?_)
    ·refine wpIn_skip ?_
     refine se ?_
     refine wpIn_block ?_
     obtain ⟨x7,hx7,hm⟩:=bs hm
     refine se (rg (sq s (ld (t rfl)) rfl fun a w s=>sq s (mv (t rfl)) rfl fun a w s=>sq s (mv (t rfl)) rfl fun a w s=>sq s (cc rfl (oc (t rfl) (oc (t rfl) (oc (t rfl) on))) (s245 f _ _ _ _ hx7)) rfl fun a w s=>nl ?_))
     refine cm s rfl hm (fun hb hm=>?_) (fun hb hm=>?_)
     ·obtain ⟨x8,hx8,hm⟩:=bs hm
      refine se (rg (sq s (mvq (t rfl)) rfl fun a w s=>sq s (mv (t rfl)) rfl fun a w s=>sq s (bsv (o1 (t rfl) o0) rfl rfl (by kernel_rfl)) rfl fun a w s=>apd (α:=Int) (k:=1000) s (t rfl) rfl (t rfl) hx8 rfl rfl fun c9 a w s=>sq s (saq (t rfl)) rfl fun a w s=>nl ?_))
      refine wpIn_exit ?_
      obtain rfl:=si hm
      exact ⟨c9,s.pick [0,1,2,3,4,5,1000]⟩
     ·refine wpIn_skip ?_
      refine rg (sq s (mv (t rfl)) rfl fun a w s=>sq s (ad (t rfl) ci) rfl fun a w s=>sq s (sa (t rfl)) rfl fun a w s=>nl ?_)
      exact ⟨_,hm,⟨z5c0,s.pick [0,1,2,3,4,5,1000]⟩⟩
    ·refine wpIn_exit ?_
     obtain rfl:=si hm
     exact ⟨z5c0,s.pick [0,1,2,3,4,5,1000]⟩
   ·obtain ⟨o6sc0,s⟩:=s
    replace hm:=hko6
    refine rg (sq s (mv (t rfl)) rfl fun a w s=>sq s (ad (t rfl) ci) rfl fun a w s=>sq s (sa (t rfl)) rfl fun a w s=>nl ?_)
    exact ⟨_,hm,⟨o6sc0,s.pick [0,1,2,3,4,1000]⟩⟩
  ·refine wpIn_exit ?_
   obtain rfl:=si hm
   exact ⟨z2c0,s.pick [0,1,2,3,4,1000]⟩
 ·obtain ⟨o3sc0,s⟩:=s
  replace hm:=hko3
  refine se (rg (sq s (mvq (t rfl)) rfl fun a w s=>sq s (saq (t rfl)) rfl fun a w s=>nl ?_))
  obtain rfl:=si hm
  refine fzk (α:=Int) (k:=1000) hM s rfl fun s=>?_
  refine wpIn_ret ?_
  exact rn hD s rfl (rv1 (ro (ta (k:=1000) (t rfl) rfl)))
def m211_l1 (v0:Sequence):Nat→(Int×Int×(List Int))→Option (Int×Int×(List Int))
 | 0,_=>none
 | n+1,z4=>(bif (decide (z4.2.1 < (((v0).Steps).length:Int))) then (idx ((v0).Steps) z4.2.1).bind fun x7=>(bif ((x7).Wait == (0:Int)) then (app z4.2.2 ([(-1:Int)]:List Int)).bind fun x8=>m211_l1 v0 n (z4.1,(wr (z4.2.1 + (1:Int))),x8) else (app z4.2.2 ([z4.1]:List Int)).bind fun x10=>m211_l1 v0 n ((wr (z4.1 + (1:Int))),(wr (z4.2.1 + (1:Int))),x10)) else some (z4.1,z4.2.1,z4.2.2))
def m211 (f:Nat) (v0:Sequence) (v1:Int):Option (Plan):=(m211_l1 v0 f (v1,(0:Int),([]:List Int))).bind fun o5s=>some (⟨(⟨v0.Actuators,v0.Steps⟩:Sequence),o5s.2.2⟩:Plan)
set_option maxRecDepth 100000 in
theorem s211 (f:Nat) (v0:Sequence) (v1:Int) (r:Plan) (hm:m211 f v0 v1=some r):Sp Tryz.prog 211 [Va (v0),Va (v1)] (Va (r)):=by
 unfold m211 at hm
 refine ens Tryz.func211 (by kernel_rfl) rfl Tryz.ntmps211 rfl rfl fun M w_0 a hM hD s=>?_
 refine se (rg (sq s (bx (t rfl)) rfl fun a w s=>sqr 1000 s (alr (cs:=[(.int .i64 (0:Int)),(.slice none 0 0),(.slice none 0 0)]) (z:=.agg #[(.int .i64 (0:Int)),(.slice none 0 0),(.slice none 0 0)]) (by kernel_rfl) rfl rfl) rfl rfl fun b1 a w s=>nl ?_))
 refine se (rg (sq s (ld (t rfl)) rfl fun a w s=>opv107 (d:=7) 1001 s rfl rfl fun c2 s=>sq s (bla (L:=[(0,2),(2,1)]) (z:=[(.int .i64 (0:Int)),(.slice none 0 0),(.slice none 0 0)]) (res:=[(.int .i64 v0.Actuators),c2,(.slice none 0 0)]) rfl (by kernel_rfl) (by kernel_rfl) (pda (t rfl) pdn) rfl rfl) rfl fun a w s=>sqr 1002 s (alr (cs:=[(.int .i64 (0:Int)),(.slice none 0 0),(.slice none 0 0)]) (z:=.agg #[(.int .i64 (0:Int)),(.slice none 0 0),(.slice none 0 0)]) (by kernel_rfl) rfl rfl) rfl rfl fun b3 a w s=>sra (K:=1002) (m:=[(.int .i64 v0.Actuators),c2,(.slice none 0 0)]) (cs':=[(.int .i64 v0.Actuators),c2,(.slice none 0 0)]) s (t rfl) rfl (t rfl) (by kernel_rfl) rfl rfl rfl fun w s=>nl ?_))
 refine se ?_
 refine se (rg (sq s (sa ci) rfl fun a w s=>nl ?_))
 refine nilc (α:=Int) (k:=1002) (cs':=fun c6=>[(.int .i64 v0.Actuators),c2,c6]) 1003 3 s rfl (fun _=>rfl) rfl fun c6 s=>?_
 obtain ⟨o5s,hoo5,hko5⟩:=bs hm
 refine cpI (fun a w=>∃ (o5sc0:Value),St M w_0 37 [(0,Va (v0)),(1,Va (o5s.1)),(2,Pt (v0)),(4,Qv (pb b1 0)),(5,Qv (pb b3 0)),(6,Va (o5s.2.1)),(1000,Mr b1 [(.int .i64 (0:Int)),(.slice none 0 0),(.slice none 0 0)]),(1002,Mr b3 [(.int .i64 v0.Actuators),c2,o5sc0]),(1001,At c2 (Va (v0.Steps))),(1003,Ow 3 o5sc0 (o5s.2.2))] a w) ?_ fun a w s=>?_
 ·refine wpIn_block ?_
  refine loI (fun n z4=>m211_l1 v0 n z4) o5s (fun z4 a w=>∃ (z4c0:Value),St M w_0 37 [(0,Va (v0)),(1,Va (z4.1)),(2,Pt (v0)),(4,Qv (pb b1 0)),(5,Qv (pb b3 0)),(6,Va (z4.2.1)),(1000,Mr b1 [(.int .i64 (0:Int)),(.slice none 0 0),(.slice none 0 0)]),(1002,Mr b3 [(.int .i64 v0.Actuators),c2,z4c0]),(1001,At c2 (Va (v0.Steps))),(1003,Ow 3 z4c0 (z4.2.2))] a w) f (v1,(0:Int),([]:List Int)) ⟨c6,s.pick [0,1,2,4,5,6,1000,1002,1001,1003]⟩ hoo5 (fun _=>rfl) fun n z4 a w hm s=>?_
  obtain ⟨z4c0,s⟩:=s
  replace hm:m211_l1 v0 (n + 1) z4=some o5s:=hm
  unfold m211_l1 at hm
  refine se ?_
  refine se (rg (sq s (mv (t rfl)) rfl fun a w s=>sq s (fa (f:=Sequence.Steps) (t rfl)) rfl fun a w s=>sq s (ld (t rfl)) rfl fun a w s=>sq s (ln (t rfl)) rfl fun a w s=>sq s (lt (t rfl) (t rfl)) rfl fun a w s=>nl ?_))
  refine cm s rfl hm (fun hb hm=>?_) (fun hb hm=>?_)
  ·refine wpIn_skip ?_
   refine se ?_
   refine wpIn_block ?_
   refine se ?_
   obtain ⟨x7,hx7,hm⟩:=bs hm
   refine se (rg (sq s (fa (f:=Sequence.Steps) (t rfl)) rfl fun a w s=>sq s (ld (t rfl)) rfl fun a w s=>sq s (mv (t rfl)) rfl fun a w s=>sq s (ix (t rfl) (t rfl) hx7) rfl fun a w s=>sq s (fa (f:=Step.Wait) (t rfl)) rfl fun a w s=>sq s (ld (t rfl)) rfl fun a w s=>sq s (eq (t rfl) ci) rfl fun a w s=>nl ?_))
   refine cm s rfl hm (fun hb hm=>?_) (fun hb hm=>?_)
   ·obtain ⟨x8,hx8,hm⟩:=bs hm
    refine se (rg (sq s (fm_ (off:=2) (m:=0) (q:=2) (t rfl) (by kernel_rfl) rfl) rfl fun a w s=>sq s (lrc (K:=1002) (List Int) (t rfl) rfl rfl rfl rfl) rfl fun a w s=>sq s (bsv (o1 ci o0) rfl rfl (by kernel_rfl)) rfl fun a w s=>apd (α:=Int) (k:=1003) s (t rfl) rfl (t rfl) hx8 rfl rfl fun c9 a w s=>sq s (fm_ (off:=2) (m:=0) (q:=2) (t rfl) (by kernel_rfl) rfl) rfl fun a w s=>srq (K:=1002) (cs':=[(.int .i64 v0.Actuators),c2,c9]) s (t rfl) rfl (t rfl) (by kernel_rfl) (oco (k:=1003) rfl) rfl rfl fun w s=>nl ?_))
    refine wpIn_exit ?_
    refine rg (sq s (mv (t rfl)) rfl fun a w s=>sq s (ad (t rfl) ci) rfl fun a w s=>sq s (sa (t rfl)) rfl fun a w s=>nl ?_)
    exact ⟨_,hm,⟨c9,s.pick [0,1,2,4,5,6,1000,1002,1001,1003]⟩⟩
   ·refine wpIn_skip ?_
    obtain ⟨x10,hx10,hm⟩:=bs hm
    refine se (rg (sq s (fm_ (off:=2) (m:=0) (q:=2) (t rfl) (by kernel_rfl) rfl) rfl fun a w s=>sq s (lrc (K:=1002) (List Int) (t rfl) rfl rfl rfl rfl) rfl fun a w s=>sq s (mv (t rfl)) rfl fun a w s=>sq s (bsv (o1 (t rfl) o0) rfl rfl (by kernel_rfl)) rfl fun a w s=>apd (α:=Int) (k:=1003) s (t rfl) rfl (t rfl) hx10 rfl rfl fun c11 a w s=>sq s (fm_ (off:=2) (m:=0) (q:=2) (t rfl) (by kernel_rfl) rfl) rfl fun a w s=>srq (K:=1002) (cs':=[(.int .i64 v0.Actuators),c2,c11]) s (t rfl) rfl (t rfl) (by kernel_rfl) (oco (k:=1003) rfl) rfl rfl fun w s=>nl ?_))
    refine rg (sq s (mv (t rfl)) rfl fun a w s=>sq s (ad (t rfl) ci) rfl fun a w s=>sq s (sa (t rfl)) rfl fun a w s=>nl ?_)
    refine rg (sq s (mv (t rfl)) rfl fun a w s=>sq s (ad (t rfl) ci) rfl fun a w s=>sq s (sa (t rfl)) rfl fun a w s=>nl ?_)
    exact ⟨_,hm,⟨c11,s.pick [0,1,2,4,5,6,1000,1002,1001,1003]⟩⟩
  ·refine wpIn_exit ?_
   obtain rfl:=si hm
   exact ⟨z4c0,s.pick [0,1,2,4,5,6,1000,1002,1001,1003]⟩
 ·obtain ⟨o5sc0,s⟩:=s
  replace hm:=hko5
  refine se (rg (sq s (lra (K:=1002) (ds:=[(.int .i64 v0.Actuators),c2,o5sc0]) Plan (t rfl) rfl rfl rfl rfl) rfl fun a w s=>sra (K:=1000) (m:=[(.int .i64 v0.Actuators),c2,o5sc0]) (cs':=[(.int .i64 v0.Actuators),c2,o5sc0]) s (t rfl) rfl (t rfl) (by kernel_rfl) rfl rfl rfl fun w s=>nl ?_))
  obtain rfl:=si hm
  refine fzk (α:=Int) (k:=1003) hM s rfl fun s=>?_
  refine shut (k:=1000) (x:=(⟨(⟨v0.Actuators,v0.Steps⟩:Sequence),o5s.2.2⟩:Plan)) s rfl (rpS214 (l:=([(.int .i64 v0.Actuators),c2],[o5sc0])) (rpS107 (l:=([(.int .i64 v0.Actuators)],[c2])) rpi (rpz (k:=1001) rfl)) (rpz (k:=1003) rfl)) fun s=>?_
  refine wpIn_ret ?_
  exact rn hD s rfl (rv1 (rc (K:=1000) rfl rfl))
def m212 (f:Nat) (v0:Sequence):Option (Int):=some (wr ((wr ((2:Int) * (v0).Actuators)) + (1:Int)))
set_option maxRecDepth 100000 in
theorem s212 (f:Nat) (v0:Sequence) (r:Int) (hm:m212 f v0=some r):Sp Tryz.prog 212 [Va (v0)] (Va (r)):=by
 unfold m212 at hm
 refine ens Tryz.func212 (by kernel_rfl) rfl Tryz.ntmps212 rfl rfl fun M w_0 a hM hD s=>?_
 refine se (rg (sq s (bx (t rfl)) rfl fun a w s=>sq s (sa ci) rfl fun a w s=>nl ?_))
 refine se (rg (sq s (fa (f:=Sequence.Actuators) (t rfl)) rfl fun a w s=>sq s (ld (t rfl)) rfl fun a w s=>sq s (ml ci (t rfl)) rfl fun a w s=>sq s (ad (t rfl) ci) rfl fun a w s=>sq s (sa (t rfl)) rfl fun a w s=>nl ?_))
 obtain rfl:=si hm
 refine wpIn_ret ?_
 exact rn hD s rfl (rv1 (rt rfl))
def m146 (f:Nat) (v0:Sequence):Option (Plan):=(m212 f v0).bind fun x2=>(m200 f v0).bind fun x3=>(m211 f v0 (wr (x2 + (x3.length:Int)))).bind fun x4=>some x4
set_option maxRecDepth 100000 in
theorem s146 (f:Nat) (v0:Sequence) (r:Plan) (hm:m146 f v0=some r):Sp Tryz.prog 146 [Va (v0)] (Va (r)):=by
 unfold m146 at hm
 refine ens Tryz.func146 (by kernel_rfl) rfl Tryz.ntmps146 rfl rfl fun M w_0 a hM hD s=>?_
 refine se (rg (sq s (bx (t rfl)) rfl fun a w s=>sqr 1000 s (alr (cs:=[(.int .i64 (0:Int)),(.slice none 0 0),(.slice none 0 0)]) (z:=.agg #[(.int .i64 (0:Int)),(.slice none 0 0),(.slice none 0 0)]) (by kernel_rfl) rfl rfl) rfl rfl fun b1 a w s=>nl ?_))
 obtain ⟨x2,hx2,hm⟩:=bs hm
 obtain ⟨x3,hx3,hm⟩:=bs hm
 obtain ⟨x4,hx4,hm⟩:=bs hm
 refine se (flow s (m:=8) (.cons (.cons (.cons (.cons (.cons (.cons (.cons (.cons .nil rfl (ld (t rfl))) rfl (ld (t rfl))) rfl (cc rfl (oc (t rfl) on) (s212 f _ _ hx2))) rfl (ld (t rfl))) rfl (cc rfl (oc (t rfl) on) (s200 f _ _ hx3))) rfl (ln (t rfl))) rfl (ad (t rfl) (t rfl))) rfl (cc rfl (oc (t rfl) (oc (t rfl) on)) (s211 f _ _ _ hx4))) (by kernel_rfl) rfl rfl fun a w s=>swd (K:=1000) s (t rfl) rfl (t rfl) rfl fun w s=>nl ?_)
 obtain rfl:=si hm
 refine wpIn_ret ?_
 exact rn hD s rfl (rv1 (rc (K:=1000) rfl rfl))
def m213_l1 (f:Nat) (v0:Sequence) (x1:(List Int)):Nat→(Int×(List Int))→Option (Int×(List Int))
 | 0,_=>none
 | n+1,z4=>(bif (decide (z4.1 < (x1.length:Int))) then (m212 f v0).bind fun x7=>(app z4.2 ([(wr (x7 + z4.1))]:List Int)).bind fun x8=>m213_l1 f v0 x1 n ((wr (z4.1 + (1:Int))),x8) else some (z4.1,z4.2))
def m213 (f:Nat) (v0:Sequence):Option ((List Int)):=(m200 f v0).bind fun x1=>(bif ((x1.length:Int) == (2:Int)) then (m212 f v0).bind fun x2=>(m212 f v0).bind fun x3=>some ([(wr (x2 + (1:Int))),x3]:List Int) else (m213_l1 f v0 x1 f ((0:Int),([]:List Int))).bind fun o5s=>some o5s.2)
set_option maxRecDepth 100000 in
theorem s213 (f:Nat) (v0:Sequence) (r:(List Int)) (hm:m213 f v0=some r):Sp Tryz.prog 213 [Va (v0)] (Va (r)):=by
 unfold m213 at hm
 refine ens Tryz.func213 (by kernel_rfl) rfl Tryz.ntmps213 rfl rfl fun M w_0 a hM hD s=>?_
 refine se (rg (sq s (bx (t rfl)) rfl fun a w s=>sq s (saq cq) rfl fun a w s=>nl ?_))
 obtain ⟨x1,hx1,hm⟩:=bs hm
 refine se (rg (sq s (ld (t rfl)) rfl fun a w s=>sq s (cc rfl (oc (t rfl) on) (s200 f _ _ hx1)) rfl fun a w s=>sq s (ln (t rfl)) rfl fun a w s=>sq s (sa (t rfl)) rfl fun a w s=>nl ?_))
 refine se ?_
 refine se (rg (sq s (mv (t rfl)) rfl fun a w s=>sq s (eq (t rfl) ci) rfl fun a w s=>nl ?_))
 refine cm s rfl hm (fun hb hm=>?_) (fun hb hm=>?_)
 ·obtain ⟨x2,hx2,hm⟩:=bs hm
  obtain ⟨x3,hx3,hm⟩:=bs hm
  refine se (flow s (m:=6) (.cons (.cons (.cons (.cons (.cons (.cons .nil rfl (ld (t rfl))) rfl (cc rfl (oc (t rfl) on) (s212 f _ _ hx2))) rfl (ad (t rfl) ci)) rfl (ld (t rfl))) rfl (cc rfl (oc (t rfl) on) (s212 f _ _ hx3))) rfl (bsv (o1 (t rfl) (o1 (t rfl) o0)) rfl rfl (by kernel_rfl))) (by kernel_rfl) rfl rfl fun a w s=>sq s (sa (t rfl)) rfl fun a w s=>nl ?_)
  obtain rfl:=si hm
  refine wpIn_ret ?_
  exact rn hD s rfl (rv1 (rt rfl))
 ·refine wpIn_skip ?_
  refine se (rg (sq s (saq cq) rfl fun a w s=>nl ?_))
  refine se ?_
  refine se (rg (sq s (sa ci) rfl fun a w s=>nl ?_))
  refine nilt (α:=Int) (d:=4) 1000 3 s rfl rfl fun c6 s=>?_
  obtain ⟨o5s,hoo5,hko5⟩:=bs hm
  refine cpI (fun a w=>∃ (o5sc0:Value),St M w_0 30 [(0,Va (v0)),(1,Pt (v0)),(2,Qv (.slice none 0 0)),(3,Va ((x1.length:Int))),(4,Qv o5sc0),(5,Va (o5s.1)),(1000,Ow 3 o5sc0 (o5s.2))] a w) ?_ fun a w s=>?_
  ·refine wpIn_block ?_
   refine loI (fun n z4=>m213_l1 f v0 x1 n z4) o5s (fun z4 a w=>∃ (z4c0:Value),St M w_0 30 [(0,Va (v0)),(1,Pt (v0)),(2,Qv (.slice none 0 0)),(3,Va ((x1.length:Int))),(4,Qv z4c0),(5,Va (z4.1)),(1000,Ow 3 z4c0 (z4.2))] a w) f ((0:Int),([]:List Int)) ⟨c6,s.pick [0,1,2,3,4,5,1000]⟩ hoo5 (fun _=>rfl) fun n z4 a w hm s=>?_
   obtain ⟨z4c0,s⟩:=s
   replace hm:m213_l1 f v0 x1 (n + 1) z4=some o5s:=hm
   unfold m213_l1 at hm
   refine se ?_
   refine se (rg (sq s (mv (t rfl)) rfl fun a w s=>sq s (mv (t rfl)) rfl fun a w s=>sq s (lt (t rfl) (t rfl)) rfl fun a w s=>nl ?_))
   refine cm s rfl hm (fun hb hm=>?_) (fun hb hm=>?_)
   ·refine wpIn_skip ?_
    refine se ?_
    refine wpIn_block ?_
    obtain ⟨x7,hx7,hm⟩:=bs hm
    obtain ⟨x8,hx8,hm⟩:=bs hm
    refine rg (sq s (mvq (t rfl)) rfl fun a w s=>sq s (ld (t rfl)) rfl fun a w s=>sq s (cc rfl (oc (t rfl) on) (s212 f _ _ hx7)) rfl fun a w s=>sq s (mv (t rfl)) rfl fun a w s=>sq s (ad (t rfl) (t rfl)) rfl fun a w s=>sq s (bsv (o1 (t rfl) o0) rfl rfl (by kernel_rfl)) rfl fun a w s=>apd (α:=Int) (k:=1000) s (t rfl) rfl (t rfl) hx8 rfl rfl fun c9 a w s=>sq s (saq (t rfl)) rfl fun a w s=>nl ?_)
    refine rg (sq s (mv (t rfl)) rfl fun a w s=>sq s (ad (t rfl) ci) rfl fun a w s=>sq s (sa (t rfl)) rfl fun a w s=>nl ?_)
    exact ⟨_,hm,⟨c9,s.pick [0,1,2,3,4,5,1000]⟩⟩
   ·refine wpIn_exit ?_
    obtain rfl:=si hm
    exact ⟨z4c0,s.pick [0,1,2,3,4,5,1000]⟩
  ·obtain ⟨o5sc0,s⟩:=s
   replace hm:=hko5
   refine se (rg (sq s (mvq (t rfl)) rfl fun a w s=>sq s (saq (t rfl)) rfl fun a w s=>nl ?_))
   obtain rfl:=si hm
   refine fzk (α:=Int) (k:=1000) hM s rfl fun s=>?_
   refine wpIn_ret ?_
   exact rn hD s rfl (rv1 (ro (ta (k:=1000) (t rfl) rfl)))
def m217 (f:Nat) (v0:Int):Option (Expr):=some (⟨(1:Int),v0,([]:List Expr)⟩:Expr)
set_option maxRecDepth 100000 in
theorem s217 (f:Nat) (v0:Int) (r:Expr) (hm:m217 f v0=some r):Sp Tryz.prog 217 [Va (v0)] (Va (r)):=by
 unfold m217 at hm
 refine ens Tryz.func217 (by kernel_rfl) rfl Tryz.ntmps217 rfl rfl fun M w_0 a hM hD s=>?_
 refine se (rg (sqr 1000 s (alr (cs:=[(.int .i64 (0:Int)),(.int .i64 (0:Int)),(.slice none 0 0)]) (z:=.agg #[(.int .i64 (0:Int)),(.int .i64 (0:Int)),(.slice none 0 0)]) (by kernel_rfl) rfl rfl) rfl rfl fun b1 a w s=>nl ?_))
 refine se (rg (sq s (mv (t rfl)) rfl fun a w s=>sq s (bl129_0_1 ci (t rfl)) rfl fun a w s=>swd (K:=1000) s (t rfl) rfl (t rfl) rfl fun w s=>nl ?_))
 obtain rfl:=si hm
 refine wpIn_ret ?_
 exact rn hD s rfl (rv1 (rc (K:=1000) rfl rfl))
def m218_l1 (f:Nat) (v0:Step):Nat→(Int×(List Expr))→Option (Int×(List Expr))
 | 0,_=>none
 | n+1,z1=>(bif (decide (z1.1 < (((v0).Strokes).length:Int))) then (idx ((v0).Strokes) z1.1).bind fun x4=>(idx ((v0).Strokes) z1.1).bind fun x5=>(bif (x5).Out then some (wr ((wr ((2:Int) * (x4).Actuator)) + (1:Int))) else some (wr ((2:Int) * (x4).Actuator))).bind fun z6=>(m217 f z6).bind fun x7=>(app z1.2 ([x7]:List Expr)).bind fun x8=>m218_l1 f v0 n ((wr (z1.1 + (1:Int))),x8) else some (z1.1,z1.2))
def m218 (f:Nat) (v0:Step):Option ((List Expr)):=(m218_l1 f v0 f ((0:Int),([]:List Expr))).bind fun o2s=>some o2s.2
set_option maxRecDepth 100000 in
theorem s218 (f:Nat) (v0:Step) (r:(List Expr)) (hm:m218 f v0=some r):Sp Tryz.prog 218 [Va (v0)] (Va (r)):=by
 unfold m218 at hm
 refine ens Tryz.func218 (by kernel_rfl) rfl Tryz.ntmps218 rfl rfl fun M w_0 a hM hD s=>?_
 refine se (rg (sq s (bx (t rfl)) rfl fun a w s=>sq s (saq cq) rfl fun a w s=>nl ?_))
 refine se (rg (sq s (saq cq) rfl fun a w s=>nl ?_))
 refine se ?_
 refine se (rg (sq s (sa ci) rfl fun a w s=>nl ?_))
 refine nilt (α:=Expr) (d:=3) 1000 129 s rfl rfl fun c3 s=>?_
 obtain ⟨o2s,hoo2,hko2⟩:=bs hm
 refine cpI (fun a w=>∃ (o2sc0:Value),St M w_0 34 [(0,Va (v0)),(1,Pt (v0)),(2,Qv (.slice none 0 0)),(3,Qv o2sc0),(4,Va (o2s.1)),(1000,Ow 129 o2sc0 (o2s.2))] a w) ?_ fun a w s=>?_
 ·refine wpIn_block ?_
  refine loI (fun n z1=>m218_l1 f v0 n z1) o2s (fun z1 a w=>∃ (z1c0:Value),St M w_0 34 [(0,Va (v0)),(1,Pt (v0)),(2,Qv (.slice none 0 0)),(3,Qv z1c0),(4,Va (z1.1)),(1000,Ow 129 z1c0 (z1.2))] a w) f ((0:Int),([]:List Expr)) ⟨c3,s.pick [0,1,2,3,4,1000]⟩ hoo2 (fun _=>rfl) fun n z1 a w hm s=>?_
  obtain ⟨z1c0,s⟩:=s
  replace hm:m218_l1 f v0 (n + 1) z1=some o2s:=hm
  unfold m218_l1 at hm
  refine se ?_
  refine se (rg (sq s (mv (t rfl)) rfl fun a w s=>sq s (fa (f:=Step.Strokes) (t rfl)) rfl fun a w s=>sq s (ld (t rfl)) rfl fun a w s=>sq s (ln (t rfl)) rfl fun a w s=>sq s (lt (t rfl) (t rfl)) rfl fun a w s=>nl ?_))
  refine cm s rfl hm (fun hb hm=>?_) (fun hb hm=>?_)
  ·refine wpIn_skip ?_
   refine se ?_
   refine wpIn_block ?_
   obtain ⟨x4,hx4,hm⟩:=bs hm
   refine se (rg (sq s (fa (f:=Step.Strokes) (t rfl)) rfl fun a w s=>sq s (ld (t rfl)) rfl fun a w s=>sq s (mv (t rfl)) rfl fun a w s=>sq s (ix (t rfl) (t rfl) hx4) rfl fun a w s=>sq s (fa (f:=Stroke.Actuator) (t rfl)) rfl fun a w s=>sq s (ld (t rfl)) rfl fun a w s=>sq s (ml ci (t rfl)) rfl fun a w s=>sq s (sa (t rfl)) rfl fun a w s=>nl ?_))
   refine se ?_
   obtain ⟨x5,hx5,hm⟩:=bs hm
   refine se (rg (sq s (fa (f:=Step.Strokes) (t rfl)) rfl fun a w s=>sq s (ld (t rfl)) rfl fun a w s=>sq s (mv (t rfl)) rfl fun a w s=>sq s (ix (t rfl) (t rfl) hx5) rfl fun a w s=>sq s (fa (f:=Stroke.Out) (t rfl)) rfl fun a w s=>sq s (ld (t rfl)) rfl fun a w s=>nl ?_))
   obtain ⟨z6,hz6,hkz6⟩:=bs hm
   refine cpI (fun a w=>St M w_0 34 [(0,Va (v0)),(1,Pt (v0)),(2,Qv (.slice none 0 0)),(3,Qv z1c0),(4,Va (z1.1)),(5,Va (z6)),(1000,Ow 129 z1c0 (z1.2))] a w) ?_ fun a w s=>?_
   ·refine cm s rfl hz6 (fun hb hm=>?_) (fun hb hm=>?_)
    ·refine rg (sq s (mv (t rfl)) rfl fun a w s=>sq s (ad (t rfl) ci) rfl fun a w s=>sq s (sa (t rfl)) rfl fun a w s=>nl ?_)
     obtain rfl:=si hm
     exact s.pick [0,1,2,3,4,5,1000]
    ·refine wpIn_skip ?_
     obtain rfl:=si hm
     exact s.pick [0,1,2,3,4,5,1000]
   ·replace hm:=hkz6
    obtain ⟨x7,hx7,hm⟩:=bs hm
    obtain ⟨x8,hx8,hm⟩:=bs hm
    refine rg (sq s (mvq (t rfl)) rfl fun a w s=>sq s (mv (t rfl)) rfl fun a w s=>sq s (cc rfl (oc (t rfl) on) (s217 f _ _ hx7)) rfl fun a w s=>sq s (bsv (o1 (t rfl) o0) rfl rfl (by kernel_rfl)) rfl fun a w s=>apd (α:=Expr) (k:=1000) s (t rfl) rfl (t rfl) hx8 rfl rfl fun c9 a w s=>sq s (saq (t rfl)) rfl fun a w s=>nl ?_)
    refine rg (sq s (mv (t rfl)) rfl fun a w s=>sq s (ad (t rfl) ci) rfl fun a w s=>sq s (sa (t rfl)) rfl fun a w s=>nl ?_)
    exact ⟨_,hm,⟨c9,s.pick [0,1,2,3,4,1000]⟩⟩
  ·refine wpIn_exit ?_
   obtain rfl:=si hm
   exact ⟨z1c0,s.pick [0,1,2,3,4,1000]⟩
 ·obtain ⟨o2sc0,s⟩:=s
  replace hm:=hko2
  refine se (rg (sq s (mvq (t rfl)) rfl fun a w s=>sq s (saq (t rfl)) rfl fun a w s=>nl ?_))
  obtain rfl:=si hm
  refine fzk (α:=Expr) (k:=1000) hM s rfl fun s=>?_
  refine wpIn_ret ?_
  exact rn hD s rfl (rv1 (ro (ta (k:=1000) (t rfl) rfl)))
def m214 (f:Nat) (v0:Plan) (v1:Int):Option ((List Expr)):=(idx ((v0).Timers) v1).bind fun x1=>(bif (decide (x1≥(0:Int))) then (idx ((v0).Timers) v1).bind fun x2=>(m217 f x2).bind fun x3=>some ([x3]:List Expr) else (idx (((v0).S).Steps) v1).bind fun x4=>(m218 f x4).bind fun x5=>some x5)
set_option maxRecDepth 100000 in
theorem s214 (f:Nat) (v0:Plan) (v1:Int) (r:(List Expr)) (hm:m214 f v0 v1=some r):Sp Tryz.prog 214 [Va (v0),Va (v1)] (Va (r)):=by
 unfold m214 at hm
 refine ens Tryz.func214 (by kernel_rfl) rfl Tryz.ntmps214 rfl rfl fun M w_0 a hM hD s=>?_
 refine se (rg (sq s (bx (t rfl)) rfl fun a w s=>sq s (saq cq) rfl fun a w s=>nl ?_))
 refine se ?_
 obtain ⟨x1,hx1,hm⟩:=bs hm
 refine se (rg (sq s (fa (f:=Plan.Timers) (t rfl)) rfl fun a w s=>sq s (ld (t rfl)) rfl fun a w s=>sq s (mv (t rfl)) rfl fun a w s=>sq s (ix (t rfl) (t rfl) hx1) rfl fun a w s=>sq s (ld (t rfl)) rfl fun a w s=>sq s (ge (t rfl) ci) rfl fun a w s=>nl ?_))
 refine cm s rfl hm (fun hb hm=>?_) (fun hb hm=>?_)
 ·obtain ⟨x2,hx2,hm⟩:=bs hm
  obtain ⟨x3,hx3,hm⟩:=bs hm
  refine se (rg (sq s (fa (f:=Plan.Timers) (t rfl)) rfl fun a w s=>sq s (ld (t rfl)) rfl fun a w s=>sq s (mv (t rfl)) rfl fun a w s=>sq s (ix (t rfl) (t rfl) hx2) rfl fun a w s=>sq s (ld (t rfl)) rfl fun a w s=>sq s (cc rfl (oc (t rfl) on) (s217 f _ _ hx3)) rfl fun a w s=>sq s (bsv (o1 (t rfl) o0) rfl rfl (by kernel_rfl)) rfl fun a w s=>sq s (sa (t rfl)) rfl fun a w s=>nl ?_))
  obtain rfl:=si hm
  refine wpIn_ret ?_
  exact rn hD s rfl (rv1 (rt rfl))
 ·refine wpIn_skip ?_
  obtain ⟨x4,hx4,hm⟩:=bs hm
  obtain ⟨x5,hx5,hm⟩:=bs hm
  refine se (rg (sq s (fa (f:=Plan.S) (t rfl)) rfl fun a w s=>sq s (fa (f:=Sequence.Steps) (t rfl)) rfl fun a w s=>sq s (ld (t rfl)) rfl fun a w s=>sq s (mv (t rfl)) rfl fun a w s=>sq s (ix (t rfl) (t rfl) hx4) rfl fun a w s=>sq s (ld (t rfl)) rfl fun a w s=>sq s (cc rfl (oc (t rfl) on) (s218 f _ _ hx5)) rfl fun a w s=>sq s (sa (t rfl)) rfl fun a w s=>nl ?_))
  obtain rfl:=si hm
  refine wpIn_ret ?_
  exact rn hD s rfl (rv1 (rt rfl))
def m215 (f:Nat) (v0:Sequence) (v1:List Int) (v2:Int):Option (Int):=(bif (decide ((wr (v2 + (1:Int))) < (v1.length:Int))) then (idx v1 (wr (v2 + (1:Int)))).bind fun x1=>some (wr (x1 - (1:Int))) else some (wr ((((v0).Steps).length:Int) - (1:Int))))
set_option maxRecDepth 100000 in
theorem s215 (f:Nat) (v0:Sequence) (v1:List Int) (v2:Int) (r:Int) (hm:m215 f v0 v1 v2=some r):Sp Tryz.prog 215 [Va (v0),Va (v1),Va (v2)] (Va (r)):=by
 unfold m215 at hm
 refine ens Tryz.func215 (by kernel_rfl) rfl Tryz.ntmps215 rfl rfl fun M w_0 a hM hD s=>?_
 refine se (rg (sq s (bx (t rfl)) rfl fun a w s=>sq s (sa ci) rfl fun a w s=>nl ?_))
 refine se ?_
 refine se (rg (sq s (mv (t rfl)) rfl fun a w s=>sq s (ad (t rfl) ci) rfl fun a w s=>sq s (mv (t rfl)) rfl fun a w s=>sq s (ln (t rfl)) rfl fun a w s=>sq s (lt (t rfl) (t rfl)) rfl fun a w s=>nl ?_))
 refine cm s rfl hm (fun hb hm=>?_) (fun hb hm=>?_)
 ·obtain ⟨x1,hx1,hm⟩:=bs hm
  refine se (rg (sq s (mv (t rfl)) rfl fun a w s=>sq s (mv (t rfl)) rfl fun a w s=>sq s (ad (t rfl) ci) rfl fun a w s=>sq s (ix (t rfl) (t rfl) hx1) rfl fun a w s=>sq s (ld (t rfl)) rfl fun a w s=>sq s (sb (t rfl) ci) rfl fun a w s=>sq s (sa (t rfl)) rfl fun a w s=>nl ?_))
  obtain rfl:=si hm
  refine wpIn_ret ?_
  exact rn hD s rfl (rv1 (rt rfl))
 ·refine wpIn_skip ?_
  refine se (rg (sq s (fa (f:=Sequence.Steps) (t rfl)) rfl fun a w s=>sq s (ld (t rfl)) rfl fun a w s=>sq s (ln (t rfl)) rfl fun a w s=>sq s (sb (t rfl) ci) rfl fun a w s=>sq s (sa (t rfl)) rfl fun a w s=>nl ?_))
  obtain rfl:=si hm
  refine wpIn_ret ?_
  exact rn hD s rfl (rv1 (rt rfl))
def m216 (f:Nat) (v0:Int) (v1:List Expr):Option (Expr):=(bif ((v1.length:Int) == (1:Int)) then (idx v1 (0:Int)).bind fun x2=>some x2 else some (⟨v0,(0:Int),v1⟩:Expr))
set_option maxRecDepth 100000 in
theorem s216 (f:Nat) (v0:Int) (v1:List Expr) (r:Expr) (hm:m216 f v0 v1=some r):Sp Tryz.prog 216 [Va (v0),Va (v1)] (Va (r)):=by
 unfold m216 at hm
 refine ens Tryz.func216 (by kernel_rfl) rfl Tryz.ntmps216 rfl rfl fun M w_0 a hM hD s=>?_
 refine se (rg (sqr 1000 s (alr (cs:=[(.int .i64 (0:Int)),(.int .i64 (0:Int)),(.slice none 0 0)]) (z:=.agg #[(.int .i64 (0:Int)),(.int .i64 (0:Int)),(.slice none 0 0)]) (by kernel_rfl) rfl rfl) rfl rfl fun b1 a w s=>nl ?_))
 refine se ?_
 refine se (rg (sq s (mv (t rfl)) rfl fun a w s=>sq s (ln (t rfl)) rfl fun a w s=>sq s (eq (t rfl) ci) rfl fun a w s=>nl ?_))
 refine cm s rfl hm (fun hb hm=>?_) (fun hb hm=>?_)
 ·obtain ⟨x2,hx2,hm⟩:=bs hm
  refine se (rg (sq s (mv (t rfl)) rfl fun a w s=>sq s (ix (t rfl) ci hx2) rfl fun a w s=>sq s (ld (t rfl)) rfl fun a w s=>swd (K:=1000) s (t rfl) rfl (t rfl) rfl fun w s=>nl ?_))
  obtain rfl:=si hm
  refine wpIn_ret ?_
  exact rn hD s rfl (rv1 (rc (K:=1000) rfl rfl))
 ·refine wpIn_skip ?_
  refine se (rg (sq s (mv (t rfl)) rfl fun a w s=>sq s (mv (t rfl)) rfl fun a w s=>sq s (bl129_0_2 (t rfl) (t rfl)) rfl fun a w s=>swd (K:=1000) s (t rfl) rfl (t rfl) rfl fun w s=>nl ?_))
  obtain rfl:=si hm
  refine wpIn_ret ?_
  exact rn hD s rfl (rv1 (rc (K:=1000) rfl rfl))
def m150_l1 :Nat→(ByteArray×Int)→Option (ByteArray×Int)
 | 0,_=>none
 | n+1,z1=>(bif ((decide (z1.2 > (0:Int))) || (z1.1.toList == (⟨#[]⟩:ByteArray).toList)) then (ssl (⟨#[48,49,50,51,52,53,54,55,56,57]⟩:ByteArray) (z1.2.tmod (10:Int)) (wr ((z1.2.tmod (10:Int)) + (1:Int)))).bind fun x3=>(cat x3 z1.1).bind fun x4=>m150_l1 n (x4,(wr (z1.2.tdiv (10:Int)))) else some (z1.1,z1.2))
def m150 (f:Nat) (v0:ByteArray) (v1:Int):Option (ByteArray):=(m150_l1 f ((⟨#[]⟩:ByteArray),v1)).bind fun o2s=>(cat v0 o2s.1).bind fun x5=>some x5
set_option maxRecDepth 100000 in
theorem s150 (f:Nat) (v0:ByteArray) (v1:Int) (r:ByteArray) (hm:m150 f v0 v1=some r):Sp Tryz.prog 150 [Va (v0),Va (v1)] (Va (r)):=by
 unfold m150 at hm
 refine ens Tryz.func150 (by kernel_rfl) rfl Tryz.ntmps150 rfl rfl fun M w_0 a hM hD s=>?_
 refine se (rg (sq s (sa cs) rfl fun a w s=>nl ?_))
 refine se (rg (sq s (sa cs) rfl fun a w s=>nl ?_))
 refine se ?_
 refine se (rg (sq s (mv (t rfl)) rfl fun a w s=>sq s (sa (t rfl)) rfl fun a w s=>nl ?_))
 obtain ⟨o2s,hoo2,hko2⟩:=bs hm
 refine cpI (fun a w=>St M w_0 27 [(0,Va (v0)),(1,Va (v1)),(4,Va ((⟨#[]⟩:ByteArray))),(5,Va (o2s.1)),(6,Va (o2s.2))] a w) ?_ fun a w s=>?_
 ·refine wpIn_block ?_
  refine loI (fun n z1=>m150_l1 n z1) o2s (fun z1 a w=>St M w_0 27 [(0,Va (v0)),(1,Va (v1)),(4,Va ((⟨#[]⟩:ByteArray))),(5,Va (z1.1)),(6,Va (z1.2))] a w) f ((⟨#[]⟩:ByteArray),v1) (s.pick [0,1,4,5,6]) hoo2 (fun _=>rfl) fun n z1 a w hm s=>?_
  replace hm:m150_l1 (n + 1) z1=some o2s:=hm
  unfold m150_l1 at hm
  refine se ?_
  refine se (rg (sq s (mv (t rfl)) rfl fun a w s=>sq s (gt (t rfl) ci) rfl fun a w s=>sq s (mv (t rfl)) rfl fun a w s=>sg s rfl rfl (fun hb=>(mv (t rfl))) rfl fun a w s=>sg s rfl rfl (fun hb=>(seq (tg rfl hb) cs)) rfl fun a w s=>sq s (poP (t rfl) rfl) rfl fun a w s=>nl ?_))
  refine cm s rfl hm (fun hb hm=>?_) (fun hb hm=>?_)
  ·refine wpIn_skip ?_
   refine se ?_
   refine wpIn_block ?_
   obtain ⟨x3,hx3,hm⟩:=bs hm
   obtain ⟨x4,hx4,hm⟩:=bs hm
   refine rg (sq s (mv (t rfl)) rfl fun a w s=>sq s (rm (t rfl) ci (by decide)) rfl fun a w s=>sq s (mv (t rfl)) rfl fun a w s=>sq s (rm (t rfl) ci (by decide)) rfl fun a w s=>sq s (ad (t rfl) ci) rfl fun a w s=>sq s (sl2 cs (t rfl) (t rfl) Tryz.underlying9 hx3) rfl fun a w s=>sq s (mv (t rfl)) rfl fun a w s=>sq s (ct (t rfl) (t rfl) hx4) rfl fun a w s=>sq s (sa (t rfl)) rfl fun a w s=>nl ?_)
   refine rg (sq s (mv (t rfl)) rfl fun a w s=>sq s (qu (t rfl) ci (by decide)) rfl fun a w s=>sq s (sa (t rfl)) rfl fun a w s=>nl ?_)
   exact ⟨_,hm,s.pick [0,1,4,5,6]⟩
  ·refine wpIn_exit ?_
   obtain rfl:=si hm
   exact s.pick [0,1,4,5,6]
 ·replace hm:=hko2
  obtain ⟨x5,hx5,hm⟩:=bs hm
  refine se (rg (sq s (mv (t rfl)) rfl fun a w s=>sq s (mv (t rfl)) rfl fun a w s=>sq s (ct (t rfl) (t rfl) hx5) rfl fun a w s=>sq s (sa (t rfl)) rfl fun a w s=>nl ?_))
  obtain rfl:=si hm
  refine wpIn_ret ?_
  exact rn hD s rfl (rv1 (rt rfl))
def m147_l1 (f:Nat) (v0:Plan) (x1:(List Int)) (x2:(List Int)):Nat→(Int×(List Signal))→Option (Int×(List Signal))
 | 0,_=>none
 | n+1,z12=>(bif (decide (z12.1 < (x1.length:Int))) then (rem (wr ((wr (z12.1 + (x1.length:Int))) - (1:Int))) (x1.length:Int)).bind fun x15=>(idx x2 x15).bind fun x16=>(m217 f x16).bind fun x17=>(m215 f ((v0).S) x1 x15).bind fun x19=>(m214 f v0 x19).bind fun x20=>(app ([x17]:List Expr) x20).bind fun x21=>(m150 f (⟨#[103]⟩:ByteArray) z12.1).bind fun x23=>(m216 f (3:Int) x21).bind fun x24=>(rem (wr (z12.1 + (1:Int))) (x1.length:Int)).bind fun x25=>(idx x2 x25).bind fun x26=>(m217 f x26).bind fun x27=>(app z12.2 ([(⟨x23,(1:Int),x24,x27,(0:Int),(z12.1 == (0:Int))⟩:Signal)]:List Signal)).bind fun x28=>m147_l1 f v0 x1 x2 n ((wr (z12.1 + (1:Int))),x28) else some (z12.1,z12.2))
def m147 (f:Nat) (v0:Plan):Option ((List Signal)):=(m200 f ((v0).S)).bind fun x1=>(m213 f ((v0).S)).bind fun x2=>(bif ((x1.length:Int) == (2:Int)) then (m215 f ((v0).S) x1 (0:Int)).bind fun x3=>(m214 f v0 x3).bind fun x4=>(m215 f ((v0).S) x1 (1:Int)).bind fun x5=>(m214 f v0 x5).bind fun x6=>(m216 f (3:Int) x4).bind fun x7=>(m216 f (3:Int) x6).bind fun x8=>(idx x2 (1:Int)).bind fun x9=>(m217 f x9).bind fun x10=>some ([(⟨(⟨#[103,49]⟩:ByteArray),(1:Int),x7,x8,(0:Int),false⟩:Signal),(⟨(⟨#[103,48]⟩:ByteArray),(0:Int),(⟨(2:Int),(0:Int),([x10]:List Expr)⟩:Expr),(⟨(0:Int),(0:Int),([]:List Expr)⟩:Expr),(0:Int),false⟩:Signal)]:List Signal) else (m147_l1 f v0 x1 x2 f ((0:Int),([]:List Signal))).bind fun o13s=>some o13s.2)
set_option maxRecDepth 100000 in
set_option maxHeartbeats 2000000 in
theorem s147 (f:Nat) (v0:Plan) (r:(List Signal)) (hm:m147 f v0=some r):Sp Tryz.prog 147 [Va (v0)] (Rz (fun x:Value=>Qv x) (fun x=>[Ow 131 x (r)])):=by
 unfold m147 at hm
 refine ens Tryz.func147 (by kernel_rfl) rfl Tryz.ntmps147 rfl rfl fun M w_0 a hM hD s=>?_
 refine se (rg (sq s (bx (t rfl)) rfl fun a w s=>sq s (saq cq) rfl fun a w s=>nl ?_))
 obtain ⟨x1,hx1,hm⟩:=bs hm
 obtain ⟨x2,hx2,hm⟩:=bs hm
 refine se (flow s (m:=6) (.cons (.cons (.cons (.cons (.cons (.cons .nil rfl (fa (f:=Plan.S) (t rfl))) rfl (ld (t rfl))) rfl (cc rfl (oc (t rfl) on) (s200 f _ _ hx1))) rfl (fa (f:=Plan.S) (t rfl))) rfl (ld (t rfl))) rfl (cc rfl (oc (t rfl) on) (s213 f _ _ hx2))) (by kernel_rfl) rfl rfl fun a w s=>sq s (sa (t rfl)) rfl fun a w s=>sq s (sa (t rfl)) rfl fun a w s=>nl ?_)
 refine se (rg (sq s (mv (t rfl)) rfl fun a w s=>sq s (ln (t rfl)) rfl fun a w s=>sq s (sa (t rfl)) rfl fun a w s=>nl ?_))
 refine se ?_
 refine se (rg (sq s (mv (t rfl)) rfl fun a w s=>sq s (eq (t rfl) ci) rfl fun a w s=>nl ?_))
 refine cm s rfl hm (fun hb hm=>?_) (fun hb hm=>?_)
 ·obtain ⟨x3,hx3,hm⟩:=bs hm
  obtain ⟨x4,hx4,hm⟩:=bs hm
  obtain ⟨x5,hx5,hm⟩:=bs hm
  obtain ⟨x6,hx6,hm⟩:=bs hm
  refine se (flow s (m:=12) (.cons (.cons (.cons (.cons (.cons (.cons (.cons (.cons (.cons (.cons (.cons (.cons .nil rfl (ld (t rfl))) rfl (fa (f:=Plan.S) (t rfl))) rfl (ld (t rfl))) rfl (mv (t rfl))) rfl (cc rfl (oc (t rfl) (oc (t rfl) (oc ci on))) (s215 f _ _ _ _ hx3))) rfl (cc rfl (oc (t rfl) (oc (t rfl) on)) (s214 f _ _ _ hx4))) rfl (ld (t rfl))) rfl (fa (f:=Plan.S) (t rfl))) rfl (ld (t rfl))) rfl (mv (t rfl))) rfl (cc rfl (oc (t rfl) (oc (t rfl) (oc ci on))) (s215 f _ _ _ _ hx5))) rfl (cc rfl (oc (t rfl) (oc (t rfl) on)) (s214 f _ _ _ hx6))) (by kernel_rfl) rfl rfl fun a w s=>sq s (sa (t rfl)) rfl fun a w s=>sq s (sa (t rfl)) rfl fun a w s=>nl ?_)
  obtain ⟨x7,hx7,hm⟩:=bs hm
  obtain ⟨x8,hx8,hm⟩:=bs hm
  obtain ⟨x9,hx9,hm⟩:=bs hm
  obtain ⟨x10,hx10,hm⟩:=bs hm
  refine se (flow s (m:=13) (.cons (.cons (.cons (.cons (.cons (.cons (.cons (.cons (.cons (.cons (.cons (.cons (.cons .nil rfl (mv (t rfl))) rfl (cc rfl (oc ci (oc (t rfl) on)) (s216 f _ _ _ hx7))) rfl (mv (t rfl))) rfl (cc rfl (oc ci (oc (t rfl) on)) (s216 f _ _ _ hx8))) rfl (bl131_0_1_2_3 cs ci (t rfl) (t rfl))) rfl (mv (t rfl))) rfl (ix (t rfl) ci hx9)) rfl (ld (t rfl))) rfl (cc rfl (oc (t rfl) on) (s217 f _ _ hx10))) rfl (bsv (o1 (t rfl) o0) rfl rfl (by kernel_rfl))) rfl (bl129_0_2 ci (t rfl))) rfl (bl131_0_1_2 cs ci (t rfl))) rfl (bso (o1 (t rfl) (o1 (t rfl) o0)) rfl rfl (by kernel_rfl))) (by kernel_rfl) rfl rfl fun a w s=>opo (d:=46) 1000 s rfl rfl fun c11 s=>sq s (saq (t rfl)) rfl fun a w s=>nl ?_)
  obtain rfl:=si hm
  refine wpIn_ret ?_
  exact rz [1000] c11 hM hD s rfl (rv1 (rt rfl)) (kc rfl kn) rfl
 ·refine wpIn_skip ?_
  refine se (rg (sq s (saq cq) rfl fun a w s=>nl ?_))
  refine se ?_
  refine se (rg (sq s (sa ci) rfl fun a w s=>nl ?_))
  refine nilt (α:=Signal) (d:=8) 1001 131 s rfl rfl fun c14 s=>?_
  obtain ⟨o13s,hoo13,hko13⟩:=bs hm
  refine cpI (fun a w=>∃ (o13sc0:Value),St M w_0 91 [(0,Va (v0)),(1,Pt (v0)),(2,Qv (.slice none 0 0)),(3,Va (x1)),(4,Va (x2)),(5,Va ((x1.length:Int))),(8,Qv o13sc0),(9,Va (o13s.1)),(1001,Ow 131 o13sc0 (o13s.2))] a w) ?_ fun a w s=>?_
  ·refine wpIn_block ?_
   refine loI (fun n z12=>m147_l1 f v0 x1 x2 n z12) o13s (fun z12 a w=>∃ (z12c0:Value),St M w_0 91 [(0,Va (v0)),(1,Pt (v0)),(2,Qv (.slice none 0 0)),(3,Va (x1)),(4,Va (x2)),(5,Va ((x1.length:Int))),(8,Qv z12c0),(9,Va (z12.1)),(1001,Ow 131 z12c0 (z12.2))] a w) f ((0:Int),([]:List Signal)) ⟨c14,s.pick [0,1,2,3,4,5,8,9,1001]⟩ hoo13 (fun _=>rfl) fun n z12 a w hm s=>?_
   obtain ⟨z12c0,s⟩:=s
   replace hm:m147_l1 f v0 x1 x2 (n + 1) z12=some o13s:=hm
   unfold m147_l1 at hm
   refine se ?_
   refine se (rg (sq s (mv (t rfl)) rfl fun a w s=>sq s (mv (t rfl)) rfl fun a w s=>sq s (lt (t rfl) (t rfl)) rfl fun a w s=>nl ?_))
   refine cm s rfl hm (fun hb hm=>?_) (fun hb hm=>?_)
   ·refine wpIn_skip ?_
    refine se ?_
    refine wpIn_block ?_
    obtain ⟨x15,hx15,hm⟩:=bs hm
    refine se (rg (sq s (mv (t rfl)) rfl fun a w s=>sq s (mv (t rfl)) rfl fun a w s=>sq s (ad (t rfl) (t rfl)) rfl fun a w s=>sq s (sb (t rfl) ci) rfl fun a w s=>sq s (mv (t rfl)) rfl fun a w s=>sq s (rmd (t rfl) (t rfl) hx15) rfl fun a w s=>sq s (sa (t rfl)) rfl fun a w s=>nl ?_))
    obtain ⟨x16,hx16,hm⟩:=bs hm
    obtain ⟨x17,hx17,hm⟩:=bs hm
    obtain ⟨x19,hx19,hm⟩:=bs hm
    obtain ⟨x20,hx20,hm⟩:=bs hm
    obtain ⟨x21,hx21,hm⟩:=bs hm
    refine se (flow s (m:=13) (.cons (.cons (.cons (.cons (.cons (.cons (.cons (.cons (.cons (.cons (.cons (.cons (.cons .nil rfl (mv (t rfl))) rfl (mv (t rfl))) rfl (ix (t rfl) (t rfl) hx16)) rfl (ld (t rfl))) rfl (cc rfl (oc (t rfl) on) (s217 f _ _ hx17))) rfl (bso (o1 (t rfl) o0) rfl rfl (by kernel_rfl))) rfl (ld (t rfl))) rfl (fa (f:=Plan.S) (t rfl))) rfl (ld (t rfl))) rfl (mv (t rfl))) rfl (mv (t rfl))) rfl (cc rfl (oc (t rfl) (oc (t rfl) (oc (t rfl) on))) (s215 f _ _ _ _ hx19))) rfl (cc rfl (oc (t rfl) (oc (t rfl) on)) (s214 f _ _ _ hx20))) (by kernel_rfl) rfl rfl fun a w s=>opo (d:=63) 1002 s rfl rfl fun c18 s=>apd (α:=Expr) (k:=1002) s (t rfl) rfl (t rfl) hx21 rfl rfl fun c22 a w s=>sq s (saq (t rfl)) rfl fun a w s=>nl ?_)
    refine fzk (α:=Expr) (k:=1002) hM s rfl fun s=>?_
    obtain ⟨x23,hx23,hm⟩:=bs hm
    obtain ⟨x24,hx24,hm⟩:=bs hm
    obtain ⟨x25,hx25,hm⟩:=bs hm
    obtain ⟨x26,hx26,hm⟩:=bs hm
    obtain ⟨x27,hx27,hm⟩:=bs hm
    obtain ⟨x28,hx28,hm⟩:=bs hm
    refine flow s (m:=17) (.cons (.cons (.cons (.cons (.cons (.cons (.cons (.cons (.cons (.cons (.cons (.cons (.cons (.cons (.cons (.cons (.cons .nil rfl (mvq (t rfl))) rfl (mv (t rfl))) rfl (cc rfl (oc cs (oc (t rfl) on)) (s150 f _ _ _ hx23))) rfl (mvq (t rfl))) rfl (cc rfl (oc ci (oc (ta (k:=1002) (t rfl) rfl) on)) (s216 f _ _ _ hx24))) rfl (mv (t rfl))) rfl (mv (t rfl))) rfl (ad (t rfl) ci)) rfl (mv (t rfl))) rfl (rmd (t rfl) (t rfl) hx25)) rfl (ix (t rfl) (t rfl) hx26)) rfl (ld (t rfl))) rfl (cc rfl (oc (t rfl) on) (s217 f _ _ hx27))) rfl (mv (t rfl))) rfl (eq (t rfl) ci)) rfl (bl131_0_1_2_3_5 (t rfl) ci (t rfl) (t rfl) (t rfl))) rfl (bsv (o1 (t rfl) o0) rfl rfl (by kernel_rfl))) (by kernel_rfl) rfl rfl fun a w s=>apd (α:=Signal) (k:=1001) s (t rfl) rfl (t rfl) hx28 rfl rfl fun c29 a w s=>sq s (saq (t rfl)) rfl fun a w s=>nl ?_
    refine rg (sq s (mv (t rfl)) rfl fun a w s=>sq s (ad (t rfl) ci) rfl fun a w s=>sq s (sa (t rfl)) rfl fun a w s=>nl ?_)
    exact ⟨_,hm,⟨c29,s.pick [0,1,2,3,4,5,8,9,1001]⟩⟩
   ·refine wpIn_exit ?_
    obtain rfl:=si hm
    exact ⟨z12c0,s.pick [0,1,2,3,4,5,8,9,1001]⟩
  ·obtain ⟨o13sc0,s⟩:=s
   replace hm:=hko13
   refine se (rg (sq s (mvq (t rfl)) rfl fun a w s=>sq s (saq (t rfl)) rfl fun a w s=>nl ?_))
   obtain rfl:=si hm
   refine wpIn_ret ?_
   exact rz [1001] o13sc0 hM hD s rfl (rv1 (rt rfl)) (kc rfl kn) rfl
def m148_l1 (f:Nat) (v0:Plan) (v1:List Int):Nat→(Int×(List Signal))→Option (Int×(List Signal))
 | 0,_=>none
 | n+1,z1=>(bif (decide (z1.1 < (((v0).Timers).length:Int))) then (idx ((v0).Timers) z1.1).bind fun x4=>(bif (decide (x4≥(0:Int))) then (idx v1 z1.1).bind fun x6=>(m217 f x6).bind fun x7=>(idx (((v0).S).Steps) z1.1).bind fun x9=>(m218 f x9).bind fun x10=>(app ([x7]:List Expr) x10).bind fun x11=>(m150 f (⟨#[119]⟩:ByteArray) z1.1).bind fun x13=>(m216 f (3:Int) x11).bind fun x14=>(idx (((v0).S).Steps) z1.1).bind fun x15=>(app z1.2 ([(⟨x13,(2:Int),x14,(⟨(0:Int),(0:Int),([]:List Expr)⟩:Expr),(x15).Wait,false⟩:Signal)]:List Signal)).bind fun x16=>some x16 else some z1.2).bind fun z5=>m148_l1 f v0 v1 n ((wr (z1.1 + (1:Int))),z5) else some (z1.1,z1.2))
def m148 (f:Nat) (v0:Plan) (v1:List Int):Option ((List Signal)):=(m148_l1 f v0 v1 f ((0:Int),([]:List Signal))).bind fun o2s=>some o2s.2
set_option maxRecDepth 100000 in
theorem s148 (f:Nat) (v0:Plan) (v1:List Int) (r:(List Signal)) (hm:m148 f v0 v1=some r):Sp Tryz.prog 148 [Va (v0),Va (v1)] (Va (r)):=by
 unfold m148 at hm
 refine ens Tryz.func148 (by kernel_rfl) rfl Tryz.ntmps148 rfl rfl fun M w_0 a hM hD s=>?_
 refine se (rg (sq s (bx (t rfl)) rfl fun a w s=>sq s (saq cq) rfl fun a w s=>nl ?_))
 refine se (rg (sq s (saq cq) rfl fun a w s=>nl ?_))
 refine se ?_
 refine se (rg (sq s (sa ci) rfl fun a w s=>nl ?_))
 refine nilt (α:=Signal) (d:=5) 1000 131 s rfl rfl fun c3 s=>?_
 obtain ⟨o2s,hoo2,hko2⟩:=bs hm
 refine cpI (fun a w=>∃ (o2sc0:Value),St M w_0 51 [(0,Va (v0)),(1,Va (v1)),(2,Pt (v0)),(4,Qv (.slice none 0 0)),(5,Qv o2sc0),(6,Va (o2s.1)),(1000,Ow 131 o2sc0 (o2s.2))] a w) ?_ fun a w s=>?_
 ·refine wpIn_block ?_
  refine loI (fun n z1=>m148_l1 f v0 v1 n z1) o2s (fun z1 a w=>∃ (z1c0:Value),St M w_0 51 [(0,Va (v0)),(1,Va (v1)),(2,Pt (v0)),(4,Qv (.slice none 0 0)),(5,Qv z1c0),(6,Va (z1.1)),(1000,Ow 131 z1c0 (z1.2))] a w) f ((0:Int),([]:List Signal)) ⟨c3,s.pick [0,1,2,4,5,6,1000]⟩ hoo2 (fun _=>rfl) fun n z1 a w hm s=>?_
  obtain ⟨z1c0,s⟩:=s
  replace hm:m148_l1 f v0 v1 (n + 1) z1=some o2s:=hm
  unfold m148_l1 at hm
  refine se ?_
  refine se (rg (sq s (mv (t rfl)) rfl fun a w s=>sq s (fa (f:=Plan.Timers) (t rfl)) rfl fun a w s=>sq s (ld (t rfl)) rfl fun a w s=>sq s (ln (t rfl)) rfl fun a w s=>sq s (lt (t rfl) (t rfl)) rfl fun a w s=>nl ?_))
  refine cm s rfl hm (fun hb hm=>?_) (fun hb hm=>?_)
  ·refine wpIn_skip ?_
   refine se ?_
   refine wpIn_block ?_
   obtain ⟨x4,hx4,hm⟩:=bs hm
   refine se (rg (sq s (fa (f:=Plan.Timers) (t rfl)) rfl fun a w s=>sq s (ld (t rfl)) rfl fun a w s=>sq s (mv (t rfl)) rfl fun a w s=>sq s (ix (t rfl) (t rfl) hx4) rfl fun a w s=>sq s (ld (t rfl)) rfl fun a w s=>sq s (ge (t rfl) ci) rfl fun a w s=>nl ?_))
   obtain ⟨z5,hz5,hkz5⟩:=bs hm
   refine cpI (fun a w=>∃ (z5c0:Value),St M w_0 51 [(0,Va (v0)),(1,Va (v1)),(2,Pt (v0)),(4,Qv (.slice none 0 0)),(5,Qv z5c0),(6,Va (z1.1)),(1000,Ow 131 z5c0 (z5))] a w) ?_ fun a w s=>?_
   ·refine cm s rfl hz5 (fun hb hm=>?_) (fun hb hm=>?_)
    ·obtain ⟨x6,hx6,hm⟩:=bs hm
     obtain ⟨x7,hx7,hm⟩:=bs hm
     obtain ⟨x9,hx9,hm⟩:=bs hm
     obtain ⟨x10,hx10,hm⟩:=bs hm
     obtain ⟨x11,hx11,hm⟩:=bs hm
     refine se (flow s (m:=13) (.cons (.cons (.cons (.cons (.cons (.cons (.cons (.cons (.cons (.cons (.cons (.cons (.cons .nil rfl (mv (t rfl))) rfl (mv (t rfl))) rfl (ix (t rfl) (t rfl) hx6)) rfl (ld (t rfl))) rfl (cc rfl (oc (t rfl) on) (s217 f _ _ hx7))) rfl (bso (o1 (t rfl) o0) rfl rfl (by kernel_rfl))) rfl (fa (f:=Plan.S) (t rfl))) rfl (fa (f:=Sequence.Steps) (t rfl))) rfl (ld (t rfl))) rfl (mv (t rfl))) rfl (ix (t rfl) (t rfl) hx9)) rfl (ld (t rfl))) rfl (cc rfl (oc (t rfl) on) (s218 f _ _ hx10))) (by kernel_rfl) rfl rfl fun a w s=>opo (d:=26) 1001 s rfl rfl fun c8 s=>apd (α:=Expr) (k:=1001) s (t rfl) rfl (t rfl) hx11 rfl rfl fun c12 a w s=>sq s (saq (t rfl)) rfl fun a w s=>nl ?_)
     refine fzk (α:=Expr) (k:=1001) hM s rfl fun s=>?_
     obtain ⟨x13,hx13,hm⟩:=bs hm
     obtain ⟨x14,hx14,hm⟩:=bs hm
     obtain ⟨x15,hx15,hm⟩:=bs hm
     obtain ⟨x16,hx16,hm⟩:=bs hm
     refine flow s (m:=14) (.cons (.cons (.cons (.cons (.cons (.cons (.cons (.cons (.cons (.cons (.cons (.cons (.cons (.cons .nil rfl (mvq (t rfl))) rfl (mv (t rfl))) rfl (cc rfl (oc cs (oc (t rfl) on)) (s150 f _ _ _ hx13))) rfl (mvq (t rfl))) rfl (cc rfl (oc ci (oc (ta (k:=1001) (t rfl) rfl) on)) (s216 f _ _ _ hx14))) rfl (fa (f:=Plan.S) (t rfl))) rfl (fa (f:=Sequence.Steps) (t rfl))) rfl (ld (t rfl))) rfl (mv (t rfl))) rfl (ix (t rfl) (t rfl) hx15)) rfl (fa (f:=Step.Wait) (t rfl))) rfl (ld (t rfl))) rfl (bl131_0_1_2_4 (t rfl) ci (t rfl) (t rfl))) rfl (bsv (o1 (t rfl) o0) rfl rfl (by kernel_rfl))) (by kernel_rfl) rfl rfl fun a w s=>apd (α:=Signal) (k:=1000) s (t rfl) rfl (t rfl) hx16 rfl rfl fun c17 a w s=>sq s (saq (t rfl)) rfl fun a w s=>nl ?_
     obtain rfl:=si hm
     exact ⟨c17,s.pick [0,1,2,4,5,6,1000]⟩
    ·refine wpIn_skip ?_
     obtain rfl:=si hm
     exact ⟨z1c0,s.pick [0,1,2,4,5,6,1000]⟩
   ·obtain ⟨z5c0,s⟩:=s
    replace hm:=hkz5
    refine rg (sq s (mv (t rfl)) rfl fun a w s=>sq s (ad (t rfl) ci) rfl fun a w s=>sq s (sa (t rfl)) rfl fun a w s=>nl ?_)
    exact ⟨_,hm,⟨z5c0,s.pick [0,1,2,4,5,6,1000]⟩⟩
  ·refine wpIn_exit ?_
   obtain rfl:=si hm
   exact ⟨z1c0,s.pick [0,1,2,4,5,6,1000]⟩
 ·obtain ⟨o2sc0,s⟩:=s
  replace hm:=hko2
  refine se (rg (sq s (mvq (t rfl)) rfl fun a w s=>sq s (saq (t rfl)) rfl fun a w s=>nl ?_))
  obtain rfl:=si hm
  refine fzk (α:=Signal) (k:=1000) hM s rfl fun s=>?_
  refine wpIn_ret ?_
  exact rn hD s rfl (rv1 (ro (ta (k:=1000) (t rfl) rfl)))
def m219_l1 (v0:List Int) (v1:Int):Nat→(Int×Int)→Option (Int×Int)
 | 0,_=>none
 | n+1,z1=>(bif (decide (z1.2 < (v0.length:Int))) then (idx v0 z1.2).bind fun x3=>(bif (decide (x3≤v1)) then some z1.2 else some z1.1).bind fun z4=>m219_l1 v0 v1 n (z4,(wr (z1.2 + (1:Int)))) else some (z1.1,z1.2))
def m219 (f:Nat) (v0:List Int) (v1:Int):Option (Int):=(m219_l1 v0 v1 f ((0:Int),(0:Int))).bind fun o2s=>some o2s.1
set_option maxRecDepth 100000 in
theorem s219 (f:Nat) (v0:List Int) (v1:Int) (r:Int) (hm:m219 f v0 v1=some r):Sp Tryz.prog 219 [Va (v0),Va (v1)] (Va (r)):=by
 unfold m219 at hm
 refine ens Tryz.func219 (by kernel_rfl) rfl Tryz.ntmps219 rfl rfl fun M w_0 a hM hD s=>?_
 refine se (rg (sq s (sa ci) rfl fun a w s=>nl ?_))
 refine se (rg (sq s (sa ci) rfl fun a w s=>nl ?_))
 refine se ?_
 refine se (rg (sq s (sa ci) rfl fun a w s=>nl ?_))
 obtain ⟨o2s,hoo2,hko2⟩:=bs hm
 refine cpI (fun a w=>St M w_0 21 [(0,Va (v0)),(1,Va (v1)),(4,Va ((0:Int))),(5,Va (o2s.1)),(6,Va (o2s.2))] a w) ?_ fun a w s=>?_
 ·refine wpIn_block ?_
  refine loI (fun n z1=>m219_l1 v0 v1 n z1) o2s (fun z1 a w=>St M w_0 21 [(0,Va (v0)),(1,Va (v1)),(4,Va ((0:Int))),(5,Va (z1.1)),(6,Va (z1.2))] a w) f ((0:Int),(0:Int)) (s.pick [0,1,4,5,6]) hoo2 (fun _=>rfl) fun n z1 a w hm s=>?_
  replace hm:m219_l1 v0 v1 (n + 1) z1=some o2s:=hm
  unfold m219_l1 at hm
  refine se ?_
  refine se (rg (sq s (mv (t rfl)) rfl fun a w s=>sq s (mv (t rfl)) rfl fun a w s=>sq s (ln (t rfl)) rfl fun a w s=>sq s (lt (t rfl) (t rfl)) rfl fun a w s=>nl ?_))
  refine cm s rfl hm (fun hb hm=>?_) (fun hb hm=>?_)
  ·refine wpIn_skip ?_
   refine se ?_
   refine wpIn_block ?_
   obtain ⟨x3,hx3,hm⟩:=bs hm
   refine se (rg (sq s (mv (t rfl)) rfl fun a w s=>sq s (mv (t rfl)) rfl fun a w s=>sq s (ix (t rfl) (t rfl) hx3) rfl fun a w s=>sq s (ld (t rfl)) rfl fun a w s=>sq s (mv (t rfl)) rfl fun a w s=>sq s (le (t rfl) (t rfl)) rfl fun a w s=>nl ?_))
   obtain ⟨z4,hz4,hkz4⟩:=bs hm
   refine cpI (fun a w=>St M w_0 21 [(0,Va (v0)),(1,Va (v1)),(4,Va ((0:Int))),(5,Va (z4)),(6,Va (z1.2))] a w) ?_ fun a w s=>?_
   ·refine cm s rfl hz4 (fun hb hm=>?_) (fun hb hm=>?_)
    ·refine rg (sq s (mv (t rfl)) rfl fun a w s=>sq s (sa (t rfl)) rfl fun a w s=>nl ?_)
     obtain rfl:=si hm
     exact s.pick [0,1,4,5,6]
    ·refine wpIn_skip ?_
     obtain rfl:=si hm
     exact s.pick [0,1,4,5,6]
   ·replace hm:=hkz4
    refine rg (sq s (mv (t rfl)) rfl fun a w s=>sq s (ad (t rfl) ci) rfl fun a w s=>sq s (sa (t rfl)) rfl fun a w s=>nl ?_)
    exact ⟨_,hm,s.pick [0,1,4,5,6]⟩
  ·refine wpIn_exit ?_
   obtain rfl:=si hm
   exact s.pick [0,1,4,5,6]
 ·replace hm:=hko2
  refine se (rg (sq s (mv (t rfl)) rfl fun a w s=>sq s (sa (t rfl)) rfl fun a w s=>nl ?_))
  obtain rfl:=si hm
  refine wpIn_ret ?_
  exact rn hD s rfl (rv1 (rt rfl))
def m149_l1 (f:Nat) (v0:Sequence):Nat→(Int×(List Int))→Option (Int×(List Int))
 | 0,_=>none
 | n+1,z1=>(bif (decide (z1.1 < (((v0).Steps).length:Int))) then (m213 f v0).bind fun x4=>(m200 f v0).bind fun x5=>(m219 f x5 z1.1).bind fun x6=>(idx x4 x6).bind fun x7=>(app z1.2 ([x7]:List Int)).bind fun x8=>m149_l1 f v0 n ((wr (z1.1 + (1:Int))),x8) else some (z1.1,z1.2))
def m149 (f:Nat) (v0:Sequence):Option ((List Int)):=(m149_l1 f v0 f ((0:Int),([]:List Int))).bind fun o2s=>some o2s.2
set_option maxRecDepth 100000 in
theorem s149 (f:Nat) (v0:Sequence) (r:(List Int)) (hm:m149 f v0=some r):Sp Tryz.prog 149 [Va (v0)] (Va (r)):=by
 unfold m149 at hm
 refine ens Tryz.func149 (by kernel_rfl) rfl Tryz.ntmps149 rfl rfl fun M w_0 a hM hD s=>?_
 refine se (rg (sq s (bx (t rfl)) rfl fun a w s=>sq s (saq cq) rfl fun a w s=>nl ?_))
 refine se (rg (sq s (saq cq) rfl fun a w s=>nl ?_))
 refine se ?_
 refine se (rg (sq s (sa ci) rfl fun a w s=>nl ?_))
 refine nilt (α:=Int) (d:=3) 1000 3 s rfl rfl fun c3 s=>?_
 obtain ⟨o2s,hoo2,hko2⟩:=bs hm
 refine cpI (fun a w=>∃ (o2sc0:Value),St M w_0 24 [(0,Va (v0)),(1,Pt (v0)),(2,Qv (.slice none 0 0)),(3,Qv o2sc0),(4,Va (o2s.1)),(1000,Ow 3 o2sc0 (o2s.2))] a w) ?_ fun a w s=>?_
 ·refine wpIn_block ?_
  refine loI (fun n z1=>m149_l1 f v0 n z1) o2s (fun z1 a w=>∃ (z1c0:Value),St M w_0 24 [(0,Va (v0)),(1,Pt (v0)),(2,Qv (.slice none 0 0)),(3,Qv z1c0),(4,Va (z1.1)),(1000,Ow 3 z1c0 (z1.2))] a w) f ((0:Int),([]:List Int)) ⟨c3,s.pick [0,1,2,3,4,1000]⟩ hoo2 (fun _=>rfl) fun n z1 a w hm s=>?_
  obtain ⟨z1c0,s⟩:=s
  replace hm:m149_l1 f v0 (n + 1) z1=some o2s:=hm
  unfold m149_l1 at hm
  refine se ?_
  refine se (rg (sq s (mv (t rfl)) rfl fun a w s=>sq s (fa (f:=Sequence.Steps) (t rfl)) rfl fun a w s=>sq s (ld (t rfl)) rfl fun a w s=>sq s (ln (t rfl)) rfl fun a w s=>sq s (lt (t rfl) (t rfl)) rfl fun a w s=>nl ?_))
  refine cm s rfl hm (fun hb hm=>?_) (fun hb hm=>?_)
  ·refine wpIn_skip ?_
   refine se ?_
   refine wpIn_block ?_
   obtain ⟨x4,hx4,hm⟩:=bs hm
   obtain ⟨x5,hx5,hm⟩:=bs hm
   obtain ⟨x6,hx6,hm⟩:=bs hm
   obtain ⟨x7,hx7,hm⟩:=bs hm
   obtain ⟨x8,hx8,hm⟩:=bs hm
   refine flow s (m:=10) (.cons (.cons (.cons (.cons (.cons (.cons (.cons (.cons (.cons (.cons .nil rfl (mvq (t rfl))) rfl (ld (t rfl))) rfl (cc rfl (oc (t rfl) on) (s213 f _ _ hx4))) rfl (ld (t rfl))) rfl (cc rfl (oc (t rfl) on) (s200 f _ _ hx5))) rfl (mv (t rfl))) rfl (cc rfl (oc (t rfl) (oc (t rfl) on)) (s219 f _ _ _ hx6))) rfl (ix (t rfl) (t rfl) hx7)) rfl (ld (t rfl))) rfl (bsv (o1 (t rfl) o0) rfl rfl (by kernel_rfl))) (by kernel_rfl) rfl rfl fun a w s=>apd (α:=Int) (k:=1000) s (t rfl) rfl (t rfl) hx8 rfl rfl fun c9 a w s=>sq s (saq (t rfl)) rfl fun a w s=>nl ?_
   refine rg (sq s (mv (t rfl)) rfl fun a w s=>sq s (ad (t rfl) ci) rfl fun a w s=>sq s (sa (t rfl)) rfl fun a w s=>nl ?_)
   exact ⟨_,hm,⟨c9,s.pick [0,1,2,3,4,1000]⟩⟩
  ·refine wpIn_exit ?_
   obtain rfl:=si hm
   exact ⟨z1c0,s.pick [0,1,2,3,4,1000]⟩
 ·obtain ⟨o2sc0,s⟩:=s
  replace hm:=hko2
  refine se (rg (sq s (mvq (t rfl)) rfl fun a w s=>sq s (saq (t rfl)) rfl fun a w s=>nl ?_))
  obtain rfl:=si hm
  refine fzk (α:=Int) (k:=1000) hM s rfl fun s=>?_
  refine wpIn_ret ?_
  exact rn hD s rfl (rv1 (ro (ta (k:=1000) (t rfl) rfl)))
def m151 (f:Nat) (v0:Plan) (v1:Int):Option (Expr):=(m200 f ((v0).S)).bind fun x2=>(m213 f ((v0).S)).bind fun x3=>(m219 f x2 v1).bind fun x4=>(idx x3 x4).bind fun x5=>(m217 f x5).bind fun x6=>(bif (v1 == (0:Int)) then (m217 f (wr ((2:Int) * ((v0).S).Actuators))).bind fun x8=>(m216 f (3:Int) ([x6,x8]:List Expr)).bind fun x9=>some x9 else (m219 f x2 v1).bind fun x10=>(idx x2 x10).bind fun x11=>(bif (x11 == v1) then some x6 else (m214 f v0 (wr (v1 - (1:Int)))).bind fun x13=>(app ([x6]:List Expr) x13).bind fun x14=>(m216 f (3:Int) x14).bind fun x16=>some x16))
set_option maxRecDepth 100000 in
theorem s151 (f:Nat) (v0:Plan) (v1:Int) (r:Expr) (hm:m151 f v0 v1=some r):Sp Tryz.prog 151 [Va (v0),Va (v1)] (Va (r)):=by
 unfold m151 at hm
 refine ens Tryz.func151 (by kernel_rfl) rfl Tryz.ntmps151 rfl rfl fun M w_0 a hM hD s=>?_
 refine se (rg (sq s (bx (t rfl)) rfl fun a w s=>sqr 1000 s (alr (cs:=[(.int .i64 (0:Int)),(.int .i64 (0:Int)),(.slice none 0 0)]) (z:=.agg #[(.int .i64 (0:Int)),(.int .i64 (0:Int)),(.slice none 0 0)]) (by kernel_rfl) rfl rfl) rfl rfl fun b1 a w s=>nl ?_))
 obtain ⟨x2,hx2,hm⟩:=bs hm
 obtain ⟨x3,hx3,hm⟩:=bs hm
 refine se (flow s (m:=6) (.cons (.cons (.cons (.cons (.cons (.cons .nil rfl (fa (f:=Plan.S) (t rfl))) rfl (ld (t rfl))) rfl (cc rfl (oc (t rfl) on) (s200 f _ _ hx2))) rfl (fa (f:=Plan.S) (t rfl))) rfl (ld (t rfl))) rfl (cc rfl (oc (t rfl) on) (s213 f _ _ hx3))) (by kernel_rfl) rfl rfl fun a w s=>sq s (sa (t rfl)) rfl fun a w s=>sq s (sa (t rfl)) rfl fun a w s=>nl ?_)
 obtain ⟨x4,hx4,hm⟩:=bs hm
 obtain ⟨x5,hx5,hm⟩:=bs hm
 obtain ⟨x6,hx6,hm⟩:=bs hm
 refine se (rg (sq s (mv (t rfl)) rfl fun a w s=>sq s (mv (t rfl)) rfl fun a w s=>sq s (mv (t rfl)) rfl fun a w s=>sq s (cc rfl (oc (t rfl) (oc (t rfl) on)) (s219 f _ _ _ hx4)) rfl fun a w s=>sq s (ix (t rfl) (t rfl) hx5) rfl fun a w s=>sq s (ld (t rfl)) rfl fun a w s=>sq s (cc rfl (oc (t rfl) on) (s217 f _ _ hx6)) rfl fun a w s=>sqr 1001 s (alr (cs:=[(.int .i64 (0:Int)),(.int .i64 (0:Int)),(.slice none 0 0)]) (z:=.agg #[(.int .i64 (0:Int)),(.int .i64 (0:Int)),(.slice none 0 0)]) (by kernel_rfl) rfl rfl) rfl rfl fun b7 a w s=>swd (K:=1001) s (t rfl) rfl (t rfl) rfl fun w s=>nl ?_))
 refine se ?_
 refine se (rg (sq s (mv (t rfl)) rfl fun a w s=>sq s (eq (t rfl) ci) rfl fun a w s=>nl ?_))
 refine cm s rfl hm (fun hb hm=>?_) (fun hb hm=>?_)
 ·obtain ⟨x8,hx8,hm⟩:=bs hm
  obtain ⟨x9,hx9,hm⟩:=bs hm
  refine se (flow s (m:=8) (.cons (.cons (.cons (.cons (.cons (.cons (.cons (.cons .nil rfl (lm (K:=1001) (t rfl) rfl)) rfl (fa (f:=Plan.S) (t rfl))) rfl (fa (f:=Sequence.Actuators) (t rfl))) rfl (ld (t rfl))) rfl (ml ci (t rfl))) rfl (cc rfl (oc (t rfl) on) (s217 f _ _ hx8))) rfl (bsv (o1 (t rfl) (o1 (t rfl) o0)) rfl rfl (by kernel_rfl))) rfl (cc rfl (oc ci (oc (t rfl) on)) (s216 f _ _ _ hx9))) (by kernel_rfl) rfl rfl fun a w s=>swd (K:=1000) s (t rfl) rfl (t rfl) rfl fun w s=>nl ?_)
  obtain rfl:=si hm
  refine wpIn_ret ?_
  exact rn hD s rfl (rv1 (rc (K:=1000) rfl rfl))
 ·refine wpIn_skip ?_
  refine se ?_
  obtain ⟨x10,hx10,hm⟩:=bs hm
  obtain ⟨x11,hx11,hm⟩:=bs hm
  refine se (rg (sq s (mv (t rfl)) rfl fun a w s=>sq s (mv (t rfl)) rfl fun a w s=>sq s (mv (t rfl)) rfl fun a w s=>sq s (cc rfl (oc (t rfl) (oc (t rfl) on)) (s219 f _ _ _ hx10)) rfl fun a w s=>sq s (ix (t rfl) (t rfl) hx11) rfl fun a w s=>sq s (ld (t rfl)) rfl fun a w s=>sq s (mv (t rfl)) rfl fun a w s=>sq s (eq (t rfl) (t rfl)) rfl fun a w s=>nl ?_))
  refine cm s rfl hm (fun hb hm=>?_) (fun hb hm=>?_)
  ·refine se (rg (sq s (lm (K:=1001) (t rfl) rfl) rfl fun a w s=>swd (K:=1000) s (t rfl) rfl (t rfl) rfl fun w s=>nl ?_))
   obtain rfl:=si hm
   refine wpIn_ret ?_
   exact rn hD s rfl (rv1 (rc (K:=1000) rfl rfl))
  ·refine wpIn_skip ?_
   obtain ⟨x13,hx13,hm⟩:=bs hm
   obtain ⟨x14,hx14,hm⟩:=bs hm
   obtain ⟨x16,hx16,hm⟩:=bs hm
   refine se (flow s (m:=6) (.cons (.cons (.cons (.cons (.cons (.cons .nil rfl (lm (K:=1001) (t rfl) rfl)) rfl (bso (o1 (t rfl) o0) rfl rfl (by kernel_rfl))) rfl (ld (t rfl))) rfl (mv (t rfl))) rfl (sb (t rfl) ci)) rfl (cc rfl (oc (t rfl) (oc (t rfl) on)) (s214 f _ _ _ hx13))) (by kernel_rfl) rfl rfl fun a w s=>opo (d:=41) 1002 s rfl rfl fun c12 s=>apd (α:=Expr) (k:=1002) s (t rfl) rfl (t rfl) hx14 rfl rfl fun c15 a w s=>fzk (α:=Expr) (k:=1002) hM s rfl fun s=>sq s (cc rfl (oc ci (oc (ta (k:=1002) (t rfl) rfl) on)) (s216 f _ _ _ hx16)) rfl fun a w s=>swd (K:=1000) s (t rfl) rfl (t rfl) rfl fun w s=>nl ?_)
   obtain rfl:=si hm
   refine wpIn_ret ?_
   exact rn hD s rfl (rv1 (rc (K:=1000) rfl rfl))
def m152_l4 (f:Nat) (v0:Plan) (v1:List Int) (z1:Int×(List Signal)) (x6:Bool) (z7:Int×(List Expr)):Nat→(Int×(List Expr))→Option (Int×(List Expr))
 | 0,_=>none
 | n+1,z10=>(idx (((v0).S).Steps) z7.1).bind fun x12=>(bif (decide (z10.1 < (((x12).Strokes).length:Int))) then (idx (((v0).S).Steps) z7.1).bind fun x13=>(idx ((x13).Strokes) z10.1).bind fun x14=>(bif (eqq120 x14 (⟨z1.1,x6⟩:Stroke)) then (idx v1 z7.1).bind fun x16=>(m217 f x16).bind fun x17=>(app z10.2 ([x17]:List Expr)).bind fun x18=>some x18 else some z10.2).bind fun z15=>m152_l4 f v0 v1 z1 x6 z7 n ((wr (z10.1 + (1:Int))),z15) else some (z10.1,z10.2))
def m152_l3 (f:Nat) (v0:Plan) (v1:List Int) (z1:Int×(List Signal)) (x6:Bool):Nat→(Int×(List Expr))→Option (Int×(List Expr))
 | 0,_=>none
 | n+1,z7=>(bif (decide (z7.1 < ((((v0).S).Steps).length:Int))) then (m152_l4 f v0 v1 z1 x6 z7 f ((0:Int),z7.2)).bind fun o11s=>m152_l3 f v0 v1 z1 x6 n ((wr (z7.1 + (1:Int))),o11s.2) else some (z7.1,z7.2))
def m152_l2 (f:Nat) (v0:Plan) (v1:List Int) (z1:Int×(List Signal)):Nat→(Int×(List Signal))→Option (Int×(List Signal))
 | 0,_=>none
 | n+1,z4=>(bif (decide (z4.1 < (([true,false]:List Bool).length:Int))) then (idx ([true,false]:List Bool) z4.1).bind fun x6=>(m152_l3 f v0 v1 z1 x6 f ((0:Int),([]:List Expr))).bind fun o8s=>(ssl (⟨#[97,98,99,100,101,102]⟩:ByteArray) z1.1 (wr (z1.1 + (1:Int)))).bind fun x20=>(bif x6 then (cat x20 (⟨#[112]⟩:ByteArray)).bind fun x22=>some x22 else (cat x20 (⟨#[109]⟩:ByteArray)).bind fun x23=>some x23).bind fun z21=>(m216 f (4:Int) o8s.2).bind fun x24=>(app z4.2 ([(⟨z21,(0:Int),x24,(⟨(0:Int),(0:Int),([]:List Expr)⟩:Expr),(0:Int),false⟩:Signal)]:List Signal)).bind fun x25=>m152_l2 f v0 v1 z1 n ((wr (z4.1 + (1:Int))),x25) else some (z4.1,z4.2))
def m152_l1 (f:Nat) (v0:Plan) (v1:List Int):Nat→(Int×(List Signal))→Option (Int×(List Signal))
 | 0,_=>none
 | n+1,z1=>(bif (decide (z1.1 < ((v0).S).Actuators)) then (m152_l2 f v0 v1 z1 f ((0:Int),z1.2)).bind fun o5s=>m152_l1 f v0 v1 n ((wr (z1.1 + (1:Int))),o5s.2) else some (z1.1,z1.2))
def m152 (f:Nat) (v0:Plan) (v1:List Int):Option ((List Signal)):=(m152_l1 f v0 v1 f ((0:Int),([]:List Signal))).bind fun o2s=>some o2s.2
set_option maxRecDepth 100000 in
set_option maxHeartbeats 2000000 in
theorem s152 (f:Nat) (v0:Plan) (v1:List Int) (r:(List Signal)) (hm:m152 f v0 v1=some r):Sp Tryz.prog 152 [Va (v0),Va (v1)] (Va (r)):=by
 unfold m152 at hm
 refine ens Tryz.func152 (by kernel_rfl) rfl Tryz.ntmps152 rfl rfl fun M w_0 a hM hD s=>?_
 refine se (rg (sq s (bx (t rfl)) rfl fun a w s=>sq s (saq cq) rfl fun a w s=>nl ?_))
 refine se (rg (sq s (saq cq) rfl fun a w s=>nl ?_))
 refine se ?_
 refine se (rg (sq s (sa ci) rfl fun a w s=>nl ?_))
 refine nilt (α:=Signal) (d:=5) 1000 131 s rfl rfl fun c3 s=>?_
 obtain ⟨o2s,hoo2,hko2⟩:=bs hm
 refine cpI (fun a w=>∃ (o2sc0:Value),St M w_0 86 [(0,Va (v0)),(1,Va (v1)),(2,Pt (v0)),(4,Qv (.slice none 0 0)),(5,Qv o2sc0),(6,Va (o2s.1)),(1000,Ow 131 o2sc0 (o2s.2))] a w) ?_ fun a w s=>?_
 ·refine wpIn_block ?_
  refine loI (fun n z1=>m152_l1 f v0 v1 n z1) o2s (fun z1 a w=>∃ (z1c0:Value),St M w_0 86 [(0,Va (v0)),(1,Va (v1)),(2,Pt (v0)),(4,Qv (.slice none 0 0)),(5,Qv z1c0),(6,Va (z1.1)),(1000,Ow 131 z1c0 (z1.2))] a w) f ((0:Int),([]:List Signal)) ⟨c3,s.pick [0,1,2,4,5,6,1000]⟩ hoo2 (fun _=>rfl) fun n z1 a w hm s=>?_
  obtain ⟨z1c0,s⟩:=s
  replace hm:m152_l1 f v0 v1 (n + 1) z1=some o2s:=hm
  unfold m152_l1 at hm
  refine se ?_
  refine se (rg (sq s (mv (t rfl)) rfl fun a w s=>sq s (fa (f:=Plan.S) (t rfl)) rfl fun a w s=>sq s (fa (f:=Sequence.Actuators) (t rfl)) rfl fun a w s=>sq s (ld (t rfl)) rfl fun a w s=>sq s (lt (t rfl) (t rfl)) rfl fun a w s=>nl ?_))
  refine cm s rfl hm (fun hb hm=>?_) (fun hb hm=>?_)
  ·refine wpIn_skip ?_
   refine se ?_
   refine wpIn_block ?_
   refine se (rg (sq s (bsv (o1 cb (o1 cb o0)) rfl rfl (by kernel_rfl)) rfl fun a w s=>sq s (ln (t rfl)) rfl fun a w s=>sq s (mv ci) rfl fun a w s=>nl ?_))
   obtain ⟨o5s,hoo5,hko5⟩:=bs hm
   refine cpI (fun a w=>∃ (o5sc0:Value),St M w_0 86 [(0,Va (v0)),(1,Va (v1)),(2,Pt (v0)),(4,Qv (.slice none 0 0)),(5,Qv o5sc0),(6,Va (z1.1)),(20,Va (([true,false]:List Bool))),(21,Va ((([true,false]:List Bool).length:Int))),(22,Va (o5s.1)),(1000,Ow 131 o5sc0 (o5s.2))] a w) ?_ fun a w s=>?_
   ·refine wpIn_block ?_
    refine loI (fun n z4=>m152_l2 f v0 v1 z1 n z4) o5s (fun z4 a w=>∃ (z4c0:Value),St M w_0 86 [(0,Va (v0)),(1,Va (v1)),(2,Pt (v0)),(4,Qv (.slice none 0 0)),(5,Qv z4c0),(6,Va (z1.1)),(20,Va (([true,false]:List Bool))),(21,Va ((([true,false]:List Bool).length:Int))),(22,Va (z4.1)),(1000,Ow 131 z4c0 (z4.2))] a w) f ((0:Int),z1.2) ⟨z1c0,s.pick [0,1,2,4,5,6,20,21,22,1000]⟩ hoo5 (fun _=>rfl) fun n z4 a w hm s=>?_
    obtain ⟨z4c0,s⟩:=s
    replace hm:m152_l2 f v0 v1 z1 (n + 1) z4=some o5s:=hm
    unfold m152_l2 at hm
    refine se (rg (sq s (lt (t rfl) (t rfl)) rfl fun a w s=>nl ?_))
    refine se ?_
    refine cm s rfl hm (fun hb hm=>?_) (fun hb hm=>?_)
    ·refine wpIn_skip ?_
     refine se ?_
     refine wpIn_block ?_
     obtain ⟨x6,hx6,hm⟩:=bs hm
     refine se (rg (sq s (ix (t rfl) (t rfl) hx6) rfl fun a w s=>sq s (ld (t rfl)) rfl fun a w s=>sq s (sa (t rfl)) rfl fun a w s=>nl ?_))
     refine se (rg (sq s (saq cq) rfl fun a w s=>nl ?_))
     refine se ?_
     refine se (rg (sq s (sa ci) rfl fun a w s=>nl ?_))
     refine nilt (α:=Expr) (d:=9) 1001 129 s rfl rfl fun c9 s=>?_
     obtain ⟨o8s,hoo8,hko8⟩:=bs hm
     refine cpI (fun a w=>∃ (o8sc0:Value),St M w_0 86 [(0,Va (v0)),(1,Va (v1)),(2,Pt (v0)),(4,Qv (.slice none 0 0)),(5,Qv z4c0),(6,Va (z1.1)),(8,Va (x6)),(9,Qv o8sc0),(10,Va (o8s.1)),(20,Va (([true,false]:List Bool))),(21,Va ((([true,false]:List Bool).length:Int))),(22,Va (z4.1)),(1000,Ow 131 z4c0 (z4.2)),(1001,Ow 129 o8sc0 (o8s.2))] a w) ?_ fun a w s=>?_
     ·refine wpIn_block ?_
      refine loI (fun n z7=>m152_l3 f v0 v1 z1 x6 n z7) o8s (fun z7 a w=>∃ (z7c0:Value),St M w_0 86 [(0,Va (v0)),(1,Va (v1)),(2,Pt (v0)),(4,Qv (.slice none 0 0)),(5,Qv z4c0),(6,Va (z1.1)),(8,Va (x6)),(9,Qv z7c0),(10,Va (z7.1)),(20,Va (([true,false]:List Bool))),(21,Va ((([true,false]:List Bool).length:Int))),(22,Va (z4.1)),(1000,Ow 131 z4c0 (z4.2)),(1001,Ow 129 z7c0 (z7.2))] a w) f ((0:Int),([]:List Expr)) ⟨c9,s.pick [0,1,2,4,5,6,8,9,10,20,21,22,1000,1001]⟩ hoo8 (fun _=>rfl) fun n z7 a w hm s=>?_
      obtain ⟨z7c0,s⟩:=s
      replace hm:m152_l3 f v0 v1 z1 x6 (n + 1) z7=some o8s:=hm
      unfold m152_l3 at hm
      refine se ?_
      refine se (rg (sq s (mv (t rfl)) rfl fun a w s=>sq s (fa (f:=Plan.S) (t rfl)) rfl fun a w s=>sq s (fa (f:=Sequence.Steps) (t rfl)) rfl fun a w s=>sq s (ld (t rfl)) rfl fun a w s=>sq s (ln (t rfl)) rfl fun a w s=>sq s (lt (t rfl) (t rfl)) rfl fun a w s=>nl ?_))
      refine cm s rfl hm (fun hb hm=>?_) (fun hb hm=>?_)
      ·refine wpIn_skip ?_
       refine se ?_
       refine wpIn_block ?_
       refine se (rg (sq s (sa ci) rfl fun a w s=>nl ?_))
       obtain ⟨o11s,hoo11,hko11⟩:=bs hm
       refine cpI (fun a w=>∃ (o11sc0:Value),St M w_0 86 [(0,Va (v0)),(1,Va (v1)),(2,Pt (v0)),(4,Qv (.slice none 0 0)),(5,Qv z4c0),(6,Va (z1.1)),(8,Va (x6)),(9,Qv o11sc0),(10,Va (z7.1)),(11,Va (o11s.1)),(20,Va (([true,false]:List Bool))),(21,Va ((([true,false]:List Bool).length:Int))),(22,Va (z4.1)),(1000,Ow 131 z4c0 (z4.2)),(1001,Ow 129 o11sc0 (o11s.2))] a w) ?_ fun a w s=>?_
       ·refine wpIn_block ?_
        refine loI (fun n z10=>m152_l4 f v0 v1 z1 x6 z7 n z10) o11s (fun z10 a w=>∃ (z10c0:Value),St M w_0 86 [(0,Va (v0)),(1,Va (v1)),(2,Pt (v0)),(4,Qv (.slice none 0 0)),(5,Qv z4c0),(6,Va (z1.1)),(8,Va (x6)),(9,Qv z10c0),(10,Va (z7.1)),(11,Va (z10.1)),(20,Va (([true,false]:List Bool))),(21,Va ((([true,false]:List Bool).length:Int))),(22,Va (z4.1)),(1000,Ow 131 z4c0 (z4.2)),(1001,Ow 129 z10c0 (z10.2))] a w) f ((0:Int),z7.2) ⟨z7c0,s.pick [0,1,2,4,5,6,8,9,10,11,20,21,22,1000,1001]⟩ hoo11 (fun _=>rfl) fun n z10 a w hm s=>?_
        obtain ⟨z10c0,s⟩:=s
        replace hm:m152_l4 f v0 v1 z1 x6 z7 (n + 1) z10=some o11s:=hm
        unfold m152_l4 at hm
        refine se ?_
        obtain ⟨x12,hx12,hm⟩:=bs hm
        refine se (rg (sq s (mv (t rfl)) rfl fun a w s=>sq s (fa (f:=Plan.S) (t rfl)) rfl fun a w s=>sq s (fa (f:=Sequence.Steps) (t rfl)) rfl fun a w s=>sq s (ld (t rfl)) rfl fun a w s=>sq s (mv (t rfl)) rfl fun a w s=>sq s (ix (t rfl) (t rfl) hx12) rfl fun a w s=>sq s (fa (f:=Step.Strokes) (t rfl)) rfl fun a w s=>sq s (ld (t rfl)) rfl fun a w s=>sq s (ln (t rfl)) rfl fun a w s=>sq s (lt (t rfl) (t rfl)) rfl fun a w s=>nl ?_))
        refine cm s rfl hm (fun hb hm=>?_) (fun hb hm=>?_)
        ·refine wpIn_skip ?_
         refine se ?_
         refine wpIn_block ?_
         obtain ⟨x13,hx13,hm⟩:=bs hm
         obtain ⟨x14,hx14,hm⟩:=bs hm
         refine se (rg (sq s (fa (f:=Plan.S) (t rfl)) rfl fun a w s=>sq s (fa (f:=Sequence.Steps) (t rfl)) rfl fun a w s=>sq s (ld (t rfl)) rfl fun a w s=>sq s (mv (t rfl)) rfl fun a w s=>sq s (ix (t rfl) (t rfl) hx13) rfl fun a w s=>sq s (fa (f:=Step.Strokes) (t rfl)) rfl fun a w s=>sq s (ld (t rfl)) rfl fun a w s=>sq s (mv (t rfl)) rfl fun a w s=>sq s (ix (t rfl) (t rfl) hx14) rfl fun a w s=>sq s (ld (t rfl)) rfl fun a w s=>sq s (mv (t rfl)) rfl fun a w s=>sq s (mv (t rfl)) rfl fun a w s=>sq s (bl120_0_1 (t rfl) (t rfl)) rfl fun a w s=>sq s (seql (t rfl) (t rfl)) rfl fun a w s=>nl ?_))
         obtain ⟨z15,hz15,hkz15⟩:=bs hm
         refine cpI (fun a w=>∃ (z15c0:Value),St M w_0 86 [(0,Va (v0)),(1,Va (v1)),(2,Pt (v0)),(4,Qv (.slice none 0 0)),(5,Qv z4c0),(6,Va (z1.1)),(8,Va (x6)),(9,Qv z15c0),(10,Va (z7.1)),(11,Va (z10.1)),(20,Va (([true,false]:List Bool))),(21,Va ((([true,false]:List Bool).length:Int))),(22,Va (z4.1)),(1000,Ow 131 z4c0 (z4.2)),(1001,Ow 129 z15c0 (z15))] a w) ?_ fun a w s=>?_
         ·refine cm s rfl hz15 (fun hb hm=>?_) (fun hb hm=>?_)
          ·obtain ⟨x16,hx16,hm⟩:=bs hm
           obtain ⟨x17,hx17,hm⟩:=bs hm
           obtain ⟨x18,hx18,hm⟩:=bs hm
           refine rg (sq s (mvq (t rfl)) rfl fun a w s=>sq s (mv (t rfl)) rfl fun a w s=>sq s (mv (t rfl)) rfl fun a w s=>sq s (ix (t rfl) (t rfl) hx16) rfl fun a w s=>sq s (ld (t rfl)) rfl fun a w s=>sq s (cc rfl (oc (t rfl) on) (s217 f _ _ hx17)) rfl fun a w s=>sq s (bsv (o1 (t rfl) o0) rfl rfl (by kernel_rfl)) rfl fun a w s=>apd (α:=Expr) (k:=1001) s (t rfl) rfl (t rfl) hx18 rfl rfl fun c19 a w s=>sq s (saq (t rfl)) rfl fun a w s=>nl ?_)
           obtain rfl:=si hm
           exact ⟨c19,s.pick [0,1,2,4,5,6,8,9,10,11,20,21,22,1000,1001]⟩
          ·refine wpIn_skip ?_
           obtain rfl:=si hm
           exact ⟨z10c0,s.pick [0,1,2,4,5,6,8,9,10,11,20,21,22,1000,1001]⟩
         ·obtain ⟨z15c0,s⟩:=s
          replace hm:=hkz15
          refine rg (sq s (mv (t rfl)) rfl fun a w s=>sq s (ad (t rfl) ci) rfl fun a w s=>sq s (sa (t rfl)) rfl fun a w s=>nl ?_)
          exact ⟨_,hm,⟨z15c0,s.pick [0,1,2,4,5,6,8,9,10,11,20,21,22,1000,1001]⟩⟩
        ·refine wpIn_exit ?_
         obtain rfl:=si hm
         exact ⟨z10c0,s.pick [0,1,2,4,5,6,8,9,10,11,20,21,22,1000,1001]⟩
       ·obtain ⟨o11sc0,s⟩:=s
        replace hm:=hko11
        refine rg (sq s (mv (t rfl)) rfl fun a w s=>sq s (ad (t rfl) ci) rfl fun a w s=>sq s (sa (t rfl)) rfl fun a w s=>nl ?_)
        exact ⟨_,hm,⟨o11sc0,s.pick [0,1,2,4,5,6,8,9,10,20,21,22,1000,1001]⟩⟩
      ·refine wpIn_exit ?_
       obtain rfl:=si hm
       exact ⟨z7c0,s.pick [0,1,2,4,5,6,8,9,10,20,21,22,1000,1001]⟩
     ·obtain ⟨o8sc0,s⟩:=s
      replace hm:=hko8
      obtain ⟨x20,hx20,hm⟩:=bs hm
      refine se (rg (sq s (mv (t rfl)) rfl fun a w s=>sq s (mv (t rfl)) rfl fun a w s=>sq s (ad (t rfl) ci) rfl fun a w s=>sq s (sl2 cs (t rfl) (t rfl) Tryz.underlying9 hx20) rfl fun a w s=>sq s (sa (t rfl)) rfl fun a w s=>nl ?_))
      refine se ?_
      refine se (rg (sq s (mv (t rfl)) rfl fun a w s=>nl ?_))
      obtain ⟨z21,hz21,hkz21⟩:=bs hm
      refine cpI (fun a w=>St M w_0 86 [(0,Va (v0)),(1,Va (v1)),(2,Pt (v0)),(4,Qv (.slice none 0 0)),(5,Qv z4c0),(6,Va (z1.1)),(8,Va (x6)),(9,Qv o8sc0),(10,Va (o8s.1)),(12,Va (z21)),(20,Va (([true,false]:List Bool))),(21,Va ((([true,false]:List Bool).length:Int))),(22,Va (z4.1)),(1000,Ow 131 z4c0 (z4.2)),(1001,Ow 129 o8sc0 (o8s.2))] a w) ?_ fun a w s=>?_
      ·refine cm s rfl hz21 (fun hb hm=>?_) (fun hb hm=>?_)
       ·obtain ⟨x22,hx22,hm⟩:=bs hm
        refine rg (sq s (mv (t rfl)) rfl fun a w s=>sq s (ct (t rfl) cs hx22) rfl fun a w s=>sq s (sa (t rfl)) rfl fun a w s=>nl ?_)
        obtain rfl:=si hm
        exact s.pick [0,1,2,4,5,6,8,9,10,12,20,21,22,1000,1001]
       ·obtain ⟨x23,hx23,hm⟩:=bs hm
        refine rg (sq s (mv (t rfl)) rfl fun a w s=>sq s (ct (t rfl) cs hx23) rfl fun a w s=>sq s (sa (t rfl)) rfl fun a w s=>nl ?_)
        obtain rfl:=si hm
        exact s.pick [0,1,2,4,5,6,8,9,10,12,20,21,22,1000,1001]
      ·replace hm:=hkz21
       obtain ⟨x24,hx24,hm⟩:=bs hm
       obtain ⟨x25,hx25,hm⟩:=bs hm
       refine rg (sq s (mvq (t rfl)) rfl fun a w s=>sq s (mv (t rfl)) rfl fun a w s=>sq s (mvq (t rfl)) rfl fun a w s=>fzk (α:=Expr) (k:=1001) hM s rfl fun s=>sq s (cc rfl (oc ci (oc (ta (k:=1001) (t rfl) rfl) on)) (s216 f _ _ _ hx24)) rfl fun a w s=>sq s (bl131_0_1_2 (t rfl) ci (t rfl)) rfl fun a w s=>sq s (bsv (o1 (t rfl) o0) rfl rfl (by kernel_rfl)) rfl fun a w s=>apd (α:=Signal) (k:=1000) s (t rfl) rfl (t rfl) hx25 rfl rfl fun c26 a w s=>sq s (saq (t rfl)) rfl fun a w s=>nl ?_)
       refine rg (sq s (ad (t rfl) ci) rfl fun a w s=>sq s (mv (t rfl)) rfl fun a w s=>nl ?_)
       exact ⟨_,hm,⟨c26,s.pick [0,1,2,4,5,6,20,21,22,1000]⟩⟩
    ·refine wpIn_exit ?_
     obtain rfl:=si hm
     exact ⟨z4c0,s.pick [0,1,2,4,5,6,20,21,22,1000]⟩
   ·obtain ⟨o5sc0,s⟩:=s
    replace hm:=hko5
    refine rg (sq s (mv (t rfl)) rfl fun a w s=>sq s (ad (t rfl) ci) rfl fun a w s=>sq s (sa (t rfl)) rfl fun a w s=>nl ?_)
    exact ⟨_,hm,⟨o5sc0,s.pick [0,1,2,4,5,6,1000]⟩⟩
  ·refine wpIn_exit ?_
   obtain rfl:=si hm
   exact ⟨z1c0,s.pick [0,1,2,4,5,6,1000]⟩
 ·obtain ⟨o2sc0,s⟩:=s
  replace hm:=hko2
  refine se (rg (sq s (mvq (t rfl)) rfl fun a w s=>sq s (saq (t rfl)) rfl fun a w s=>nl ?_))
  obtain rfl:=si hm
  refine fzk (α:=Signal) (k:=1000) hM s rfl fun s=>?_
  refine wpIn_ret ?_
  exact rn hD s rfl (rv1 (ro (ta (k:=1000) (t rfl) rfl)))
def m201_l1 (v0:Plan):Nat→(Int×Int)→Option (Int×Int)
 | 0,_=>none
 | n+1,z1=>(bif (decide (z1.2 < (((v0).Timers).length:Int))) then (idx ((v0).Timers) z1.2).bind fun x3=>(bif (decide (x3≥(0:Int))) then some (wr (z1.1 + (1:Int))) else some z1.1).bind fun z4=>m201_l1 v0 n (z4,(wr (z1.2 + (1:Int)))) else some (z1.1,z1.2))
def m201 (f:Nat) (v0:Plan):Option (Int):=(m201_l1 v0 f ((0:Int),(0:Int))).bind fun o2s=>some o2s.1
set_option maxRecDepth 100000 in
theorem s201 (f:Nat) (v0:Plan) (r:Int) (hm:m201 f v0=some r):Sp Tryz.prog 201 [Va (v0)] (Va (r)):=by
 unfold m201 at hm
 refine ens Tryz.func201 (by kernel_rfl) rfl Tryz.ntmps201 rfl rfl fun M w_0 a hM hD s=>?_
 refine se (rg (sq s (bx (t rfl)) rfl fun a w s=>sq s (sa ci) rfl fun a w s=>nl ?_))
 refine se (rg (sq s (sa ci) rfl fun a w s=>nl ?_))
 refine se ?_
 refine se (rg (sq s (sa ci) rfl fun a w s=>nl ?_))
 obtain ⟨o2s,hoo2,hko2⟩:=bs hm
 refine cpI (fun a w=>St M w_0 21 [(0,Va (v0)),(1,Pt (v0)),(2,Va ((0:Int))),(3,Va (o2s.1)),(4,Va (o2s.2))] a w) ?_ fun a w s=>?_
 ·refine wpIn_block ?_
  refine loI (fun n z1=>m201_l1 v0 n z1) o2s (fun z1 a w=>St M w_0 21 [(0,Va (v0)),(1,Pt (v0)),(2,Va ((0:Int))),(3,Va (z1.1)),(4,Va (z1.2))] a w) f ((0:Int),(0:Int)) (s.pick [0,1,2,3,4]) hoo2 (fun _=>rfl) fun n z1 a w hm s=>?_
  replace hm:m201_l1 v0 (n + 1) z1=some o2s:=hm
  unfold m201_l1 at hm
  refine se ?_
  refine se (rg (sq s (mv (t rfl)) rfl fun a w s=>sq s (fa (f:=Plan.Timers) (t rfl)) rfl fun a w s=>sq s (ld (t rfl)) rfl fun a w s=>sq s (ln (t rfl)) rfl fun a w s=>sq s (lt (t rfl) (t rfl)) rfl fun a w s=>nl ?_))
  refine cm s rfl hm (fun hb hm=>?_) (fun hb hm=>?_)
  ·refine wpIn_skip ?_
   refine se ?_
   refine wpIn_block ?_
   obtain ⟨x3,hx3,hm⟩:=bs hm
   refine se (rg (sq s (fa (f:=Plan.Timers) (t rfl)) rfl fun a w s=>sq s (ld (t rfl)) rfl fun a w s=>sq s (mv (t rfl)) rfl fun a w s=>sq s (ix (t rfl) (t rfl) hx3) rfl fun a w s=>sq s (ld (t rfl)) rfl fun a w s=>sq s (ge (t rfl) ci) rfl fun a w s=>nl ?_))
   obtain ⟨z4,hz4,hkz4⟩:=bs hm
   refine cpI (fun a w=>St M w_0 21 [(0,Va (v0)),(1,Pt (v0)),(2,Va ((0:Int))),(3,Va (z4)),(4,Va (z1.2))] a w) ?_ fun a w s=>?_
   ·refine cm s rfl hz4 (fun hb hm=>?_) (fun hb hm=>?_)
    ·refine rg (sq s (mv (t rfl)) rfl fun a w s=>sq s (ad (t rfl) ci) rfl fun a w s=>sq s (sa (t rfl)) rfl fun a w s=>nl ?_)
     obtain rfl:=si hm
     exact s.pick [0,1,2,3,4]
    ·refine wpIn_skip ?_
     obtain rfl:=si hm
     exact s.pick [0,1,2,3,4]
   ·replace hm:=hkz4
    refine rg (sq s (mv (t rfl)) rfl fun a w s=>sq s (ad (t rfl) ci) rfl fun a w s=>sq s (sa (t rfl)) rfl fun a w s=>nl ?_)
    exact ⟨_,hm,s.pick [0,1,2,3,4]⟩
  ·refine wpIn_exit ?_
   obtain rfl:=si hm
   exact s.pick [0,1,2,3,4]
 ·replace hm:=hko2
  refine se (rg (sq s (mv (t rfl)) rfl fun a w s=>sq s (sa (t rfl)) rfl fun a w s=>nl ?_))
  obtain rfl:=si hm
  refine wpIn_ret ?_
  exact rn hD s rfl (rv1 (rt rfl))
def m153_l1 (f:Nat) (v0:Sequence) (x1:Plan):Nat→(Int×(List Int))→Option (Int×(List Int))
 | 0,_=>none
 | n+1,z3=>(bif (decide (z3.1 < (((v0).Steps).length:Int))) then (m212 f v0).bind fun x6=>(m200 f v0).bind fun x7=>(m201 f x1).bind fun x8=>(app z3.2 ([(wr ((wr ((wr (x6 + (x7.length:Int))) + x8)) + z3.1))]:List Int)).bind fun x9=>m153_l1 f v0 x1 n ((wr (z3.1 + (1:Int))),x9) else some (z3.1,z3.2))
def m153 (f:Nat) (v0:Sequence):Option ((List Int)):=(m146 f v0).bind fun x1=>(m153_l1 f v0 x1 f ((0:Int),([]:List Int))).bind fun o4s=>some o4s.2
set_option maxRecDepth 100000 in
theorem s153 (f:Nat) (v0:Sequence) (r:(List Int)) (hm:m153 f v0=some r):Sp Tryz.prog 153 [Va (v0)] (Va (r)):=by
 unfold m153 at hm
 refine ens Tryz.func153 (by kernel_rfl) rfl Tryz.ntmps153 rfl rfl fun M w_0 a hM hD s=>?_
 refine se (rg (sq s (bx (t rfl)) rfl fun a w s=>sq s (saq cq) rfl fun a w s=>nl ?_))
 obtain ⟨x1,hx1,hm⟩:=bs hm
 refine se (rg (sq s (ld (t rfl)) rfl fun a w s=>sq s (cc rfl (oc (t rfl) on) (s146 f _ _ hx1)) rfl fun a w s=>sqr 1000 s (alr (cs:=[(.int .i64 (0:Int)),(.slice none 0 0),(.slice none 0 0)]) (z:=.agg #[(.int .i64 (0:Int)),(.slice none 0 0),(.slice none 0 0)]) (by kernel_rfl) rfl rfl) rfl rfl fun b2 a w s=>swd (K:=1000) s (t rfl) rfl (t rfl) rfl fun w s=>nl ?_))
 refine se (rg (sq s (saq cq) rfl fun a w s=>nl ?_))
 refine se ?_
 refine se (rg (sq s (sa ci) rfl fun a w s=>nl ?_))
 refine nilt (α:=Int) (d:=4) 1001 3 s rfl rfl fun c5 s=>?_
 obtain ⟨o4s,hoo4,hko4⟩:=bs hm
 refine cpI (fun a w=>∃ (o4sc0:Value),St M w_0 30 [(0,Va (v0)),(1,Pt (v0)),(2,Qv (.slice none 0 0)),(3,Qv (pb b2 0)),(4,Qv o4sc0),(5,Va (o4s.1)),(1000,Mg b2 (x1)),(1001,Ow 3 o4sc0 (o4s.2))] a w) ?_ fun a w s=>?_
 ·refine wpIn_block ?_
  refine loI (fun n z3=>m153_l1 f v0 x1 n z3) o4s (fun z3 a w=>∃ (z3c0:Value),St M w_0 30 [(0,Va (v0)),(1,Pt (v0)),(2,Qv (.slice none 0 0)),(3,Qv (pb b2 0)),(4,Qv z3c0),(5,Va (z3.1)),(1000,Mg b2 (x1)),(1001,Ow 3 z3c0 (z3.2))] a w) f ((0:Int),([]:List Int)) ⟨c5,s.pick [0,1,2,3,4,5,1000,1001]⟩ hoo4 (fun _=>rfl) fun n z3 a w hm s=>?_
  obtain ⟨z3c0,s⟩:=s
  replace hm:m153_l1 f v0 x1 (n + 1) z3=some o4s:=hm
  unfold m153_l1 at hm
  refine se ?_
  refine se (rg (sq s (mv (t rfl)) rfl fun a w s=>sq s (fa (f:=Sequence.Steps) (t rfl)) rfl fun a w s=>sq s (ld (t rfl)) rfl fun a w s=>sq s (ln (t rfl)) rfl fun a w s=>sq s (lt (t rfl) (t rfl)) rfl fun a w s=>nl ?_))
  refine cm s rfl hm (fun hb hm=>?_) (fun hb hm=>?_)
  ·refine wpIn_skip ?_
   refine se ?_
   refine wpIn_block ?_
   obtain ⟨x6,hx6,hm⟩:=bs hm
   obtain ⟨x7,hx7,hm⟩:=bs hm
   obtain ⟨x8,hx8,hm⟩:=bs hm
   obtain ⟨x9,hx9,hm⟩:=bs hm
   refine flow s (m:=13) (.cons (.cons (.cons (.cons (.cons (.cons (.cons (.cons (.cons (.cons (.cons (.cons (.cons .nil rfl (mvq (t rfl))) rfl (ld (t rfl))) rfl (cc rfl (oc (t rfl) on) (s212 f _ _ hx6))) rfl (ld (t rfl))) rfl (cc rfl (oc (t rfl) on) (s200 f _ _ hx7))) rfl (ln (t rfl))) rfl (ad (t rfl) (t rfl))) rfl (lm (K:=1000) (t rfl) rfl)) rfl (cc rfl (oc (t rfl) on) (s201 f _ _ hx8))) rfl (ad (t rfl) (t rfl))) rfl (mv (t rfl))) rfl (ad (t rfl) (t rfl))) rfl (bsv (o1 (t rfl) o0) rfl rfl (by kernel_rfl))) (by kernel_rfl) rfl rfl fun a w s=>apd (α:=Int) (k:=1001) s (t rfl) rfl (t rfl) hx9 rfl rfl fun c10 a w s=>sq s (saq (t rfl)) rfl fun a w s=>nl ?_
   refine rg (sq s (mv (t rfl)) rfl fun a w s=>sq s (ad (t rfl) ci) rfl fun a w s=>sq s (sa (t rfl)) rfl fun a w s=>nl ?_)
   exact ⟨_,hm,⟨c10,s.pick [0,1,2,3,4,5,1000,1001]⟩⟩
  ·refine wpIn_exit ?_
   obtain rfl:=si hm
   exact ⟨z3c0,s.pick [0,1,2,3,4,5,1000,1001]⟩
 ·obtain ⟨o4sc0,s⟩:=s
  replace hm:=hko4
  refine se (rg (sq s (mvq (t rfl)) rfl fun a w s=>sq s (saq (t rfl)) rfl fun a w s=>nl ?_))
  obtain rfl:=si hm
  refine fzk (α:=Int) (k:=1001) hM s rfl fun s=>?_
  refine wpIn_ret ?_
  exact rn hD s rfl (rv1 (ro (ta (k:=1001) (t rfl) rfl)))
def m179 (f:Nat) (v0:Control):Option (Int):=some (wr ((wr ((wr ((2:Int) * (v0).Actuators)) + (((v0).Inputs).length:Int))) + (((v0).Signals).length:Int)))
set_option maxRecDepth 100000 in
theorem s179 (f:Nat) (v0:Control) (r:Int) (hm:m179 f v0=some r):Sp Tryz.prog 179 [Va (v0)] (Va (r)):=by
 unfold m179 at hm
 refine ens Tryz.func179 (by kernel_rfl) rfl Tryz.ntmps179 rfl rfl fun M w_0 a hM hD s=>?_
 refine se (rg (sq s (bx (t rfl)) rfl fun a w s=>sq s (sa ci) rfl fun a w s=>nl ?_))
 refine se (rg (sq s (fa (f:=Control.Actuators) (t rfl)) rfl fun a w s=>sq s (ld (t rfl)) rfl fun a w s=>sq s (ml ci (t rfl)) rfl fun a w s=>sq s (fa (f:=Control.Inputs) (t rfl)) rfl fun a w s=>sq s (ld (t rfl)) rfl fun a w s=>sq s (ln (t rfl)) rfl fun a w s=>sq s (ad (t rfl) (t rfl)) rfl fun a w s=>sq s (fa (f:=Control.Signals) (t rfl)) rfl fun a w s=>sq s (ld (t rfl)) rfl fun a w s=>sq s (ln (t rfl)) rfl fun a w s=>sq s (ad (t rfl) (t rfl)) rfl fun a w s=>sq s (sa (t rfl)) rfl fun a w s=>nl ?_))
 obtain rfl:=si hm
 refine wpIn_ret ?_
 exact rn hD s rfl (rv1 (rt rfl))
def m154_1_l1 (v0:Int) (x3:Int):Nat→(Int×(List Int)×(List Int))→Option (Int×(List Int)×(List Int))
 | 0,_=>none
 | n+1,z4=>(bif (decide (z4.1 < v0)) then (app z4.2.1 ([(wr ((wr (x3 - (wr ((2:Int) * v0)))) + (wr ((2:Int) * z4.1))))]:List Int)).bind fun x8=>(app z4.2.2 ([(wr ((wr ((wr (x3 - (wr ((2:Int) * v0)))) + (wr ((2:Int) * z4.1)))) + (1:Int)))]:List Int)).bind fun x10=>m154_1_l1 v0 x3 n ((wr (z4.1 + (1:Int))),x8,x10) else some (z4.1,z4.2.1,z4.2.2))
def m154_1 (f:Nat) (v0:Int) (v1:List ByteArray) (v2:List Signal):Option (Control×(List ByteArray)×(List Signal)):=(m179 f (⟨v0,v1,v2,([]:List Int),([]:List Int)⟩:Control)).bind fun x3=>(m154_1_l1 v0 x3 f ((0:Int),([]:List Int),([]:List Int))).bind fun o5s=>some ((⟨v0,v1,v2,o5s.2.1,o5s.2.2⟩:Control),v1,v2)
set_option maxRecDepth 100000 in
set_option maxHeartbeats 2000000 in
theorem s154_1 (f:Nat) (n0:Value) (n1:Value) (v0:Int) (v1:List ByteArray) (v2:List Signal) (r:Control×(List ByteArray)×(List Signal)) (hm:m154_1 f v0 v1 v2=some r):Cg Tryz.prog 154 [Qa [(.int .i64 v0),n0,n1,(.slice none 0 0),(.slice none 0 0)]] [Ow 9 n0 (v1),Ow 131 n1 (v2)] (Rz (fun x:Unit=>Va (r.1)) (fun x=>[At n0 (Va (r.2.1)),At n1 (Va (r.2.2))])):=by
 unfold m154_1 at hm
 refine eng Tryz.func154 (by kernel_rfl) rfl Tryz.ntmps154 rfl rfl fun M w_0 a hM hD s=>?_
 refine se (rg (sqr 1002 s (bxa (t rfl)) rfl rfl fun b1 a w s=>sqr 1003 s (alr (cs:=[(.int .i64 (0:Int)),(.slice none 0 0),(.slice none 0 0),(.slice none 0 0),(.slice none 0 0)]) (z:=.agg #[(.int .i64 (0:Int)),(.slice none 0 0),(.slice none 0 0),(.slice none 0 0),(.slice none 0 0)]) (by kernel_rfl) rfl rfl) rfl rfl fun b2 a w s=>nl ?_))
 obtain ⟨x3,hx3,hm⟩:=bs hm
 refine se (flow s (m:=6) (.cons (.cons (.cons (.cons (.cons (.cons .nil rfl (lra (K:=1002) (ds:=[(.int .i64 v0),n0,n1,(.slice none 0 0),(.slice none 0 0)]) Control (t rfl) rfl rfl rfl rfl)) rfl (tfg (k:=1001) fl1 rfl (tfg (k:=1000) fl1 rfl (cc rfl (oc (qad (y:=(⟨v0,v1,v2,([]:List Int),([]:List Int)⟩:Control)) (t rfl) (rpS25 (l:=([(.int .i64 v0)],[n0],[n1],[(.slice none 0 0)],[(.slice none 0 0)])) rpi (rpz (k:=1000) rfl) (rpz (k:=1001) rfl) (rpn (α:=Int)) (rpn (α:=Int))) rfl) on) (s179 f _ _ hx3))))) rfl (fm_ (off:=0) (m:=0) (q:=0) (t rfl) (by kernel_rfl) rfl)) rfl (lrc (K:=1002) Int (t rfl) rfl rfl rfl rfl)) rfl (ml ci (qi (t rfl)))) rfl (sb (t rfl) (t rfl))) (by kernel_rfl) rfl rfl fun a w s=>sq s (sa (t rfl)) rfl fun a w s=>nl ?_)
 refine se ?_
 refine se (rg (sq s (sa ci) rfl fun a w s=>nl ?_))
 refine nilc (α:=Int) (k:=1002) (cs':=fun c6=>[(.int .i64 v0),n0,n1,c6,(.slice none 0 0)]) 1004 3 s rfl (fun _=>rfl) rfl fun c6 s=>?_
 refine nilc (α:=Int) (k:=1002) (cs':=fun c7=>[(.int .i64 v0),n0,n1,c6,c7]) 1005 3 s rfl (fun _=>rfl) rfl fun c7 s=>?_
 obtain ⟨o5s,hoo5,hko5⟩:=bs hm
 refine cpI (fun a w=>∃ (o5sc0:Value) (o5sc1:Value),St M w_0 37 [(0,Qa [(.int .i64 v0),n0,n1,(.slice none 0 0),(.slice none 0 0)]),(1,Qv (pb b1 0)),(2,Qv (pb b2 0)),(3,Va ((wr (x3 - (wr ((2:Int) * v0)))))),(4,Va (o5s.1)),(1000,Ow 9 n0 (v1)),(1001,Ow 131 n1 (v2)),(1002,Mr b1 [(.int .i64 v0),n0,n1,o5sc0,o5sc1]),(1004,Ow 3 o5sc0 (o5s.2.1)),(1005,Ow 3 o5sc1 (o5s.2.2)),(1003,Mr b2 [(.int .i64 (0:Int)),(.slice none 0 0),(.slice none 0 0),(.slice none 0 0),(.slice none 0 0)])] a w) ?_ fun a w s=>?_
 ·refine wpIn_block ?_
  refine loI (fun n z4=>m154_1_l1 v0 x3 n z4) o5s (fun z4 a w=>∃ (z4c0:Value) (z4c1:Value),St M w_0 37 [(0,Qa [(.int .i64 v0),n0,n1,(.slice none 0 0),(.slice none 0 0)]),(1,Qv (pb b1 0)),(2,Qv (pb b2 0)),(3,Va ((wr (x3 - (wr ((2:Int) * v0)))))),(4,Va (z4.1)),(1000,Ow 9 n0 (v1)),(1001,Ow 131 n1 (v2)),(1002,Mr b1 [(.int .i64 v0),n0,n1,z4c0,z4c1]),(1004,Ow 3 z4c0 (z4.2.1)),(1005,Ow 3 z4c1 (z4.2.2)),(1003,Mr b2 [(.int .i64 (0:Int)),(.slice none 0 0),(.slice none 0 0),(.slice none 0 0),(.slice none 0 0)])] a w) f ((0:Int),([]:List Int),([]:List Int)) ⟨c6,c7,s.pick [0,1,2,3,4,1000,1001,1002,1004,1005,1003]⟩ hoo5 (fun _=>rfl) fun n z4 a w hm s=>?_
  obtain ⟨z4c0,z4c1,s⟩:=s
  replace hm:m154_1_l1 v0 x3 (n + 1) z4=some o5s:=hm
  unfold m154_1_l1 at hm
  refine se ?_
  refine se (rg (sq s (mv (t rfl)) rfl fun a w s=>sq s (fm_ (off:=0) (m:=0) (q:=0) (t rfl) (by kernel_rfl) rfl) rfl fun a w s=>sq s (lrc (K:=1002) Int (t rfl) rfl rfl rfl rfl) rfl fun a w s=>sq s (lt (t rfl) (qi (t rfl))) rfl fun a w s=>nl ?_))
  refine cm s rfl hm (fun hb hm=>?_) (fun hb hm=>?_)
  ·refine wpIn_skip ?_
   refine se ?_
   refine wpIn_block ?_
   obtain ⟨x8,hx8,hm⟩:=bs hm
   obtain ⟨x10,hx10,hm⟩:=bs hm
   refine flow2 [(1,Qv (pb b1 0)),(3,Va ((wr (x3 - (wr ((2:Int) * v0)))))),(4,Va (z4.1)),(1002,Mr b1 [(.int .i64 v0),n0,n1,z4c0,z4c1])] [0,1,2,3,4,5,6] [17,18,19,20,21,22,23] [] [31,30,29,28,27,25] [34,32,31,30,29,28,27,26,25] [(7,[]),(16,[32,31,30,29,28,27,26,25]),(18,[34]),(19,[]),(20,[])] s (.skip (.skip (.skip (.late (.skip (.late (.late (.late (.late (.late (.late (.late (.late (.skip (.cons (.cons (.cons (.cons (.cons (.cons (.cons .nil rfl rfl (fm_ (off:=3) (m:=0) (q:=3) (t rfl) (by kernel_rfl) rfl)) rfl rfl (lrc (K:=1002) (List Int) (t rfl) rfl rfl rfl rfl)) rfl rfl (mv (t rfl))) rfl rfl (mv (t rfl))) rfl rfl (ml ci (t rfl))) rfl rfl (ad (t rfl) (t rfl))) rfl rfl (bsv (o1 (t rfl) o0) rfl rfl (by kernel_rfl))) rfl) rfl rfl (fm_ (off:=4) (m:=0) (q:=4) (t rfl) (by kernel_rfl) rfl)) rfl rfl (lrc (K:=1002) (List Int) (t rfl) rfl rfl rfl rfl)) rfl rfl (mv (t rfl))) rfl rfl (mv (t rfl))) rfl rfl (ml ci (t rfl))) rfl rfl (ad (t rfl) (t rfl))) rfl rfl (ad (t rfl) ci)) rfl rfl (bsv (o1 (t rfl) o0) rfl rfl (by kernel_rfl))) rfl) rfl rfl (fm_ (off:=3) (m:=0) (q:=3) (t rfl) (by kernel_rfl) rfl)) rfl) rfl) rfl) (by kernel_rfl) (by kernel_rfl) rfl rfl (sb1 rfl (sb1 rfl (sb1 rfl (sb1 rfl sb0)))) rfl (by decide) rfl rfl ?_
   refine ⟨⟨fun _=>rfl,rfl,.inr ⟨(sb1 rfl (sb1 rfl (sb1 rfl (sb1 rfl sb0)))),sb0,(sn2 rfl (sn2 rfl (sn2 rfl (sn2 rfl (sn2 rfl (sn2 rfl sn0))))))⟩⟩,by kernel_rfl,_,rfl,fun Ψ a w s=>apd (α:=Int) (k:=1004) s (t rfl) rfl (t rfl) hx8 rfl rfl fun c9 a w s=>nl ?_⟩
   refine nxt Ψ s ?_
   refine ⟨⟨fun _=>rfl,rfl,.inr ⟨(sb1 rfl (sb1 rfl (sb1 rfl (sb1 rfl sb0)))),sb0,(sn2 rfl (sn2 rfl (sn2 rfl (sn2 rfl (sn2 rfl (sn2 rfl sn0))))))⟩⟩,by kernel_rfl,_,rfl,fun Ψ a w s=>apd (α:=Int) (k:=1005) s (t rfl) rfl (t rfl) hx10 rfl rfl fun c11 a w s=>nl ?_⟩
   refine nxt Ψ s ?_
   refine ⟨⟨fun _=>rfl,rfl,.inr ⟨(sb1 rfl (sb1 rfl (sb1 rfl (sb1 rfl sb0)))),sb0,(sn1 rfl (sn1 rfl (sn1 rfl (sn1 rfl (sn1 rfl (sn1 rfl sn0))))))⟩⟩,by kernel_rfl,_,rfl,fun Ψ a w s=>srq (K:=1002) (cs':=[(.int .i64 v0),n0,n1,c9,z4c1]) s (t rfl) rfl (t rfl) (by kernel_rfl) (oco (k:=1004) rfl) rfl rfl fun w s=>nl ?_⟩
   refine nxt Ψ s ?_
   refine ⟨⟨fun _=>rfl,rfl,.inl rfl⟩,by kernel_rfl,_,rfl,fun Ψ a w s=>sq s (fm_ (off:=4) (m:=0) (q:=4) (t rfl) (by kernel_rfl) rfl) rfl fun a w s=>nl ?_⟩
   refine nxt Ψ s ?_
   refine ⟨⟨fun _=>rfl,rfl,.inl rfl⟩,by kernel_rfl,_,rfl,fun Ψ a w s=>srq (K:=1002) (cs':=[(.int .i64 v0),n0,n1,c9,c11]) s (t rfl) rfl (t rfl) (by kernel_rfl) (oco (k:=1005) rfl) rfl rfl fun w s=>nl ?_⟩
   refine nxt Ψ s ?_
   refine ⟨⟨fun _=>rfl,rfl,.inl rfl⟩,fun a w s=>?_⟩
   replace s:St M w_0 37 [(0,Qa [(.int .i64 v0),n0,n1,(.slice none 0 0),(.slice none 0 0)]),(1,Qv (pb b1 0)),(2,Qv (pb b2 0)),(3,Va ((wr (x3 - (wr ((2:Int) * v0)))))),(4,Va (z4.1)),(1000,Ow 9 n0 (v1)),(1001,Ow 131 n1 (v2)),(1002,Mr b1 [(.int .i64 v0),n0,n1,c9,c11]),(1004,Ow 3 c9 (x8)),(1005,Ow 3 c11 (x10)),(1003,Mr b2 [(.int .i64 (0:Int)),(.slice none 0 0),(.slice none 0 0),(.slice none 0 0),(.slice none 0 0)])] a w:=s.pick [0,1,2,3,4,1000,1001,1002,1004,1005,1003]
   refine rg (sq s (mv (t rfl)) rfl fun a w s=>sq s (ad (t rfl) ci) rfl fun a w s=>sq s (sa (t rfl)) rfl fun a w s=>nl ?_)
   exact ⟨_,hm,⟨c9,c11,s.pick [0,1,2,3,4,1000,1001,1002,1004,1005,1003]⟩⟩
  ·refine wpIn_exit ?_
   obtain rfl:=si hm
   exact ⟨z4c0,z4c1,s.pick [0,1,2,3,4,1000,1001,1002,1004,1005,1003]⟩
 ·obtain ⟨o5sc0,o5sc1,s⟩:=s
  replace hm:=hko5
  refine se (rg (sq s (lra (K:=1002) (ds:=[(.int .i64 v0),n0,n1,o5sc0,o5sc1]) Control (t rfl) rfl rfl rfl rfl) rfl fun a w s=>sra (K:=1003) (m:=[(.int .i64 v0),n0,n1,o5sc0,o5sc1]) (cs':=[(.int .i64 v0),n0,n1,o5sc0,o5sc1]) s (t rfl) rfl (t rfl) (by kernel_rfl) rfl rfl rfl fun w s=>nl ?_))
  obtain rfl:=si hm
  refine fzk (α:=ByteArray) (k:=1000) hM s rfl fun s=>?_
  refine fzk (α:=Signal) (k:=1001) hM s rfl fun s=>?_
  refine fzk (α:=Int) (k:=1004) hM s rfl fun s=>?_
  refine fzk (α:=Int) (k:=1005) hM s rfl fun s=>?_
  refine shut (k:=1003) (x:=(⟨v0,v1,v2,o5s.2.1,o5s.2.2⟩:Control)) s rfl (rpS25 (l:=([(.int .i64 v0)],[n0],[n1],[o5sc0],[o5sc1])) rpi (rpz (k:=1000) rfl) (rpz (k:=1001) rfl) (rpz (k:=1004) rfl) (rpz (k:=1005) rfl)) fun s=>?_
  refine wpIn_ret ?_
  exact rz [1000,1001] () hM hD s rfl (rv1 (rc (K:=1003) rfl rfl)) (kc rfl (kc rfl kn)) rfl
def m81_l1 (f:Nat) (v0:Sequence) (x2:Plan):Nat→(Int×(List Signal))→Option (Int×(List Signal))
 | 0,_=>none
 | n+1,z12=>(bif (decide (z12.1 < (((v0).Steps).length:Int))) then (m150 f (⟨#[115]⟩:ByteArray) z12.1).bind fun x14=>(m151 f x2 z12.1).bind fun x15=>(app z12.2 ([(⟨x14,(0:Int),x15,(⟨(0:Int),(0:Int),([]:List Expr)⟩:Expr),(0:Int),false⟩:Signal)]:List Signal)).bind fun x16=>m81_l1 f v0 x2 n ((wr (z12.1 + (1:Int))),x16) else some (z12.1,z12.2))
def m81 (f:Nat) (v0:Sequence):Option (Control):=(m146 f v0).bind fun x2=>(m147 f x2).bind fun x5=>(m149 f v0).bind fun x8=>(m148 f x2 x8).bind fun x9=>(app x5 x9).bind fun x10=>(m81_l1 f v0 x2 f ((0:Int),x10)).bind fun o13s=>(m153 f v0).bind fun x18=>(m152 f x2 x18).bind fun x19=>(app o13s.2 x19).bind fun x20=>(m154_1 f ((v0).Actuators) ([(⟨#[115,116,97,114,116]⟩:ByteArray)]:List ByteArray) x20).bind fun x22=>some x22.1
set_option maxRecDepth 100000 in
set_option maxHeartbeats 2000000 in
theorem s81 (f:Nat) (v0:Sequence) (r:Control) (hm:m81 f v0=some r):Sp Tryz.prog 81 [Va (v0)] (Va (r)):=by
 unfold m81 at hm
 refine ens Tryz.func81 (by kernel_rfl) rfl Tryz.ntmps81 rfl rfl fun M w_0 a hM hD s=>?_
 refine se (rg (sq s (bx (t rfl)) rfl fun a w s=>sqr 1000 s (alr (cs:=[(.int .i64 (0:Int)),(.slice none 0 0),(.slice none 0 0),(.slice none 0 0),(.slice none 0 0)]) (z:=.agg #[(.int .i64 (0:Int)),(.slice none 0 0),(.slice none 0 0),(.slice none 0 0),(.slice none 0 0)]) (by kernel_rfl) rfl rfl) rfl rfl fun b1 a w s=>nl ?_))
 obtain ⟨x2,hx2,hm⟩:=bs hm
 refine se (rg (sq s (ld (t rfl)) rfl fun a w s=>sq s (cc rfl (oc (t rfl) on) (s146 f _ _ hx2)) rfl fun a w s=>sqr 1001 s (alr (cs:=[(.int .i64 (0:Int)),(.slice none 0 0),(.slice none 0 0)]) (z:=.agg #[(.int .i64 (0:Int)),(.slice none 0 0),(.slice none 0 0)]) (by kernel_rfl) rfl rfl) rfl rfl fun b3 a w s=>swd (K:=1001) s (t rfl) rfl (t rfl) rfl fun w s=>nl ?_))
 obtain ⟨x5,hx5,hm⟩:=bs hm
 refine se (flow2 [] [0,1,2,3,4] [8,9,10,11,12] [] [] [4] [(5,[]),(7,[4])] s (.skip (.late (.skip (.cons (.cons (.cons (.cons (.cons .nil rfl rfl (fa (f:=Sequence.Actuators) (t rfl))) rfl rfl (ld (t rfl))) rfl rfl (bso (o1 cs o0) rfl rfl (by kernel_rfl))) rfl rfl (lm (K:=1001) (t rfl) rfl)) rfl rfl (cc rfl (oc (t rfl) on) (s147 f _ _ hx5))) rfl) rfl rfl (alr (cs:=[(.int .i64 (0:Int)),(.slice none 0 0),(.slice none 0 0),(.slice none 0 0),(.slice none 0 0)]) (z:=.agg #[(.int .i64 (0:Int)),(.slice none 0 0),(.slice none 0 0),(.slice none 0 0),(.slice none 0 0)]) (by kernel_rfl) rfl rfl)) rfl) (by kernel_rfl) (by kernel_rfl) rfl rfl sb0 rfl (by decide) rfl rfl ?_)
 refine ⟨⟨fun _=>rfl,rfl,.inr ⟨sb0,sb0,sn0⟩⟩,by kernel_rfl,_,rfl,fun Ψ a w s=>opo (d:=10) 1004 s rfl rfl fun c4 s=>opz (d:=12) [1005] s rfl (fun _=>rfl) rfl fun y7 s=>sq s (bla (L:=[(0,1),(1,1),(2,1),(3,1),(4,1)]) (z:=[(.int .i64 (0:Int)),(.slice none 0 0),(.slice none 0 0),(.slice none 0 0),(.slice none 0 0)]) (res:=[(.int .i64 ((v0).Actuators)),c4,y7,(.slice none 0 0),(.slice none 0 0)]) rfl (by kernel_rfl) (by kernel_rfl) (pdq (iq (t rfl)) (ocr rfl) (pdq (t rfl) (oco (k:=1004) rfl) (pdq (t rfl) (oco (k:=1005) rfl) pdn))) rfl rfl) rfl fun a w s=>nl ?_⟩
 refine nxt Ψ s ?_
 refine ⟨⟨fun _=>rfl,rfl,.inr ⟨sb0,sb0,sn0⟩⟩,by kernel_rfl,_,rfl,fun Ψ a w s=>opr (d:=4) 1006 s rfl rfl fun b6 s=>sra (K:=1006) (m:=[(.int .i64 ((v0).Actuators)),c4,y7,(.slice none 0 0),(.slice none 0 0)]) (cs':=[(.int .i64 ((v0).Actuators)),c4,y7,(.slice none 0 0),(.slice none 0 0)]) s (t rfl) rfl (t rfl) (by kernel_rfl) rfl rfl rfl fun w s=>nl ?_⟩
 refine nxt Ψ s ?_
 refine ⟨⟨fun _=>rfl,rfl,.inl rfl⟩,fun a w s=>?_⟩
 replace s:St M w_0 50 [(0,Va (v0)),(1,Pt (v0)),(2,Qv (pb b1 0)),(3,Qv (pb b3 0)),(4,Qv (pb b6 0)),(1000,Mr b1 [(.int .i64 (0:Int)),(.slice none 0 0),(.slice none 0 0),(.slice none 0 0),(.slice none 0 0)]),(1001,Mg b3 (x2)),(1006,Mr b6 [(.int .i64 ((v0).Actuators)),c4,y7,(.slice none 0 0),(.slice none 0 0)]),(1004,Ow 9 c4 (([(⟨#[115,116,97,114,116]⟩:ByteArray)]:List ByteArray))),(1005,Ow 131 y7 (x5))] a w:=s.pick [0,1,2,3,4,1000,1001,1006,1004,1005]
 obtain ⟨x8,hx8,hm⟩:=bs hm
 obtain ⟨x9,hx9,hm⟩:=bs hm
 obtain ⟨x10,hx10,hm⟩:=bs hm
 refine se (flow s (m:=6) (.cons (.cons (.cons (.cons (.cons (.cons .nil rfl (fm_ (off:=2) (m:=0) (q:=2) (t rfl) (by kernel_rfl) rfl)) rfl (lrc (K:=1006) (List Signal) (t rfl) rfl rfl rfl rfl)) rfl (lm (K:=1001) (t rfl) rfl)) rfl (ld (t rfl))) rfl (cc rfl (oc (t rfl) on) (s149 f _ _ hx8))) rfl (cc rfl (oc (t rfl) (oc (t rfl) on)) (s148 f _ _ _ hx9))) (by kernel_rfl) rfl rfl fun a w s=>apd (α:=Signal) (k:=1005) s (t rfl) rfl (t rfl) hx10 rfl rfl fun c11 a w s=>sq s (fm_ (off:=2) (m:=0) (q:=2) (t rfl) (by kernel_rfl) rfl) rfl fun a w s=>srq (K:=1006) (cs':=[(.int .i64 ((v0).Actuators)),c4,c11,(.slice none 0 0),(.slice none 0 0)]) s (t rfl) rfl (t rfl) (by kernel_rfl) (oco (k:=1005) rfl) rfl rfl fun w s=>nl ?_)
 refine se ?_
 refine se (rg (sq s (sa ci) rfl fun a w s=>nl ?_))
 obtain ⟨o13s,hoo13,hko13⟩:=bs hm
 refine cpI (fun a w=>∃ (o13sc0:Value),St M w_0 50 [(0,Va (v0)),(1,Pt (v0)),(2,Qv (pb b1 0)),(3,Qv (pb b3 0)),(4,Qv (pb b6 0)),(5,Va (o13s.1)),(1000,Mr b1 [(.int .i64 (0:Int)),(.slice none 0 0),(.slice none 0 0),(.slice none 0 0),(.slice none 0 0)]),(1001,Mg b3 (x2)),(1006,Mr b6 [(.int .i64 ((v0).Actuators)),c4,o13sc0,(.slice none 0 0),(.slice none 0 0)]),(1004,Ow 9 c4 (([(⟨#[115,116,97,114,116]⟩:ByteArray)]:List ByteArray))),(1005,Ow 131 o13sc0 (o13s.2))] a w) ?_ fun a w s=>?_
 ·refine wpIn_block ?_
  refine loI (fun n z12=>m81_l1 f v0 x2 n z12) o13s (fun z12 a w=>∃ (z12c0:Value),St M w_0 50 [(0,Va (v0)),(1,Pt (v0)),(2,Qv (pb b1 0)),(3,Qv (pb b3 0)),(4,Qv (pb b6 0)),(5,Va (z12.1)),(1000,Mr b1 [(.int .i64 (0:Int)),(.slice none 0 0),(.slice none 0 0),(.slice none 0 0),(.slice none 0 0)]),(1001,Mg b3 (x2)),(1006,Mr b6 [(.int .i64 ((v0).Actuators)),c4,z12c0,(.slice none 0 0),(.slice none 0 0)]),(1004,Ow 9 c4 (([(⟨#[115,116,97,114,116]⟩:ByteArray)]:List ByteArray))),(1005,Ow 131 z12c0 (z12.2))] a w) f ((0:Int),x10) ⟨c11,s.pick [0,1,2,3,4,5,1000,1001,1006,1004,1005]⟩ hoo13 (fun _=>rfl) fun n z12 a w hm s=>?_
  obtain ⟨z12c0,s⟩:=s
  replace hm:m81_l1 f v0 x2 (n + 1) z12=some o13s:=hm
  unfold m81_l1 at hm
  refine se ?_
  refine se (rg (sq s (mv (t rfl)) rfl fun a w s=>sq s (fa (f:=Sequence.Steps) (t rfl)) rfl fun a w s=>sq s (ld (t rfl)) rfl fun a w s=>sq s (ln (t rfl)) rfl fun a w s=>sq s (lt (t rfl) (t rfl)) rfl fun a w s=>nl ?_))
  refine cm s rfl hm (fun hb hm=>?_) (fun hb hm=>?_)
  ·refine wpIn_skip ?_
   refine se ?_
   refine wpIn_block ?_
   obtain ⟨x14,hx14,hm⟩:=bs hm
   obtain ⟨x15,hx15,hm⟩:=bs hm
   obtain ⟨x16,hx16,hm⟩:=bs hm
   refine flow s (m:=9) (.cons (.cons (.cons (.cons (.cons (.cons (.cons (.cons (.cons .nil rfl (fm_ (off:=2) (m:=0) (q:=2) (t rfl) (by kernel_rfl) rfl)) rfl (lrc (K:=1006) (List Signal) (t rfl) rfl rfl rfl rfl)) rfl (mv (t rfl))) rfl (cc rfl (oc cs (oc (t rfl) on)) (s150 f _ _ _ hx14))) rfl (lm (K:=1001) (t rfl) rfl)) rfl (mv (t rfl))) rfl (cc rfl (oc (t rfl) (oc (t rfl) on)) (s151 f _ _ _ hx15))) rfl (bl131_0_1_2 (t rfl) ci (t rfl))) rfl (bsv (o1 (t rfl) o0) rfl rfl (by kernel_rfl))) (by kernel_rfl) rfl rfl fun a w s=>apd (α:=Signal) (k:=1005) s (t rfl) rfl (t rfl) hx16 rfl rfl fun c17 a w s=>sq s (fm_ (off:=2) (m:=0) (q:=2) (t rfl) (by kernel_rfl) rfl) rfl fun a w s=>srq (K:=1006) (cs':=[(.int .i64 ((v0).Actuators)),c4,c17,(.slice none 0 0),(.slice none 0 0)]) s (t rfl) rfl (t rfl) (by kernel_rfl) (oco (k:=1005) rfl) rfl rfl fun w s=>nl ?_
   refine rg (sq s (mv (t rfl)) rfl fun a w s=>sq s (ad (t rfl) ci) rfl fun a w s=>sq s (sa (t rfl)) rfl fun a w s=>nl ?_)
   exact ⟨_,hm,⟨c17,s.pick [0,1,2,3,4,5,1000,1001,1006,1004,1005]⟩⟩
  ·refine wpIn_exit ?_
   obtain rfl:=si hm
   exact ⟨z12c0,s.pick [0,1,2,3,4,5,1000,1001,1006,1004,1005]⟩
 ·obtain ⟨o13sc0,s⟩:=s
  replace hm:=hko13
  obtain ⟨x18,hx18,hm⟩:=bs hm
  obtain ⟨x19,hx19,hm⟩:=bs hm
  obtain ⟨x20,hx20,hm⟩:=bs hm
  refine se (flow s (m:=6) (.cons (.cons (.cons (.cons (.cons (.cons .nil rfl (fm_ (off:=2) (m:=0) (q:=2) (t rfl) (by kernel_rfl) rfl)) rfl (lrc (K:=1006) (List Signal) (t rfl) rfl rfl rfl rfl)) rfl (lm (K:=1001) (t rfl) rfl)) rfl (ld (t rfl))) rfl (cc rfl (oc (t rfl) on) (s153 f _ _ hx18))) rfl (cc rfl (oc (t rfl) (oc (t rfl) on)) (s152 f _ _ _ hx19))) (by kernel_rfl) rfl rfl fun a w s=>apd (α:=Signal) (k:=1005) s (t rfl) rfl (t rfl) hx20 rfl rfl fun c21 a w s=>sq s (fm_ (off:=2) (m:=0) (q:=2) (t rfl) (by kernel_rfl) rfl) rfl fun a w s=>srq (K:=1006) (cs':=[(.int .i64 ((v0).Actuators)),c4,c21,(.slice none 0 0),(.slice none 0 0)]) s (t rfl) rfl (t rfl) (by kernel_rfl) (oco (k:=1005) rfl) rfl rfl fun w s=>nl ?_)
  obtain ⟨x22,hx22,hm⟩:=bs hm
  refine se (rg (sq s (lra (K:=1006) (ds:=[(.int .i64 ((v0).Actuators)),c4,c21,(.slice none 0 0),(.slice none 0 0)]) Control (t rfl) rfl rfl rfl rfl) rfl fun a w s=>cgv [1004,1005] [1004,1005] hM s qf rfl (oc (t rfl) on) vn vn (s154_1 f c4 c21 _ _ _ _ hx22) (kc rfl (kc rfl kn)) rfl (fun _=>rfl) rfl rfl rfl fun y23 a w s=>swd (K:=1000) s (t rfl) rfl (t rfl) rfl fun w s=>nl ?_))
  obtain rfl:=si hm
  refine wpIn_ret ?_
  exact rn hD s rfl (rv1 (rc (K:=1000) rfl rfl))
def m193 (f:Nat) (v0:Int) (v1:Space):Option (Bool):=some ((decide (v0 < (0:Int))) || (decide (v0≥(((v1).States).length:Int))))
set_option maxRecDepth 100000 in
theorem s193 (f:Nat) (v0:Int) (v1:Space) (r:Bool) (hm:m193 f v0 v1=some r):Sp Tryz.prog 193 [Va (v0),Pt (v1)] (Va (r)):=by
 unfold m193 at hm
 refine ens Tryz.func193 (by kernel_rfl) rfl Tryz.ntmps193 rfl rfl fun M w_0 a hM hD s=>?_
 refine se (rg (sq s (sa cb) rfl fun a w s=>nl ?_))
 refine se (rg (sq s (mv (t rfl)) rfl fun a w s=>sq s (lt (t rfl) ci) rfl fun a w s=>sq s (mv (t rfl)) rfl fun a w s=>sg s rfl rfl (fun hb=>(mv (t rfl))) rfl fun a w s=>sg s rfl rfl (fun hb=>(fa (f:=Space.States) (t rfl))) rfl fun a w s=>sg s rfl rfl (fun hb=>(ld (tg rfl hb))) rfl fun a w s=>sg s rfl rfl (fun hb=>(ln (tg rfl hb))) rfl fun a w s=>sg s rfl rfl (fun hb=>(ge (tg rfl hb) (tg rfl hb))) rfl fun a w s=>sq s (poP (t rfl) rfl) rfl fun a w s=>sq s (sa (t rfl)) rfl fun a w s=>nl ?_))
 obtain rfl:=si hm
 refine wpIn_ret ?_
 exact rn hD s rfl (rv1 (rt rfl))
def m122_l1 (f:Nat) (v0:List Int) (v1:Space):Nat→Int→Option (Lo (Int) (Int))
 | 0,_=>none
 | n+1,z1=>(bif (decide (z1 < (v0.length:Int))) then (idx v0 z1).bind fun x3=>(m193 f x3 v1).bind fun x4=>(bif x4 then some (.ret z1) else m122_l1 f v0 v1 n (wr (z1 + (1:Int)))) else some (.brk z1))
def m122 (f:Nat) (v0:List Int) (v1:Space):Option (Int):=((m122_l1 f v0 v1 f (0:Int)).bind fun o2=>match o2 with | .brk o2s=>some (-1:Int) | .ret r=>some r)
set_option maxRecDepth 100000 in
theorem s122 (f:Nat) (n0:Value) (v0:List Int) (v1:Space) (r:Int) (hm:m122 f v0 v1=some r):Cg Tryz.prog 122 [Va (v0),Qv (fv 193 [] [n0])] [At n0 (Pt (v1))] (Rz (fun x:Unit=>Va (r)) (fun x=>[At n0 (Pt (v1))])):=by
 unfold m122 at hm
 refine eng Tryz.func122 (by kernel_rfl) rfl Tryz.ntmps122 rfl rfl fun M w_0 a hM hD s=>?_
 refine se (rg (sq s (sa ci) rfl fun a w s=>nl ?_))
 refine se ?_
 refine se (rg (sq s (mv (t rfl)) rfl fun a w s=>sq s (ln (t rfl)) rfl fun a w s=>sq s (mv ci) rfl fun a w s=>nl ?_))
 obtain ⟨o2,hoo2,hko2⟩:=bs hm
 refine lcI o2 (fun o2s a w=>St M w_0 19 [(0,Va (v0)),(1,Qv (fv 193 [] [n0])),(4,Va ((0:Int))),(7,Va ((v0.length:Int))),(8,Va (o2s)),(1000,At n0 (Pt (v1)))] a w) ?_ fun o2s a w ho s=>?_
 ·refine wpIn_block ?_
  refine loI (fun n z1=>m122_l1 f v0 v1 n z1) o2 (fun z1 a w=>St M w_0 19 [(0,Va (v0)),(1,Qv (fv 193 [] [n0])),(4,Va ((0:Int))),(7,Va ((v0.length:Int))),(8,Va (z1)),(1000,At n0 (Pt (v1)))] a w) f (0:Int) (s.pick [0,1,4,7,8,1000]) hoo2 (fun _=>rfl) fun n z1 a w hm s=>?_
  replace hm:m122_l1 f v0 v1 (n + 1) z1=some o2:=hm
  unfold m122_l1 at hm
  refine se (rg (sq s (lt (t rfl) (t rfl)) rfl fun a w s=>nl ?_))
  refine se ?_
  refine cm s rfl hm (fun hb hm=>?_) (fun hb hm=>?_)
  ·refine wpIn_skip ?_
   refine se ?_
   refine wpIn_block ?_
   refine se (rg (sq s (mv (t rfl)) rfl fun a w s=>sq s (sa (t rfl)) rfl fun a w s=>nl ?_))
   obtain ⟨x3,hx3,hm⟩:=bs hm
   obtain ⟨x4,hx4,hm⟩:=bs hm
   refine se (rg (sq s (mvq (t rfl)) rfl fun a w s=>sq s (mv (t rfl)) rfl fun a w s=>sq s (mv (t rfl)) rfl fun a w s=>sq s (ix (t rfl) (t rfl) hx3) rfl fun a w s=>sq s (ld (t rfl)) rfl fun a w s=>sq s (ccv (t rfl) rfl (oc (t rfl) on) vn (va (k:=1000) rfl vn) (s193 f _ _ _ hx4)) rfl fun a w s=>nl ?_))
   refine cm s rfl hm (fun hb hm=>?_) (fun hb hm=>?_)
   ·refine se (rg (sq s (mv (t rfl)) rfl fun a w s=>sq s (sa (t rfl)) rfl fun a w s=>nl ?_))
    obtain rfl:=si hm
    replace hm:=hko2
    dsimp only at hm
    obtain rfl:=si hm
    refine wpIn_ret ?_
    exact rz [1000] () hM hD s rfl (rv1 (rt rfl)) (kc rfl kn) rfl
   ·refine wpIn_skip ?_
    refine rg (sq s (ad (t rfl) ci) rfl fun a w s=>sq s (mv (t rfl)) rfl fun a w s=>nl ?_)
    exact ⟨_,hm,s.pick [0,1,4,7,8,1000]⟩
  ·refine wpIn_exit ?_
   exact ⟨_,(si hm).symm,s.pick [0,1,4,7,8,1000]⟩
 ·subst ho
  replace hm:=hko2
  dsimp only at hm
  refine se (rg (sq s (sa ci) rfl fun a w s=>nl ?_))
  obtain rfl:=si hm
  refine wpIn_ret ?_
  exact rz [1000] () hM hD s rfl (rv1 (rt rfl)) (kc rfl kn) rfl
def m192 (f:Nat) (v0:List Int) (v1:Space):Option (Bool):=(m122 f v0 v1).bind fun x1=>some (decide (x1≥(0:Int)))
set_option maxRecDepth 100000 in
theorem s192 (f:Nat) (n0:Value) (v0:List Int) (v1:Space) (r:Bool) (hm:m192 f v0 v1=some r):Cg Tryz.prog 192 [Va (v0),Qv (fv 193 [] [n0])] [At n0 (Pt (v1))] (Rz (fun x:Unit=>Va (r)) (fun x=>[At n0 (Pt (v1))])):=by
 unfold m192 at hm
 refine eng Tryz.func192 (by kernel_rfl) rfl Tryz.ntmps192 rfl rfl fun M w_0 a hM hD s=>?_
 refine se (rg (sq s (sa cb) rfl fun a w s=>nl ?_))
 obtain ⟨x1,hx1,hm⟩:=bs hm
 refine se (rg (sq s (mv (t rfl)) rfl fun a w s=>sq s (mvq (t rfl)) rfl fun a w s=>cgv [1000] [1000] hM s qf rfl (oc (t rfl) (oc (t rfl) on)) vn vn (s122 f n0 _ _ _ hx1) (kc rfl kn) rfl (fun _=>rfl) rfl rfl rfl fun y2 a w s=>sq s (ge (t rfl) ci) rfl fun a w s=>sq s (sa (t rfl)) rfl fun a w s=>nl ?_))
 obtain rfl:=si hm
 refine wpIn_ret ?_
 exact rz [1000] () hM hD s rfl (rv1 (rt rfl)) (kc rfl kn) rfl
def m114_l1 (f:Nat) (v0:Space):Nat→Int→Option (Lo (Int) (Int))
 | 0,_=>none
 | n+1,z1=>(bif (decide (z1 < (((v0).Moves).length:Int))) then (idx ((v0).Moves) z1).bind fun x3=>(m192 f x3 v0).bind fun x5=>(bif x5 then some (.ret (6:Int)) else m114_l1 f v0 n (wr (z1 + (1:Int)))) else some (.brk z1))
def m114 (f:Nat) (v0:Space):Option (Int):=(bif ((((v0).States).length:Int) == (0:Int)) then some (13:Int) else (bif (decide ((((v0).States).length:Int) > (16384:Int))) then some (5:Int) else (bif ((((v0).Moves).length:Int) != (((v0).States).length:Int)) then some (8:Int) else ((m114_l1 f v0 f (0:Int)).bind fun o2=>match o2 with | .brk o2s=>some (0:Int) | .ret r=>some r))))
set_option maxRecDepth 100000 in
theorem s114 (f:Nat) (v0:Space) (r:Int) (hm:m114 f v0=some r):Sp Tryz.prog 114 [Va (v0)] (Va (r)):=by
 unfold m114 at hm
 refine ens Tryz.func114 (by kernel_rfl) rfl Tryz.ntmps114 rfl rfl fun M w_0 a hM hD s=>?_
 refine se (rg (sq s (bx (t rfl)) rfl fun a w s=>sq s (sa ci) rfl fun a w s=>nl ?_))
 refine se ?_
 refine wpIn_block ?_
 refine se (rg (sq s (fa (f:=Space.States) (t rfl)) rfl fun a w s=>sq s (ld (t rfl)) rfl fun a w s=>sq s (ln (t rfl)) rfl fun a w s=>sq s (eq (t rfl) ci) rfl fun a w s=>sq s (sa (t rfl)) rfl fun a w s=>nl ?_))
 refine cm s rfl hm (fun hb hm=>?_) (fun hb hm=>?_)
 ·refine se (rg (sq s (sa ci) rfl fun a w s=>nl ?_))
  obtain rfl:=si hm
  refine wpIn_ret ?_
  exact rn hD s rfl (rv1 (rt rfl))
 ·refine se (rg (sq s (fa (f:=Space.States) (t rfl)) rfl fun a w s=>sq s (ld (t rfl)) rfl fun a w s=>sq s (ln (t rfl)) rfl fun a w s=>sq s (gt (t rfl) ci) rfl fun a w s=>sq s (sa (t rfl)) rfl fun a w s=>nl ?_))
  refine cm s rfl hm (fun hb hm=>?_) (fun hb hm=>?_)
  ·refine se (rg (sq s (sa ci) rfl fun a w s=>nl ?_))
   obtain rfl:=si hm
   refine wpIn_ret ?_
   exact rn hD s rfl (rv1 (rt rfl))
  ·refine se (rg (sq s (fa (f:=Space.Moves) (t rfl)) rfl fun a w s=>sq s (ld (t rfl)) rfl fun a w s=>sq s (ln (t rfl)) rfl fun a w s=>sq s (fa (f:=Space.States) (t rfl)) rfl fun a w s=>sq s (ld (t rfl)) rfl fun a w s=>sq s (ln (t rfl)) rfl fun a w s=>sq s (ne (t rfl) (t rfl)) rfl fun a w s=>sq s (sa (t rfl)) rfl fun a w s=>nl ?_))
   refine cm s rfl hm (fun hb hm=>?_) (fun hb hm=>?_)
   ·refine se (rg (sq s (sa ci) rfl fun a w s=>nl ?_))
    obtain rfl:=si hm
    refine wpIn_ret ?_
    exact rn hD s rfl (rv1 (rt rfl))
   ·refine wpIn_skip ?_
    refine se ?_
    refine se (rg (sq s (fa (f:=Space.Moves) (t rfl)) rfl fun a w s=>sq s (ld (t rfl)) rfl fun a w s=>sq s (ln (t rfl)) rfl fun a w s=>sq s (mv ci) rfl fun a w s=>nl ?_))
    obtain ⟨o2,hoo2,hko2⟩:=bs hm
    refine lcI o2 (fun o2s a w=>St M w_0 34 [(0,Va (v0)),(1,Pt (v0)),(2,Va ((0:Int))),(24,Va ((v0).Moves)),(25,Va ((((v0).Moves).length:Int))),(26,Va (o2s))] a w) ?_ fun o2s a w ho s=>?_
    ·refine wpIn_block ?_
     refine loI (fun n z1=>m114_l1 f v0 n z1) o2 (fun z1 a w=>St M w_0 34 [(0,Va (v0)),(1,Pt (v0)),(2,Va ((0:Int))),(24,Va ((v0).Moves)),(25,Va ((((v0).Moves).length:Int))),(26,Va (z1))] a w) f (0:Int) (s.pick [0,1,2,24,25,26]) hoo2 (fun _=>rfl) fun n z1 a w hm s=>?_
     replace hm:m114_l1 f v0 (n + 1) z1=some o2:=hm
     unfold m114_l1 at hm
     refine se (rg (sq s (lt (t rfl) (t rfl)) rfl fun a w s=>nl ?_))
     refine se ?_
     refine cm s rfl hm (fun hb hm=>?_) (fun hb hm=>?_)
     ·refine wpIn_skip ?_
      refine se ?_
      refine wpIn_block ?_
      obtain ⟨x3,hx3,hm⟩:=bs hm
      refine se (rg (sq s (ix (t rfl) (t rfl) hx3) rfl fun a w s=>sq s (ld (t rfl)) rfl fun a w s=>sq s (sa (t rfl)) rfl fun a w s=>nl ?_))
      obtain ⟨x5,hx5,hm⟩:=bs hm
      refine se (rg (sq s (mv (t rfl)) rfl fun a w s=>nmk (d:=1) 1000 s rfl rfl fun c4 s=>sq s (mkf rfl rfl qn (qc (t rfl) qn)) rfl fun a w s=>cgv [1000] [1000] hM s qf rfl (oc (t rfl) (oc (t rfl) on)) vn vn (s192 f c4 _ _ _ hx5) (kc rfl kn) rfl (fun _=>rfl) rfl rfl rfl fun y6 a w s=>nl ?_))
      refine cm s rfl hm (fun hb hm=>?_) (fun hb hm=>?_)
      ·refine se (rg (sq s (sa ci) rfl fun a w s=>nl ?_))
       obtain rfl:=si hm
       replace hm:=hko2
       dsimp only at hm
       obtain rfl:=si hm
       refine wpIn_ret ?_
       exact rn hD s rfl (rv1 (rt rfl))
      ·refine wpIn_skip ?_
       refine rg (sq s (ad (t rfl) ci) rfl fun a w s=>sq s (mv (t rfl)) rfl fun a w s=>nl ?_)
       replace s:=tv (d:=1) s (ta (k:=1000) (t rfl) rfl)
       exact ⟨_,hm,s.pick [0,1,2,24,25,26]⟩
     ·refine wpIn_exit ?_
      exact ⟨_,(si hm).symm,s.pick [0,1,2,24,25,26]⟩
    ·subst ho
     replace hm:=hko2
     dsimp only at hm
     refine se (rg (sq s (sa ci) rfl fun a w s=>nl ?_))
     obtain rfl:=si hm
     refine wpIn_ret ?_
     exact rn hD s rfl (rv1 (rt rfl))
def m49_l1 (v0:Space):Nat→(Int×(List Int))→Option (Int×(List Int))
 | 0,_=>none
 | n+1,z2=>(bif (decide (z2.1 < (((v0).Moves).length:Int))) then (idx ((v0).Moves) z2.1).bind fun x5=>(bif ((x5.length:Int) == (0:Int)) then (app z2.2 ([z2.1]:List Int)).bind fun x7=>some x7 else some z2.2).bind fun z6=>m49_l1 v0 n ((wr (z2.1 + (1:Int))),z6) else some (z2.1,z2.2))
def m49 (f:Nat) (v0:Space):Option ((List Int)×Int):=(m114 f v0).bind fun x1=>(bif (x1 != (0:Int)) then some (([]:List Int),x1) else (m49_l1 v0 f ((0:Int),([]:List Int))).bind fun o3s=>some (o3s.2,(0:Int)))
set_option maxRecDepth 100000 in
theorem s49 (f:Nat) (v0:Space) (r:(List Int)×Int) (hm:m49 f v0=some r):Sp Tryz.prog 49 [Va (v0)] (T2 (Va (r.1)) (Va (r.2))):=by
 unfold m49 at hm
 refine ens Tryz.func49 (by kernel_rfl) rfl Tryz.ntmps49 rfl rfl fun M w_0 a hM hD s=>?_
 refine se (rg (sq s (bx (t rfl)) rfl fun a w s=>sq s (saq cq) rfl fun a w s=>sq s (sa ci) rfl fun a w s=>nl ?_))
 refine se ?_
 obtain ⟨x1,hx1,hm⟩:=bs hm
 refine se (rg (sq s (ld (t rfl)) rfl fun a w s=>sq s (cc rfl (oc (t rfl) on) (s114 f _ _ hx1)) rfl fun a w s=>sq s (sa (t rfl)) rfl fun a w s=>nl ?_))
 refine se (rg (sq s (mv (t rfl)) rfl fun a w s=>sq s (ne (t rfl) ci) rfl fun a w s=>nl ?_))
 refine cm s rfl hm (fun hb hm=>?_) (fun hb hm=>?_)
 ·refine se (rg (sq s (mv (t rfl)) rfl fun a w s=>sq s (saq cq) rfl fun a w s=>sq s (sa (t rfl)) rfl fun a w s=>nl ?_))
  obtain rfl:=si hm
  refine wpIn_ret ?_
  exact rn hD s rfl (rv2 (ro (qns (α:=Int) (t rfl))) (rt rfl))
 ·refine wpIn_skip ?_
  refine se (rg (sq s (saq cq) rfl fun a w s=>nl ?_))
  refine se ?_
  refine se (rg (sq s (fa (f:=Space.Moves) (t rfl)) rfl fun a w s=>sq s (ld (t rfl)) rfl fun a w s=>sq s (ln (t rfl)) rfl fun a w s=>sq s (mv ci) rfl fun a w s=>nl ?_))
  refine nilt (α:=Int) (d:=5) 1000 3 s rfl rfl fun c4 s=>?_
  obtain ⟨o3s,hoo3,hko3⟩:=bs hm
  refine cpI (fun a w=>∃ (o3sc0:Value),St M w_0 30 [(0,Va (v0)),(1,Pt (v0)),(2,Qv (.slice none 0 0)),(3,Va ((0:Int))),(4,Va (x1)),(5,Qv o3sc0),(14,Va ((v0).Moves)),(15,Va ((((v0).Moves).length:Int))),(16,Va (o3s.1)),(1000,Ow 3 o3sc0 (o3s.2))] a w) ?_ fun a w s=>?_
  ·refine wpIn_block ?_
   refine loI (fun n z2=>m49_l1 v0 n z2) o3s (fun z2 a w=>∃ (z2c0:Value),St M w_0 30 [(0,Va (v0)),(1,Pt (v0)),(2,Qv (.slice none 0 0)),(3,Va ((0:Int))),(4,Va (x1)),(5,Qv z2c0),(14,Va ((v0).Moves)),(15,Va ((((v0).Moves).length:Int))),(16,Va (z2.1)),(1000,Ow 3 z2c0 (z2.2))] a w) f ((0:Int),([]:List Int)) ⟨c4,s.pick [0,1,2,3,4,5,14,15,16,1000]⟩ hoo3 (fun _=>rfl) fun n z2 a w hm s=>?_
   obtain ⟨z2c0,s⟩:=s
   replace hm:m49_l1 v0 (n + 1) z2=some o3s:=hm
   unfold m49_l1 at hm
   refine se (rg (sq s (lt (t rfl) (t rfl)) rfl fun a w s=>nl ?_))
   refine se ?_
   refine cm s rfl hm (fun hb hm=>?_) (fun hb hm=>?_)
   ·refine wpIn_skip ?_
    refine se ?_
    refine wpIn_block ?_
    obtain ⟨x5,hx5,hm⟩:=bs hm
    refine se (rg (sq s (mv (t rfl)) rfl fun a w s=>sq s (ix (t rfl) (t rfl) hx5) rfl fun a w s=>sq s (ld (t rfl)) rfl fun a w s=>sq s (sa (t rfl)) rfl fun a w s=>sq s (sa (t rfl)) rfl fun a w s=>nl ?_))
    refine se (rg (sq s (mv (t rfl)) rfl fun a w s=>sq s (ln (t rfl)) rfl fun a w s=>sq s (eq (t rfl) ci) rfl fun a w s=>nl ?_))
    obtain ⟨z6,hz6,hkz6⟩:=bs hm
    refine cpI (fun a w=>∃ (z6c0:Value),St M w_0 30 [(0,Va (v0)),(1,Pt (v0)),(2,Qv (.slice none 0 0)),(3,Va ((0:Int))),(4,Va (x1)),(5,Qv z6c0),(6,Va (z2.1)),(7,Va (x5)),(14,Va ((v0).Moves)),(15,Va ((((v0).Moves).length:Int))),(16,Va (z2.1)),(1000,Ow 3 z6c0 (z6))] a w) ?_ fun a w s=>?_
    ·refine cm s rfl hz6 (fun hb hm=>?_) (fun hb hm=>?_)
     ·obtain ⟨x7,hx7,hm⟩:=bs hm
      refine rg (sq s (mvq (t rfl)) rfl fun a w s=>sq s (mv (t rfl)) rfl fun a w s=>sq s (bsv (o1 (t rfl) o0) rfl rfl (by kernel_rfl)) rfl fun a w s=>apd (α:=Int) (k:=1000) s (t rfl) rfl (t rfl) hx7 rfl rfl fun c8 a w s=>sq s (saq (t rfl)) rfl fun a w s=>nl ?_)
      obtain rfl:=si hm
      exact ⟨c8,s.pick [0,1,2,3,4,5,6,7,14,15,16,1000]⟩
     ·refine wpIn_skip ?_
      obtain rfl:=si hm
      exact ⟨z2c0,s.pick [0,1,2,3,4,5,6,7,14,15,16,1000]⟩
    ·obtain ⟨z6c0,s⟩:=s
     replace hm:=hkz6
     refine rg (sq s (ad (t rfl) ci) rfl fun a w s=>sq s (mv (t rfl)) rfl fun a w s=>nl ?_)
     exact ⟨_,hm,⟨z6c0,s.pick [0,1,2,3,4,5,14,15,16,1000]⟩⟩
   ·refine wpIn_exit ?_
    obtain rfl:=si hm
    exact ⟨z2c0,s.pick [0,1,2,3,4,5,14,15,16,1000]⟩
  ·obtain ⟨o3sc0,s⟩:=s
   replace hm:=hko3
   refine se (rg (sq s (mvq (t rfl)) rfl fun a w s=>sq s (saq (t rfl)) rfl fun a w s=>sq s (sa ci) rfl fun a w s=>nl ?_))
   obtain rfl:=si hm
   refine fzk (α:=Int) (k:=1000) hM s rfl fun s=>?_
   refine wpIn_ret ?_
   exact rn hD s rfl (rv2 (ro (ta (k:=1000) (t rfl) rfl)) (rt rfl))
def m99_l1 :Nat→(Int×(List Int))→Option (Int×(List Int))
 | 0,_=>none
 | n+1,z4=>(bif (decide (z4.1 < (z4.2.length:Int))) then (lsr z4.1 (z4.2.length:Int) (z4.2.length:Int)).bind fun x6=>(lsr 0 z4.1 (z4.2.length:Int)).bind fun x7=>m99_l1 n ((wr (z4.1 + ((min (x6.2 - x6.1) ((z4.2.drop x7.1).take (x7.2 - x7.1)).length:Nat):Int))),(cpl z4.2 x6.1 x6.2 ((z4.2.drop x7.1).take (x7.2 - x7.1)))) else some (z4.1,z4.2))
def m99 (f:Nat) (v0:List Int) (v1:Int):Option ((List Int)):=(bif (decide (v1 < (0:Int))) then none else (m173 f (Ik.ofI (Ik.toI (v0.length:Int)):Kd .u64) (Ik.ofI (Ik.toI v1):Kd .u64)).bind fun x1=>(bif ((decide (Ik.toI x1.1 > Ik.toI (⟨0⟩:Kd .u64))) || (decide (Ik.toI x1.2 > Ik.toI (⟨9223372036854775807⟩:Kd .u64)))) then none else (mks (0:Int) (Ik.ofI (Ik.toI x1.2):Int)).bind fun x2=>(m99_l1 f (((min (x2.length - 0) v0.length:Nat):Int),(cpl x2 0 x2.length v0))).bind fun o5s=>some o5s.2))
set_option maxRecDepth 100000 in
theorem s99 (f:Nat) (v0:List Int) (v1:Int) (r:(List Int)) (hm:m99 f v0 v1=some r):Sp Tryz.prog 99 [Va (v0),Va (v1)] (Rz (fun x:Value=>Qv x) (fun x=>[Ow 3 x (r)])):=by
 unfold m99 at hm
 refine ens Tryz.func99 (by kernel_rfl) rfl Tryz.ntmps99 rfl rfl fun M w_0 a hM hD s=>?_
 refine se (rg (sq s (saq cq) rfl fun a w s=>nl ?_))
 refine se ?_
 refine se (rg (sq s (mv (t rfl)) rfl fun a w s=>sq s (lt (t rfl) ci) rfl fun a w s=>nl ?_))
 refine cm s rfl hm (fun hb hm=>?_) (fun hb hm=>?_)
 ·cases hm
 ·refine wpIn_skip ?_
  obtain ⟨x1,hx1,hm⟩:=bs hm
  refine se (rg (sq s (mv (t rfl)) rfl fun a w s=>sq s (ln (t rfl)) rfl fun a w s=>sq s (cvk (t rfl) (by kernel_rfl) (by kernel_rfl)) rfl fun a w s=>sq s (mv (t rfl)) rfl fun a w s=>sq s (cvk (t rfl) (by kernel_rfl) (by kernel_rfl)) rfl fun a w s=>sq s (cc rfl (oc (t rfl) (oc (t rfl) on)) (s173 f _ _ _ hx1)) rfl fun a w s=>sq s (mve (t rfl)) rfl fun a w s=>sq s (Pn.x20 (t rfl)) rfl fun a w s=>sq s (Pn.x21 (t rfl)) rfl fun a w s=>sq s (sa (t rfl)) rfl fun a w s=>sq s (sa (t rfl)) rfl fun a w s=>nl ?_))
  refine se ?_
  refine se (rg (sq s (mv (t rfl)) rfl fun a w s=>sq s (gtk (t rfl) ckd) rfl fun a w s=>sq s (mv (t rfl)) rfl fun a w s=>sg s rfl rfl (fun hb=>(mv (t rfl))) rfl fun a w s=>sg s rfl rfl (fun hb=>(gtk (tg rfl hb) ckd)) rfl fun a w s=>sq s (poP (t rfl) rfl) rfl fun a w s=>nl ?_))
  refine cm s rfl hm (fun hb hm=>?_) (fun hb hm=>?_)
  ·cases hm
  ·refine wpIn_skip ?_
   obtain ⟨x2,hx2,hm⟩:=bs hm
   refine se (rg (sq s (mv (t rfl)) rfl fun a w s=>sq s (cvk (t rfl) (by kernel_rfl) (by kernel_rfl)) rfl fun a w s=>sqo 1000 s (mkS (t rfl) (t rfl) hx2) rfl rfl fun c3 a w s=>sq s (saq (t rfl)) rfl fun a w s=>nl ?_))
   refine se (rg (sq s (mvq (t rfl)) rfl fun a w s=>sq s (mv (t rfl)) rfl fun a w s=>cpW (k:=1000) s (t rfl) rfl (t rfl) (by kernel_rfl) (by kernel_rfl) rfl rfl fun a w s=>sq s (sa (t rfl)) rfl fun a w s=>nl ?_))
   refine se ?_
   obtain ⟨o5s,hoo5,hko5⟩:=bs hm
   refine cpI (fun a w=>St M w_0 48 [(0,Va (v0)),(1,Va (v1)),(4,Qv (.slice none 0 0)),(5,Va (x1.1)),(6,Va (x1.2)),(7,Qv c3),(8,Va (o5s.1)),(1000,Ow 3 c3 (o5s.2))] a w) ?_ fun a w s=>?_
   ·refine wpIn_block ?_
    refine loI (fun n z4=>m99_l1 n z4) o5s (fun z4 a w=>St M w_0 48 [(0,Va (v0)),(1,Va (v1)),(4,Qv (.slice none 0 0)),(5,Va (x1.1)),(6,Va (x1.2)),(7,Qv c3),(8,Va (z4.1)),(1000,Ow 3 c3 (z4.2))] a w) f (((min (x2.length - 0) v0.length:Nat):Int),(cpl x2 0 x2.length v0)) (s.pick [0,1,4,5,6,7,8,1000]) hoo5 (fun _=>rfl) fun n z4 a w hm s=>?_
    replace hm:m99_l1 (n + 1) z4=some o5s:=hm
    unfold m99_l1 at hm
    refine se ?_
    refine se (rg (sq s (mv (t rfl)) rfl fun a w s=>sq s (mvq (t rfl)) rfl fun a w s=>sq s (lnq (α:=Int) (k:=1000) (t rfl) rfl) rfl fun a w s=>sq s (lt (t rfl) (t rfl)) rfl fun a w s=>nl ?_))
    refine cm s rfl hm (fun hb hm=>?_) (fun hb hm=>?_)
    ·refine wpIn_skip ?_
     refine wpIn_block ?_
     obtain ⟨x6,hx6,hm⟩:=bs hm
     obtain ⟨x7,hx7,hm⟩:=bs hm
     refine flow2 [(8,Va (z4.1))] [1,2,3,4,5,6] [39,40,41,42,43,44] [] [] [38] [(7,[]),(8,[38]),(9,[])] s (.skip (.skip (.skip (.cons (.cons (.cons (.cons (.cons (.cons (.late .nil rfl rfl (mv (t rfl))) rfl rfl (mvq (t rfl))) rfl rfl (mv (t rfl))) rfl rfl (sbg (k:=1000) (by kernel_rfl) (by kernel_rfl) (t rfl) rfl (.inr ⟨_,rfl,(t rfl),rfl,rfl⟩) hx6)) rfl rfl (mvq (t rfl))) rfl rfl (mv (t rfl))) rfl rfl (sbg (k:=1000) (by kernel_rfl) (by kernel_rfl) (t rfl) rfl (.inl ⟨rfl,rfl,_,rfl,(t rfl)⟩) hx7)) rfl) rfl) rfl) (by kernel_rfl) (by kernel_rfl) rfl rfl (sb1 rfl sb0) rfl (by decide) rfl rfl ?_
     refine ⟨⟨fun _=>rfl,rfl,.inr ⟨(sb1 rfl sb0),sb0,sn0⟩⟩,by kernel_rfl,_,rfl,fun Ψ a w s=>cpS (k:=1000) s (t rfl) rfl (t rfl) (by kernel_rfl) (by kernel_rfl) rfl rfl fun a w s=>nl ?_⟩
     refine nxt Ψ s ?_
     refine ⟨⟨fun _=>rfl,rfl,.inr ⟨(sb1 rfl sb0),sb0,sn0⟩⟩,by kernel_rfl,_,rfl,fun Ψ a w s=>sq s (ad (t rfl) (t rfl)) rfl fun a w s=>nl ?_⟩
     refine nxt Ψ s ?_
     refine ⟨⟨fun _=>rfl,rfl,.inl rfl⟩,by kernel_rfl,_,rfl,fun Ψ a w s=>sq s (sa (t rfl)) rfl fun a w s=>nl ?_⟩
     refine nxt Ψ s ?_
     refine ⟨⟨fun _=>rfl,rfl,.inl rfl⟩,fun a w s=>?_⟩
     replace s:St M w_0 48 [(0,Va (v0)),(1,Va (v1)),(4,Qv (.slice none 0 0)),(5,Va (x1.1)),(6,Va (x1.2)),(7,Qv c3),(8,Va ((wr (z4.1 + ((min (x6.2 - x6.1) ((z4.2.drop x7.1).take (x7.2 - x7.1)).length:Nat):Int))))),(1000,Ow 3 c3 ((cpl z4.2 x6.1 x6.2 ((z4.2.drop x7.1).take (x7.2 - x7.1)))))] a w:=s.pick [0,1,4,5,6,7,8,1000]
     exact ⟨_,hm,s.pick [0,1,4,5,6,7,8,1000]⟩
    ·refine wpIn_exit ?_
     obtain rfl:=si hm
     exact s.pick [0,1,4,5,6,7,8,1000]
   ·replace hm:=hko5
    refine se (rg (sq s (mvq (t rfl)) rfl fun a w s=>sq s (saq (t rfl)) rfl fun a w s=>nl ?_))
    obtain rfl:=si hm
    refine wpIn_ret ?_
    exact rz [1000] c3 hM hD s rfl (rv1 (rt rfl)) (kc rfl kn) rfl
def m115_l2 (z5:Int×(List Int)×(List Int)) (x8:List Int):Nat→(Int×(List Int)×(List Int))→Option (Int×(List Int)×(List Int))
 | 0,_=>none
 | n+1,z9=>(bif (decide (z9.1 < (x8.length:Int))) then (idx x8 z9.1).bind fun x11=>(idx z9.2.1 x11).bind fun x12=>(bif (decide (x12 < (0:Int))) then (idx z9.2.2 z5.1).bind fun x14=>(idx z9.2.1 x14).bind fun x15=>(idx z9.2.1 x11).bind fun x16=>(app z9.2.2 ([x11]:List Int)).bind fun x17=>some ((z9.2.1.set x11.toNat (wr (x15 + (1:Int)))),x17) else some (z9.2.1,z9.2.2)).bind fun z13=>m115_l2 z5 x8 n ((wr (z9.1 + (1:Int))),z13.1,z13.2) else some (z9.1,z9.2.1,z9.2.2))
def m115_l1 (f:Nat) (v0:List (List Int)):Nat→(Int×(List Int)×(List Int))→Option (Int×(List Int)×(List Int))
 | 0,_=>none
 | n+1,z5=>(bif (decide (z5.1 < (z5.2.2.length:Int))) then (idx z5.2.2 z5.1).bind fun x7=>(idx v0 x7).bind fun x8=>(m115_l2 z5 x8 f ((0:Int),z5.2.1,z5.2.2)).bind fun o10s=>m115_l1 f v0 n ((wr (z5.1 + (1:Int))),o10s.2.1,o10s.2.2) else some (z5.1,z5.2.1,z5.2.2))
def m115 (f:Nat) (v0:List (List Int)) (v1:Int):Option ((List Int)):=(m99 f ([(-1:Int)]:List Int) (v0.length:Int)).bind fun x1=>(idx x1 v1).bind fun x3=>(m115_l1 f v0 f ((0:Int),(x1.set v1.toNat (0:Int)),([v1]:List Int))).bind fun o6s=>some o6s.2.1
set_option maxRecDepth 100000 in
theorem s115 (f:Nat) (v0:List (List Int)) (v1:Int) (r:(List Int)) (hm:m115 f v0 v1=some r):Sp Tryz.prog 115 [Va (v0),Va (v1)] (Rz (fun x:Value=>Qv x) (fun x=>[Ow 3 x (r)])):=by
 unfold m115 at hm
 refine ens Tryz.func115 (by kernel_rfl) rfl Tryz.ntmps115 rfl rfl fun M w_0 a hM hD s=>?_
 refine se (rg (sq s (saq cq) rfl fun a w s=>nl ?_))
 obtain ⟨x1,hx1,hm⟩:=bs hm
 refine se (rg (sq s (bsv (o1 ci o0) rfl rfl (by kernel_rfl)) rfl fun a w s=>sq s (mv (t rfl)) rfl fun a w s=>sq s (ln (t rfl)) rfl fun a w s=>sqz [1000] hM s (cc rfl (oc (t rfl) (oc (t rfl) on)) (s99 f _ _ _ hx1)) (fun _=>rfl) rfl rfl fun y2 a w s=>sq s (saq (t rfl)) rfl fun a w s=>nl ?_))
 obtain ⟨x3,hx3,hm⟩:=bs hm
 refine se (rg (sq s (mvq (t rfl)) rfl fun a w s=>sq s (mv (t rfl)) rfl fun a w s=>sq s (ixq (α:=Int) (k:=1000) (t rfl) rfl (t rfl) hx3) rfl fun a w s=>stq (k:=1000) s (t rfl) rfl (idxg hx3) ci fun w s=>nl ?_))
 refine se (rg (sq s (mv (t rfl)) rfl fun a w s=>sqo 1001 s (bso (o1 (t rfl) o0) rfl rfl (by kernel_rfl)) rfl rfl fun c4 a w s=>sq s (saq (t rfl)) rfl fun a w s=>nl ?_))
 refine se ?_
 refine se (rg (sq s (sa ci) rfl fun a w s=>nl ?_))
 obtain ⟨o6s,hoo6,hko6⟩:=bs hm
 refine cpI (fun a w=>∃ (o6sc0:Value),St M w_0 59 [(0,Va (v0)),(1,Va (v1)),(4,Qv (.slice none 0 0)),(5,Qv y2),(6,Qv o6sc0),(7,Va (o6s.1)),(1000,Ow 3 y2 (o6s.2.1)),(1001,Ow 3 o6sc0 (o6s.2.2))] a w) ?_ fun a w s=>?_
 ·refine wpIn_block ?_
  refine loI (fun n z5=>m115_l1 f v0 n z5) o6s (fun z5 a w=>∃ (z5c0:Value),St M w_0 59 [(0,Va (v0)),(1,Va (v1)),(4,Qv (.slice none 0 0)),(5,Qv y2),(6,Qv z5c0),(7,Va (z5.1)),(1000,Ow 3 y2 (z5.2.1)),(1001,Ow 3 z5c0 (z5.2.2))] a w) f ((0:Int),(x1.set v1.toNat (0:Int)),([v1]:List Int)) ⟨c4,s.pick [0,1,4,5,6,7,1000,1001]⟩ hoo6 (fun _=>rfl) fun n z5 a w hm s=>?_
  obtain ⟨z5c0,s⟩:=s
  replace hm:m115_l1 f v0 (n + 1) z5=some o6s:=hm
  unfold m115_l1 at hm
  refine se ?_
  refine se (rg (sq s (mv (t rfl)) rfl fun a w s=>sq s (mvq (t rfl)) rfl fun a w s=>sq s (lnq (α:=Int) (k:=1001) (t rfl) rfl) rfl fun a w s=>sq s (lt (t rfl) (t rfl)) rfl fun a w s=>nl ?_))
  refine cm s rfl hm (fun hb hm=>?_) (fun hb hm=>?_)
  ·refine wpIn_skip ?_
   refine se ?_
   refine wpIn_block ?_
   obtain ⟨x7,hx7,hm⟩:=bs hm
   obtain ⟨x8,hx8,hm⟩:=bs hm
   refine se (rg (sq s (mv (t rfl)) rfl fun a w s=>sq s (mvq (t rfl)) rfl fun a w s=>sq s (mv (t rfl)) rfl fun a w s=>sq s (ixq (α:=Int) (k:=1001) (t rfl) rfl (t rfl) hx7) rfl fun a w s=>sq s (lq (k:=1001) (t rfl) rfl (idxg hx7)) rfl fun a w s=>sq s (ix (t rfl) (t rfl) hx8) rfl fun a w s=>sq s (ld (t rfl)) rfl fun a w s=>sq s (ln (t rfl)) rfl fun a w s=>sq s (mv ci) rfl fun a w s=>nl ?_))
   obtain ⟨o10s,hoo10,hko10⟩:=bs hm
   refine cpI (fun a w=>∃ (o10sc0:Value),St M w_0 59 [(0,Va (v0)),(1,Va (v1)),(4,Qv (.slice none 0 0)),(5,Qv y2),(6,Qv o10sc0),(7,Va (z5.1)),(31,Va (x8)),(32,Va ((x8.length:Int))),(33,Va (o10s.1)),(1000,Ow 3 y2 (o10s.2.1)),(1001,Ow 3 o10sc0 (o10s.2.2))] a w) ?_ fun a w s=>?_
   ·refine wpIn_block ?_
    refine loI (fun n z9=>m115_l2 z5 x8 n z9) o10s (fun z9 a w=>∃ (z9c0:Value),St M w_0 59 [(0,Va (v0)),(1,Va (v1)),(4,Qv (.slice none 0 0)),(5,Qv y2),(6,Qv z9c0),(7,Va (z5.1)),(31,Va (x8)),(32,Va ((x8.length:Int))),(33,Va (z9.1)),(1000,Ow 3 y2 (z9.2.1)),(1001,Ow 3 z9c0 (z9.2.2))] a w) f ((0:Int),z5.2.1,z5.2.2) ⟨z5c0,s.pick [0,1,4,5,6,7,31,32,33,1000,1001]⟩ hoo10 (fun _=>rfl) fun n z9 a w hm s=>?_
    obtain ⟨z9c0,s⟩:=s
    replace hm:m115_l2 z5 x8 (n + 1) z9=some o10s:=hm
    unfold m115_l2 at hm
    refine se (rg (sq s (lt (t rfl) (t rfl)) rfl fun a w s=>nl ?_))
    refine se ?_
    refine cm s rfl hm (fun hb hm=>?_) (fun hb hm=>?_)
    ·refine wpIn_skip ?_
     refine se ?_
     refine wpIn_block ?_
     obtain ⟨x11,hx11,hm⟩:=bs hm
     refine se (rg (sq s (ix (t rfl) (t rfl) hx11) rfl fun a w s=>sq s (ld (t rfl)) rfl fun a w s=>sq s (sa (t rfl)) rfl fun a w s=>nl ?_))
     obtain ⟨x12,hx12,hm⟩:=bs hm
     refine se (rg (sq s (mvq (t rfl)) rfl fun a w s=>sq s (mv (t rfl)) rfl fun a w s=>sq s (ixq (α:=Int) (k:=1000) (t rfl) rfl (t rfl) hx12) rfl fun a w s=>sq s (lq (k:=1000) (t rfl) rfl (idxg hx12)) rfl fun a w s=>sq s (lt (t rfl) ci) rfl fun a w s=>nl ?_))
     obtain ⟨z13,hz13,hkz13⟩:=bs hm
     refine cpI (fun a w=>∃ (z13c0:Value),St M w_0 59 [(0,Va (v0)),(1,Va (v1)),(4,Qv (.slice none 0 0)),(5,Qv y2),(6,Qv z13c0),(7,Va (z5.1)),(9,Va (x11)),(31,Va (x8)),(32,Va ((x8.length:Int))),(33,Va (z9.1)),(1000,Ow 3 y2 (z13.1)),(1001,Ow 3 z13c0 (z13.2))] a w) ?_ fun a w s=>?_
     ·refine cm s rfl hz13 (fun hb hm=>?_) (fun hb hm=>?_)
      ·obtain ⟨x14,hx14,hm⟩:=bs hm
       obtain ⟨x15,hx15,hm⟩:=bs hm
       obtain ⟨x16,hx16,hm⟩:=bs hm
       refine se (rg (sq s (mvq (t rfl)) rfl fun a w s=>sq s (mv (t rfl)) rfl fun a w s=>sq s (mvq (t rfl)) rfl fun a w s=>sq s (mvq (t rfl)) rfl fun a w s=>sq s (mv (t rfl)) rfl fun a w s=>sq s (ixq (α:=Int) (k:=1001) (t rfl) rfl (t rfl) hx14) rfl fun a w s=>sq s (lq (k:=1001) (t rfl) rfl (idxg hx14)) rfl fun a w s=>sq s (ixq (α:=Int) (k:=1000) (t rfl) rfl (t rfl) hx15) rfl fun a w s=>sq s (lq (k:=1000) (t rfl) rfl (idxg hx15)) rfl fun a w s=>sq s (ad (t rfl) ci) rfl fun a w s=>sq s (ixq (α:=Int) (k:=1000) (t rfl) rfl (t rfl) hx16) rfl fun a w s=>stq (k:=1000) s (t rfl) rfl (idxg hx16) (t rfl) fun w s=>nl ?_))
       obtain ⟨x17,hx17,hm⟩:=bs hm
       refine rg (sq s (mvq (t rfl)) rfl fun a w s=>sq s (mv (t rfl)) rfl fun a w s=>sq s (bsv (o1 (t rfl) o0) rfl rfl (by kernel_rfl)) rfl fun a w s=>apd (α:=Int) (k:=1001) s (t rfl) rfl (t rfl) hx17 rfl rfl fun c18 a w s=>sq s (saq (t rfl)) rfl fun a w s=>nl ?_)
       obtain rfl:=si hm
       exact ⟨c18,s.pick [0,1,4,5,6,7,9,31,32,33,1000,1001]⟩
      ·refine wpIn_skip ?_
       obtain rfl:=si hm
       exact ⟨z9c0,s.pick [0,1,4,5,6,7,9,31,32,33,1000,1001]⟩
     ·obtain ⟨z13c0,s⟩:=s
      replace hm:=hkz13
      refine rg (sq s (ad (t rfl) ci) rfl fun a w s=>sq s (mv (t rfl)) rfl fun a w s=>nl ?_)
      exact ⟨_,hm,⟨z13c0,s.pick [0,1,4,5,6,7,31,32,33,1000,1001]⟩⟩
    ·refine wpIn_exit ?_
     obtain rfl:=si hm
     exact ⟨z9c0,s.pick [0,1,4,5,6,7,31,32,33,1000,1001]⟩
   ·obtain ⟨o10sc0,s⟩:=s
    replace hm:=hko10
    refine rg (sq s (mv (t rfl)) rfl fun a w s=>sq s (ad (t rfl) ci) rfl fun a w s=>sq s (sa (t rfl)) rfl fun a w s=>nl ?_)
    exact ⟨_,hm,⟨o10sc0,s.pick [0,1,4,5,6,7,1000,1001]⟩⟩
  ·refine wpIn_exit ?_
   obtain rfl:=si hm
   exact ⟨z5c0,s.pick [0,1,4,5,6,7,1000,1001]⟩
 ·obtain ⟨o6sc0,s⟩:=s
  replace hm:=hko6
  refine se (rg (sq s (mvq (t rfl)) rfl fun a w s=>sq s (saq (t rfl)) rfl fun a w s=>nl ?_))
  obtain rfl:=si hm
  refine wpIn_ret ?_
  exact rz [1000] y2 hM hD s rfl (rv1 (rt rfl)) (kc rfl kn) rfl
def m116_l2 (z3:Int×(List (List Int))) (x5:List Int):Nat→(Int×(List (List Int)))→Option (Int×(List (List Int)))
 | 0,_=>none
 | n+1,z6=>(bif (decide (z6.1 < (x5.length:Int))) then (idx x5 z6.1).bind fun x8=>(idx z6.2 x8).bind fun x9=>(app x9 ([z3.1]:List Int)).bind fun x11=>m116_l2 z3 x5 n ((wr (z6.1 + (1:Int))),(z6.2.set x8.toNat x11)) else some (z6.1,z6.2))
def m116_l1 (f:Nat) (v0:List (List Int)):Nat→(Int×(List (List Int)))→Option (Int×(List (List Int)))
 | 0,_=>none
 | n+1,z3=>(bif (decide (z3.1 < (v0.length:Int))) then (idx v0 z3.1).bind fun x5=>(m116_l2 z3 x5 f ((0:Int),z3.2)).bind fun o7s=>m116_l1 f v0 n ((wr (z3.1 + (1:Int))),o7s.2) else some (z3.1,z3.2))
def m116 (f:Nat) (v0:List (List Int)):Option ((List (List Int))):=(mks ([]:List Int) (v0.length:Int)).bind fun x1=>(m116_l1 f v0 f ((0:Int),x1)).bind fun o4s=>some o4s.2
set_option maxRecDepth 100000 in
theorem s116 (f:Nat) (v0:List (List Int)) (r:(List (List Int))) (hm:m116 f v0=some r):Sp Tryz.prog 116 [Va (v0)] (Va (r)):=by
 unfold m116 at hm
 refine ens Tryz.func116 (by kernel_rfl) rfl Tryz.ntmps116 rfl rfl fun M w_0 a hM hD s=>?_
 refine se (rg (sq s (saq cq) rfl fun a w s=>nl ?_))
 obtain ⟨x1,hx1,hm⟩:=bs hm
 refine se (rg (sq s (mv (t rfl)) rfl fun a w s=>sq s (ln (t rfl)) rfl fun a w s=>sqoo 1000 s (mkO (e2:=24) (e:=3) (t rfl) (t rfl) (by kernel_rfl) (by kernel_rfl) hx1) rfl rfl fun c2 a w s=>sq s (saq (t rfl)) rfl fun a w s=>nl ?_))
 refine se ?_
 refine se (rg (sq s (mv (t rfl)) rfl fun a w s=>sq s (ln (t rfl)) rfl fun a w s=>sq s (mv ci) rfl fun a w s=>nl ?_))
 obtain ⟨o4s,hoo4,hko4⟩:=bs hm
 refine cpI (fun a w=>St M w_0 37 [(0,Va (v0)),(2,Qv (.slice none 0 0)),(3,Qv c2),(11,Va (v0)),(12,Va ((v0.length:Int))),(13,Va (o4s.1)),(1000,Oo 24 3 c2 ((o4s.2).map some))] a w) ?_ fun a w s=>?_
 ·refine wpIn_block ?_
  refine loI (fun n z3=>m116_l1 f v0 n z3) o4s (fun z3 a w=>St M w_0 37 [(0,Va (v0)),(2,Qv (.slice none 0 0)),(3,Qv c2),(11,Va (v0)),(12,Va ((v0.length:Int))),(13,Va (z3.1)),(1000,Oo 24 3 c2 ((z3.2).map some))] a w) f ((0:Int),x1) (s.pick [0,2,3,11,12,13,1000]) hoo4 (fun _=>rfl) fun n z3 a w hm s=>?_
  replace hm:m116_l1 f v0 (n + 1) z3=some o4s:=hm
  unfold m116_l1 at hm
  refine se (rg (sq s (lt (t rfl) (t rfl)) rfl fun a w s=>nl ?_))
  refine se ?_
  refine cm s rfl hm (fun hb hm=>?_) (fun hb hm=>?_)
  ·refine wpIn_skip ?_
   refine se ?_
   refine wpIn_block ?_
   obtain ⟨x5,hx5,hm⟩:=bs hm
   refine se (rg (sq s (mv (t rfl)) rfl fun a w s=>sq s (ix (t rfl) (t rfl) hx5) rfl fun a w s=>sq s (ld (t rfl)) rfl fun a w s=>sq s (sa (t rfl)) rfl fun a w s=>sq s (sa (t rfl)) rfl fun a w s=>nl ?_))
   refine se (rg (sq s (mv (t rfl)) rfl fun a w s=>sq s (ln (t rfl)) rfl fun a w s=>sq s (mv ci) rfl fun a w s=>nl ?_))
   obtain ⟨o7s,hoo7,hko7⟩:=bs hm
   refine cpI (fun a w=>St M w_0 37 [(0,Va (v0)),(2,Qv (.slice none 0 0)),(3,Qv c2),(4,Va (z3.1)),(5,Va (x5)),(11,Va (v0)),(12,Va ((v0.length:Int))),(13,Va (z3.1)),(18,Va (x5)),(19,Va ((x5.length:Int))),(20,Va (o7s.1)),(1000,Oo 24 3 c2 ((o7s.2).map some))] a w) ?_ fun a w s=>?_
   ·refine wpIn_block ?_
    refine loI (fun n z6=>m116_l2 z3 x5 n z6) o7s (fun z6 a w=>St M w_0 37 [(0,Va (v0)),(2,Qv (.slice none 0 0)),(3,Qv c2),(4,Va (z3.1)),(5,Va (x5)),(11,Va (v0)),(12,Va ((v0.length:Int))),(13,Va (z3.1)),(18,Va (x5)),(19,Va ((x5.length:Int))),(20,Va (z6.1)),(1000,Oo 24 3 c2 ((z6.2).map some))] a w) f ((0:Int),z3.2) (s.pick [0,2,3,4,5,11,12,13,18,19,20,1000]) hoo7 (fun _=>rfl) fun n z6 a w hm s=>?_
    replace hm:m116_l2 z3 x5 (n + 1) z6=some o7s:=hm
    unfold m116_l2 at hm
    refine se (rg (sq s (lt (t rfl) (t rfl)) rfl fun a w s=>nl ?_))
    refine se ?_
    refine cm s rfl hm (fun hb hm=>?_) (fun hb hm=>?_)
    ·refine wpIn_skip ?_
     refine se ?_
     refine wpIn_block ?_
     obtain ⟨x8,hx8,hm⟩:=bs hm
     refine se (rg (sq s (ix (t rfl) (t rfl) hx8) rfl fun a w s=>sq s (ld (t rfl)) rfl fun a w s=>sq s (sa (t rfl)) rfl fun a w s=>nl ?_))
     obtain ⟨x9,hx9,hm⟩:=bs hm
     obtain ⟨x11,hx11,hm⟩:=bs hm
     refine rg (sq s (mvq (t rfl)) rfl fun a w s=>sq s (mv (t rfl)) rfl fun a w s=>sq s (mvq (t rfl)) rfl fun a w s=>sq s (mv (t rfl)) rfl fun a w s=>sq s (ixo (e:=3) (k:=1000) (t rfl) rfl (t rfl) (by kernel_rfl) (by kernel_rfl) (Oo.idx hx9)) rfl fun a w s=>ldo (K:=1000) (K2:=1001) s (t rfl) rfl (Oo.at_ hx9) (by kernel_rfl) rfl rfl rfl rfl fun c10 a w s=>sq s (mv (t rfl)) rfl fun a w s=>sq s (bsv (o1 (t rfl) o0) rfl rfl (by kernel_rfl)) rfl fun a w s=>apd (α:=Int) (k:=1001) s (t rfl) rfl (t rfl) hx11 rfl rfl fun c12 a w s=>sq s (ixo (e:=3) (k:=1000) (t rfl) rfl (t rfl) (by kernel_rfl) (by kernel_rfl) (Oo.idxh hx9)) rfl fun a w s=>sto (K:=1000) (K2:=1001) s (t rfl) rfl (t rfl) rfl (Oo.hole hx9) (by kernel_rfl) rfl fun w s=>oor (K:=1000) s rfl fun s=>nl ?_)
     refine rg (sq s (ad (t rfl) ci) rfl fun a w s=>sq s (mv (t rfl)) rfl fun a w s=>nl ?_)
     exact ⟨_,hm,s.pick [0,2,3,4,5,11,12,13,18,19,20,1000]⟩
    ·refine wpIn_exit ?_
     obtain rfl:=si hm
     exact s.pick [0,2,3,4,5,11,12,13,18,19,20,1000]
   ·replace hm:=hko7
    refine rg (sq s (ad (t rfl) ci) rfl fun a w s=>sq s (mv (t rfl)) rfl fun a w s=>nl ?_)
    exact ⟨_,hm,s.pick [0,2,3,11,12,13,1000]⟩
  ·refine wpIn_exit ?_
   obtain rfl:=si hm
   exact s.pick [0,2,3,11,12,13,1000]
 ·replace hm:=hko4
  refine se (rg (sq s (mvq (t rfl)) rfl fun a w s=>sq s (saq (t rfl)) rfl fun a w s=>nl ?_))
  obtain rfl:=si hm
  refine fzo (k:=1000) hM s rfl fun s=>?_
  refine wpIn_ret ?_
  exact rn hD s rfl (rv1 (ro (ta (k:=1000) (t rfl) rfl)))
def m51_l3 (z6:Int×(List Int)×(List (Int×Bool))) (x9:Int) (x10:(List Int)):Nat→(Int×(List (Int×Bool)))→Option (Int×(List (Int×Bool)))
 | 0,_=>none
 | n+1,z20=>(bif (decide (z20.1 < (x10.length:Int))) then (bif ((mat eqqI z20.2 z6.1).getD false) then (idx x10 z20.1).bind fun x22=>some (decide (x22≥(0:Int))) else some false).bind fun r23=>(bif r23 then some (mput eqqI z20.2 z20.1 true) else some z20.2).bind fun z24=>m51_l3 z6 x9 x10 n ((wr (z20.1 + (1:Int))),z24) else some (z20.1,z20.2))
def m51_l2 (z6:Int×(List Int)×(List (Int×Bool))) (x9:Int) (x10:(List Int)) (x12:(List Int)):Nat→(Int×(List (Int×Bool)))→Option (Int×(List (Int×Bool)))
 | 0,_=>none
 | n+1,z14=>(bif (decide (z14.1 < (x10.length:Int))) then (idx x10 z14.1).bind fun x16=>(bif (decide (x16≥(0:Int))) then (idx x12 z14.1).bind fun x17=>some (decide (x17 < (0:Int))) else some false).bind fun r18=>(bif r18 then some (mput eqqI z14.2 z6.1 false) else some z14.2).bind fun z19=>m51_l2 z6 x9 x10 x12 n ((wr (z14.1 + (1:Int))),z19) else some (z14.1,z14.2))
def m51_l1 (f:Nat) (v0:Space) (x2:(List Int)) (x3:(List (List Int))):Nat→(Int×(List Int)×(List (Int×Bool)))→Option (Int×(List Int)×(List (Int×Bool)))
 | 0,_=>none
 | n+1,z6=>(bif (decide (z6.1 < (((v0).States).length:Int))) then (idx x2 z6.1).bind fun x9=>(bif (decide (x9 < (0:Int))) then m51_l1 f v0 x2 x3 n ((wr (z6.1 + (1:Int))),z6.2.1,z6.2.2) else (bif (!((mat eqqI z6.2.2 z6.1).getD false)) then (m115 f ((v0).Moves) z6.1).bind fun x10=>(m115 f x3 z6.1).bind fun x12=>(m51_l2 z6 x9 x10 x12 f ((0:Int),(mput eqqI z6.2.2 z6.1 true))).bind fun o15s=>(m51_l3 z6 x9 x10 f ((0:Int),o15s.2)).bind fun o21s=>(bif ((mat eqqI o21s.2 z6.1).getD false) then (app z6.2.1 ([z6.1]:List Int)).bind fun x26=>some x26 else some z6.2.1).bind fun z25=>m51_l1 f v0 x2 x3 n ((wr (z6.1 + (1:Int))),z25,o21s.2) else (bif ((mat eqqI z6.2.2 z6.1).getD false) then (app z6.2.1 ([z6.1]:List Int)).bind fun x29=>some x29 else some z6.2.1).bind fun z28=>m51_l1 f v0 x2 x3 n ((wr (z6.1 + (1:Int))),z28,z6.2.2))) else some (z6.1,z6.2.1,z6.2.2))
def m51 (f:Nat) (v0:Space):Option ((List Int)×Int):=(m114 f v0).bind fun x1=>(bif (x1 != (0:Int)) then some (([]:List Int),x1) else (m115 f ((v0).Moves) (0:Int)).bind fun x2=>(m116 f ((v0).Moves)).bind fun x3=>(m51_l1 f v0 x2 x3 f ((0:Int),([]:List Int),([]:List (Int×Bool)))).bind fun o7s=>some (o7s.2.1,(0:Int)))
set_option maxRecDepth 100000 in
set_option maxHeartbeats 2000000 in
theorem s51 (f:Nat) (v0:Space) (r:(List Int)×Int) (hm:m51 f v0=some r):Sp Tryz.prog 51 [Va (v0)] (T2 (Va (r.1)) (Va (r.2))):=by
 unfold m51 at hm
 refine ens Tryz.func51 (by kernel_rfl) rfl Tryz.ntmps51 rfl rfl fun M w_0 a hM hD s=>?_
 refine se (rg (sq s (bx (t rfl)) rfl fun a w s=>sq s (saq cq) rfl fun a w s=>sq s (sa ci) rfl fun a w s=>nl ?_))
 refine se ?_
 obtain ⟨x1,hx1,hm⟩:=bs hm
 refine se (rg (sq s (ld (t rfl)) rfl fun a w s=>sq s (cc rfl (oc (t rfl) on) (s114 f _ _ hx1)) rfl fun a w s=>sq s (sa (t rfl)) rfl fun a w s=>nl ?_))
 refine se (rg (sq s (mv (t rfl)) rfl fun a w s=>sq s (ne (t rfl) ci) rfl fun a w s=>nl ?_))
 refine cm s rfl hm (fun hb hm=>?_) (fun hb hm=>?_)
 ·refine se (rg (sq s (mv (t rfl)) rfl fun a w s=>sq s (saq cq) rfl fun a w s=>sq s (sa (t rfl)) rfl fun a w s=>nl ?_))
  obtain rfl:=si hm
  refine wpIn_ret ?_
  exact rn hD s rfl (rv2 (ro (qns (α:=Int) (t rfl))) (rt rfl))
 ·refine wpIn_skip ?_
  obtain ⟨x2,hx2,hm⟩:=bs hm
  obtain ⟨x3,hx3,hm⟩:=bs hm
  refine se (flow s (m:=6) (.cons (.cons (.cons (.cons (.cons (.cons .nil rfl (fa (f:=Space.Moves) (t rfl))) rfl (ld (t rfl))) rfl (cc rfl (oc (t rfl) (oc ci on)) (s115 f _ _ _ hx2))) rfl (fa (f:=Space.Moves) (t rfl))) rfl (ld (t rfl))) rfl (cc rfl (oc (t rfl) on) (s116 f _ _ hx3))) (by kernel_rfl) rfl rfl fun a w s=>opz (d:=21) [1000] s rfl (fun _=>rfl) rfl fun y4 s=>sq s (saq (t rfl)) rfl fun a w s=>sq s (sa (t rfl)) rfl fun a w s=>nl ?_)
  refine se (rg (sq s (saq cq) rfl fun a w s=>nl ?_))
  refine se (rg (sqm 1001 s (mkm (κ:=Int) (ν:=Bool)) rfl rfl fun b5 a w s=>sq s (saq (t rfl)) rfl fun a w s=>nl ?_))
  refine se ?_
  refine se (rg (sq s (fa (f:=Space.States) (t rfl)) rfl fun a w s=>sq s (ld (t rfl)) rfl fun a w s=>sq s (ln (t rfl)) rfl fun a w s=>sq s (mv ci) rfl fun a w s=>nl ?_))
  refine nilt (α:=Int) (d:=7) 1002 3 s rfl rfl fun c8 s=>?_
  obtain ⟨o7s,hoo7,hko7⟩:=bs hm
  refine cpI (fun a w=>∃ (o7sc0:Value),St M w_0 97 [(0,Va (v0)),(1,Pt (v0)),(2,Qv (.slice none 0 0)),(3,Va ((0:Int))),(4,Va (x1)),(5,Qv y4),(6,Va (x3)),(7,Qv o7sc0),(8,Qv (.map (some b5))),(28,Va ((((v0).States).length:Int))),(29,Va (o7s.1)),(1000,Ow 3 y4 (x2)),(1002,Ow 3 o7sc0 (o7s.2.1)),(1001,Om b5 (o7s.2.2:List (Int×Bool)))] a w) ?_ fun a w s=>?_
  ·refine wpIn_block ?_
   refine loI (fun n z6=>m51_l1 f v0 x2 x3 n z6) o7s (fun z6 a w=>∃ (z6c0:Value),St M w_0 97 [(0,Va (v0)),(1,Pt (v0)),(2,Qv (.slice none 0 0)),(3,Va ((0:Int))),(4,Va (x1)),(5,Qv y4),(6,Va (x3)),(7,Qv z6c0),(8,Qv (.map (some b5))),(28,Va ((((v0).States).length:Int))),(29,Va (z6.1)),(1000,Ow 3 y4 (x2)),(1002,Ow 3 z6c0 (z6.2.1)),(1001,Om b5 (z6.2.2:List (Int×Bool)))] a w) f ((0:Int),([]:List Int),([]:List (Int×Bool))) ⟨c8,s.pick [0,1,2,3,4,5,6,7,8,28,29,1000,1002,1001]⟩ hoo7 (fun _=>rfl) fun n z6 a w hm s=>?_
   obtain ⟨z6c0,s⟩:=s
   replace hm:m51_l1 f v0 x2 x3 (n + 1) z6=some o7s:=hm
   unfold m51_l1 at hm
   refine se (rg (sq s (lt (t rfl) (t rfl)) rfl fun a w s=>nl ?_))
   refine se ?_
   refine cm s rfl hm (fun hb hm=>?_) (fun hb hm=>?_)
   ·refine wpIn_skip ?_
    refine se ?_
    refine wpIn_block ?_
    refine se (rg (sq s (mv (t rfl)) rfl fun a w s=>sq s (sa (t rfl)) rfl fun a w s=>nl ?_))
    refine se ?_
    obtain ⟨x9,hx9,hm⟩:=bs hm
    refine se (rg (sq s (mvq (t rfl)) rfl fun a w s=>sq s (mv (t rfl)) rfl fun a w s=>sq s (ixq (α:=Int) (k:=1000) (t rfl) rfl (t rfl) hx9) rfl fun a w s=>sq s (lq (k:=1000) (t rfl) rfl (idxg hx9)) rfl fun a w s=>sq s (lt (t rfl) ci) rfl fun a w s=>nl ?_))
    refine cm s rfl hm (fun hb hm=>?_) (fun hb hm=>?_)
    ·refine wpIn_exit ?_
     refine rg (sq s (ad (t rfl) ci) rfl fun a w s=>sq s (mv (t rfl)) rfl fun a w s=>nl ?_)
     exact ⟨_,hm,⟨z6c0,s.pick [0,1,2,3,4,5,6,7,8,28,29,1000,1002,1001]⟩⟩
    ·refine wpIn_skip ?_
     refine se ?_
     refine se (rg (sq s (mvq (t rfl)) rfl fun a w s=>sq s (mv (t rfl)) rfl fun a w s=>sq s (lkm (K:=3) (E:=4) (KK:=1001) (z:=false) (t rfl) rfl (t rfl) (by kernel_rfl) (by kernel_rfl)) rfl fun a w s=>sq s (nt (t rfl)) rfl fun a w s=>nl ?_))
     refine cm s rfl hm (fun hb hm=>?_) (fun hb hm=>?_)
     ·obtain ⟨x10,hx10,hm⟩:=bs hm
      obtain ⟨x12,hx12,hm⟩:=bs hm
      refine se (rg (sq s (fa (f:=Space.Moves) (t rfl)) rfl fun a w s=>sq s (ld (t rfl)) rfl fun a w s=>sq s (mv (t rfl)) rfl fun a w s=>sqz [1003] hM s (cc rfl (oc (t rfl) (oc (t rfl) on)) (s115 f _ _ _ hx10)) (fun _=>rfl) rfl rfl fun y11 a w s=>sq s (mv (t rfl)) rfl fun a w s=>sq s (mv (t rfl)) rfl fun a w s=>sqz [1004] hM s (cc rfl (oc (t rfl) (oc (t rfl) on)) (s115 f _ _ _ hx12)) (fun _=>rfl) rfl rfl fun y13 a w s=>sq s (saq (t rfl)) rfl fun a w s=>sq s (saq (t rfl)) rfl fun a w s=>nl ?_))
      refine se (rg (sq s (mvq (t rfl)) rfl fun a w s=>sq s (mv (t rfl)) rfl fun a w s=>stm (K:=3) (E:=4) (KK:=1001) s (t rfl) rfl (t rfl) cb (by kernel_rfl) fun w s=>nl ?_))
      refine se ?_
      refine se (rg (sq s (mvq (t rfl)) rfl fun a w s=>sq s (lnq (α:=Int) (k:=1003) (t rfl) rfl) rfl fun a w s=>sq s (mv ci) rfl fun a w s=>nl ?_))
      obtain ⟨o15s,hoo15,hko15⟩:=bs hm
      refine cpI (fun a w=>St M w_0 97 [(0,Va (v0)),(1,Pt (v0)),(2,Qv (.slice none 0 0)),(3,Va ((0:Int))),(4,Va (x1)),(5,Qv y4),(6,Va (x3)),(7,Qv z6c0),(8,Qv (.map (some b5))),(9,Va (z6.1)),(10,Qv y11),(11,Qv y13),(28,Va ((((v0).States).length:Int))),(29,Va (z6.1)),(51,Va ((x10.length:Int))),(52,Va (o15s.1)),(1000,Ow 3 y4 (x2)),(1002,Ow 3 z6c0 (z6.2.1)),(1001,Om b5 (o15s.2:List (Int×Bool))),(1003,Ow 3 y11 (x10)),(1004,Ow 3 y13 (x12))] a w) ?_ fun a w s=>?_
      ·refine wpIn_block ?_
       refine loI (fun n z14=>m51_l2 z6 x9 x10 x12 n z14) o15s (fun z14 a w=>St M w_0 97 [(0,Va (v0)),(1,Pt (v0)),(2,Qv (.slice none 0 0)),(3,Va ((0:Int))),(4,Va (x1)),(5,Qv y4),(6,Va (x3)),(7,Qv z6c0),(8,Qv (.map (some b5))),(9,Va (z6.1)),(10,Qv y11),(11,Qv y13),(28,Va ((((v0).States).length:Int))),(29,Va (z6.1)),(51,Va ((x10.length:Int))),(52,Va (z14.1)),(1000,Ow 3 y4 (x2)),(1002,Ow 3 z6c0 (z6.2.1)),(1001,Om b5 (z14.2:List (Int×Bool))),(1003,Ow 3 y11 (x10)),(1004,Ow 3 y13 (x12))] a w) f ((0:Int),(mput eqqI z6.2.2 z6.1 true)) (s.pick [0,1,2,3,4,5,6,7,8,9,10,11,28,29,51,52,1000,1002,1001,1003,1004]) hoo15 (fun _=>rfl) fun n z14 a w hm s=>?_
       replace hm:m51_l2 z6 x9 x10 x12 (n + 1) z14=some o15s:=hm
       unfold m51_l2 at hm
       refine se (rg (sq s (lt (t rfl) (t rfl)) rfl fun a w s=>nl ?_))
       refine se ?_
       refine cm s rfl hm (fun hb hm=>?_) (fun hb hm=>?_)
       ·refine wpIn_skip ?_
        refine se ?_
        refine wpIn_block ?_
        refine se (rg (sq s (mv (t rfl)) rfl fun a w s=>sq s (sa (t rfl)) rfl fun a w s=>nl ?_))
        obtain ⟨x16,hx16,hm⟩:=bs hm
        obtain ⟨r18,hr18,hm⟩:=bs hm
        have gr18:=gT hr18
        have er18:=gF hr18
        obtain ⟨x17,hx17,gr18⟩:=gx gr18
        refine se (rg (sq s (mvq (t rfl)) rfl fun a w s=>sq s (mv (t rfl)) rfl fun a w s=>sq s (ixq (α:=Int) (k:=1003) (t rfl) rfl (t rfl) hx16) rfl fun a w s=>sq s (lq (k:=1003) (t rfl) rfl (idxg hx16)) rfl fun a w s=>sq s (ge (t rfl) ci) rfl fun a w s=>sq s (mv (t rfl)) rfl fun a w s=>sg s rfl rfl (fun hb=>(mvq (t rfl))) rfl fun a w s=>sg s rfl rfl (fun hb=>(mv (t rfl))) rfl fun a w s=>sg s rfl rfl (fun hb=>(ixq (α:=Int) (k:=1004) (tg rfl hb) rfl (tg rfl hb) (hx17 hb))) rfl fun a w s=>sg s rfl rfl (fun hb=>(lq (k:=1004) (tg rfl hb) rfl (idxg (hx17 hb)))) rfl fun a w s=>sg s rfl rfl (fun hb=>(lt (tg rfl hb) ci)) rfl fun a w s=>sq s (pa (t rfl) rfl (fun h=>si (gr18 h)) (fun h=>(si (er18 h)).symm)) rfl fun a w s=>nl ?_))
        obtain ⟨z19,hz19,hkz19⟩:=bs hm
        refine cpI (fun a w=>St M w_0 97 [(0,Va (v0)),(1,Pt (v0)),(2,Qv (.slice none 0 0)),(3,Va ((0:Int))),(4,Va (x1)),(5,Qv y4),(6,Va (x3)),(7,Qv z6c0),(8,Qv (.map (some b5))),(9,Va (z6.1)),(10,Qv y11),(11,Qv y13),(12,Va (z14.1)),(28,Va ((((v0).States).length:Int))),(29,Va (z6.1)),(51,Va ((x10.length:Int))),(52,Va (z14.1)),(1000,Ow 3 y4 (x2)),(1002,Ow 3 z6c0 (z6.2.1)),(1001,Om b5 (z19:List (Int×Bool))),(1003,Ow 3 y11 (x10)),(1004,Ow 3 y13 (x12))] a w) ?_ fun a w s=>?_
        ·refine cm s rfl hz19 (fun hb hm=>?_) (fun hb hm=>?_)
         ·refine rg (sq s (mvq (t rfl)) rfl fun a w s=>sq s (mv (t rfl)) rfl fun a w s=>stm (K:=3) (E:=4) (KK:=1001) s (t rfl) rfl (t rfl) cb (by kernel_rfl) fun w s=>nl ?_)
          obtain rfl:=si hm
          exact s.pick [0,1,2,3,4,5,6,7,8,9,10,11,12,28,29,51,52,1000,1002,1001,1003,1004]
         ·refine wpIn_skip ?_
          obtain rfl:=si hm
          exact s.pick [0,1,2,3,4,5,6,7,8,9,10,11,12,28,29,51,52,1000,1002,1001,1003,1004]
        ·replace hm:=hkz19
         refine rg (sq s (ad (t rfl) ci) rfl fun a w s=>sq s (mv (t rfl)) rfl fun a w s=>nl ?_)
         exact ⟨_,hm,s.pick [0,1,2,3,4,5,6,7,8,9,10,11,28,29,51,52,1000,1002,1001,1003,1004]⟩
       ·refine wpIn_exit ?_
        obtain rfl:=si hm
        exact s.pick [0,1,2,3,4,5,6,7,8,9,10,11,28,29,51,52,1000,1002,1001,1003,1004]
      ·replace hm:=hko15
       refine se (rg (sq s (mvq (t rfl)) rfl fun a w s=>sq s (lnq (α:=Int) (k:=1003) (t rfl) rfl) rfl fun a w s=>sq s (mv ci) rfl fun a w s=>nl ?_))
       obtain ⟨o21s,hoo21,hko21⟩:=bs hm
       refine cpI (fun a w=>St M w_0 97 [(0,Va (v0)),(1,Pt (v0)),(2,Qv (.slice none 0 0)),(3,Va ((0:Int))),(4,Va (x1)),(5,Qv y4),(6,Va (x3)),(7,Qv z6c0),(8,Qv (.map (some b5))),(9,Va (z6.1)),(10,Qv y11),(11,Qv y13),(28,Va ((((v0).States).length:Int))),(29,Va (z6.1)),(51,Va ((x10.length:Int))),(52,Va (o15s.1)),(71,Va ((x10.length:Int))),(72,Va (o21s.1)),(1000,Ow 3 y4 (x2)),(1002,Ow 3 z6c0 (z6.2.1)),(1001,Om b5 (o21s.2:List (Int×Bool))),(1003,Ow 3 y11 (x10)),(1004,Ow 3 y13 (x12))] a w) ?_ fun a w s=>?_
       ·refine wpIn_block ?_
        refine loI (fun n z20=>m51_l3 z6 x9 x10 n z20) o21s (fun z20 a w=>St M w_0 97 [(0,Va (v0)),(1,Pt (v0)),(2,Qv (.slice none 0 0)),(3,Va ((0:Int))),(4,Va (x1)),(5,Qv y4),(6,Va (x3)),(7,Qv z6c0),(8,Qv (.map (some b5))),(9,Va (z6.1)),(10,Qv y11),(11,Qv y13),(28,Va ((((v0).States).length:Int))),(29,Va (z6.1)),(51,Va ((x10.length:Int))),(52,Va (o15s.1)),(71,Va ((x10.length:Int))),(72,Va (z20.1)),(1000,Ow 3 y4 (x2)),(1002,Ow 3 z6c0 (z6.2.1)),(1001,Om b5 (z20.2:List (Int×Bool))),(1003,Ow 3 y11 (x10)),(1004,Ow 3 y13 (x12))] a w) f ((0:Int),o15s.2) (s.pick [0,1,2,3,4,5,6,7,8,9,10,11,28,29,51,52,71,72,1000,1002,1001,1003,1004]) hoo21 (fun _=>rfl) fun n z20 a w hm s=>?_
        replace hm:m51_l3 z6 x9 x10 (n + 1) z20=some o21s:=hm
        unfold m51_l3 at hm
        refine se (rg (sq s (lt (t rfl) (t rfl)) rfl fun a w s=>nl ?_))
        refine se ?_
        refine cm s rfl hm (fun hb hm=>?_) (fun hb hm=>?_)
        ·refine wpIn_skip ?_
         refine se ?_
         refine wpIn_block ?_
         refine se (rg (sq s (mv (t rfl)) rfl fun a w s=>sq s (sa (t rfl)) rfl fun a w s=>nl ?_))
         obtain ⟨r23,hr23,hm⟩:=bs hm
         have gr23:=gT hr23
         have er23:=gF hr23
         obtain ⟨x22,hx22,gr23⟩:=gx gr23
         refine se (rg (sq s (mvq (t rfl)) rfl fun a w s=>sq s (mv (t rfl)) rfl fun a w s=>sq s (lkm (K:=3) (E:=4) (KK:=1001) (z:=false) (t rfl) rfl (t rfl) (by kernel_rfl) (by kernel_rfl)) rfl fun a w s=>sq s (mv (t rfl)) rfl fun a w s=>sg s rfl rfl (fun hb=>(mvq (t rfl))) rfl fun a w s=>sg s rfl rfl (fun hb=>(mv (t rfl))) rfl fun a w s=>sg s rfl rfl (fun hb=>(ixq (α:=Int) (k:=1003) (tg rfl hb) rfl (tg rfl hb) (hx22 hb))) rfl fun a w s=>sg s rfl rfl (fun hb=>(lq (k:=1003) (tg rfl hb) rfl (idxg (hx22 hb)))) rfl fun a w s=>sg s rfl rfl (fun hb=>(ge (tg rfl hb) ci)) rfl fun a w s=>sq s (pa (t rfl) rfl (fun h=>si (gr23 h)) (fun h=>(si (er23 h)).symm)) rfl fun a w s=>nl ?_))
         obtain ⟨z24,hz24,hkz24⟩:=bs hm
         refine cpI (fun a w=>St M w_0 97 [(0,Va (v0)),(1,Pt (v0)),(2,Qv (.slice none 0 0)),(3,Va ((0:Int))),(4,Va (x1)),(5,Qv y4),(6,Va (x3)),(7,Qv z6c0),(8,Qv (.map (some b5))),(9,Va (z6.1)),(10,Qv y11),(11,Qv y13),(13,Va (z20.1)),(28,Va ((((v0).States).length:Int))),(29,Va (z6.1)),(51,Va ((x10.length:Int))),(52,Va (o15s.1)),(71,Va ((x10.length:Int))),(72,Va (z20.1)),(1000,Ow 3 y4 (x2)),(1002,Ow 3 z6c0 (z6.2.1)),(1001,Om b5 (z24:List (Int×Bool))),(1003,Ow 3 y11 (x10)),(1004,Ow 3 y13 (x12))] a w) ?_ fun a w s=>?_
         ·refine cm s rfl hz24 (fun hb hm=>?_) (fun hb hm=>?_)
          ·refine rg (sq s (mvq (t rfl)) rfl fun a w s=>sq s (mv (t rfl)) rfl fun a w s=>stm (K:=3) (E:=4) (KK:=1001) s (t rfl) rfl (t rfl) cb (by kernel_rfl) fun w s=>nl ?_)
           obtain rfl:=si hm
           exact s.pick [0,1,2,3,4,5,6,7,8,9,10,11,13,28,29,51,52,71,72,1000,1002,1001,1003,1004]
          ·refine wpIn_skip ?_
           obtain rfl:=si hm
           exact s.pick [0,1,2,3,4,5,6,7,8,9,10,11,13,28,29,51,52,71,72,1000,1002,1001,1003,1004]
         ·replace hm:=hkz24
          refine rg (sq s (ad (t rfl) ci) rfl fun a w s=>sq s (mv (t rfl)) rfl fun a w s=>nl ?_)
          exact ⟨_,hm,s.pick [0,1,2,3,4,5,6,7,8,9,10,11,28,29,51,52,71,72,1000,1002,1001,1003,1004]⟩
        ·refine wpIn_exit ?_
         obtain rfl:=si hm
         exact s.pick [0,1,2,3,4,5,6,7,8,9,10,11,28,29,51,52,71,72,1000,1002,1001,1003,1004]
       ·replace hm:=hko21
        refine se (rg (sq s (mvq (t rfl)) rfl fun a w s=>sq s (mv (t rfl)) rfl fun a w s=>sq s (lkm (K:=3) (E:=4) (KK:=1001) (z:=false) (t rfl) rfl (t rfl) (by kernel_rfl) (by kernel_rfl)) rfl fun a w s=>nl ?_))
        obtain ⟨z25,hz25,hkz25⟩:=bs hm
        refine cpI (fun a w=>∃ (z25c0:Value),St M w_0 97 [(0,Va (v0)),(1,Pt (v0)),(2,Qv (.slice none 0 0)),(3,Va ((0:Int))),(4,Va (x1)),(5,Qv y4),(6,Va (x3)),(7,Qv z25c0),(8,Qv (.map (some b5))),(9,Va (z6.1)),(10,Qv y11),(11,Qv y13),(28,Va ((((v0).States).length:Int))),(29,Va (z6.1)),(51,Va ((x10.length:Int))),(52,Va (o15s.1)),(71,Va ((x10.length:Int))),(72,Va (o21s.1)),(1000,Ow 3 y4 (x2)),(1002,Ow 3 z25c0 (z25)),(1001,Om b5 (o21s.2:List (Int×Bool))),(1003,Ow 3 y11 (x10)),(1004,Ow 3 y13 (x12))] a w) ?_ fun a w s=>?_
        ·refine cm s rfl hz25 (fun hb hm=>?_) (fun hb hm=>?_)
         ·obtain ⟨x26,hx26,hm⟩:=bs hm
          refine rg (sq s (mvq (t rfl)) rfl fun a w s=>sq s (mv (t rfl)) rfl fun a w s=>sq s (bsv (o1 (t rfl) o0) rfl rfl (by kernel_rfl)) rfl fun a w s=>apd (α:=Int) (k:=1002) s (t rfl) rfl (t rfl) hx26 rfl rfl fun c27 a w s=>sq s (saq (t rfl)) rfl fun a w s=>nl ?_)
          obtain rfl:=si hm
          exact ⟨c27,s.pick [0,1,2,3,4,5,6,7,8,9,10,11,28,29,51,52,71,72,1000,1002,1001,1003,1004]⟩
         ·refine wpIn_skip ?_
          obtain rfl:=si hm
          exact ⟨z6c0,s.pick [0,1,2,3,4,5,6,7,8,9,10,11,28,29,51,52,71,72,1000,1002,1001,1003,1004]⟩
        ·obtain ⟨z25c0,s⟩:=s
         replace hm:=hkz25
         refine rg (sq s (ad (t rfl) ci) rfl fun a w s=>sq s (mv (t rfl)) rfl fun a w s=>nl ?_)
         exact ⟨_,hm,⟨z25c0,s.pick [0,1,2,3,4,5,6,7,8,28,29,1000,1002,1001]⟩⟩
     ·refine wpIn_skip ?_
      refine se (rg (sq s (mvq (t rfl)) rfl fun a w s=>sq s (mv (t rfl)) rfl fun a w s=>sq s (lkm (K:=3) (E:=4) (KK:=1001) (z:=false) (t rfl) rfl (t rfl) (by kernel_rfl) (by kernel_rfl)) rfl fun a w s=>nl ?_))
      obtain ⟨z28,hz28,hkz28⟩:=bs hm
      refine cpI (fun a w=>∃ (z28c0:Value),St M w_0 97 [(0,Va (v0)),(1,Pt (v0)),(2,Qv (.slice none 0 0)),(3,Va ((0:Int))),(4,Va (x1)),(5,Qv y4),(6,Va (x3)),(7,Qv z28c0),(8,Qv (.map (some b5))),(9,Va (z6.1)),(28,Va ((((v0).States).length:Int))),(29,Va (z6.1)),(1000,Ow 3 y4 (x2)),(1002,Ow 3 z28c0 (z28)),(1001,Om b5 (z6.2.2:List (Int×Bool)))] a w) ?_ fun a w s=>?_
      ·refine cm s rfl hz28 (fun hb hm=>?_) (fun hb hm=>?_)
       ·obtain ⟨x29,hx29,hm⟩:=bs hm
        refine rg (sq s (mvq (t rfl)) rfl fun a w s=>sq s (mv (t rfl)) rfl fun a w s=>sq s (bsv (o1 (t rfl) o0) rfl rfl (by kernel_rfl)) rfl fun a w s=>apd (α:=Int) (k:=1002) s (t rfl) rfl (t rfl) hx29 rfl rfl fun c30 a w s=>sq s (saq (t rfl)) rfl fun a w s=>nl ?_)
        obtain rfl:=si hm
        exact ⟨c30,s.pick [0,1,2,3,4,5,6,7,8,9,28,29,1000,1002,1001]⟩
       ·refine wpIn_skip ?_
        obtain rfl:=si hm
        exact ⟨z6c0,s.pick [0,1,2,3,4,5,6,7,8,9,28,29,1000,1002,1001]⟩
      ·obtain ⟨z28c0,s⟩:=s
       replace hm:=hkz28
       refine rg (sq s (ad (t rfl) ci) rfl fun a w s=>sq s (mv (t rfl)) rfl fun a w s=>nl ?_)
       exact ⟨_,hm,⟨z28c0,s.pick [0,1,2,3,4,5,6,7,8,28,29,1000,1002,1001]⟩⟩
   ·refine wpIn_exit ?_
    obtain rfl:=si hm
    exact ⟨z6c0,s.pick [0,1,2,3,4,5,6,7,8,28,29,1000,1002,1001]⟩
  ·obtain ⟨o7sc0,s⟩:=s
   replace hm:=hko7
   refine se (rg (sq s (mvq (t rfl)) rfl fun a w s=>sq s (saq (t rfl)) rfl fun a w s=>sq s (sa ci) rfl fun a w s=>nl ?_))
   obtain rfl:=si hm
   refine fzk (α:=Int) (k:=1002) hM s rfl fun s=>?_
   refine wpIn_ret ?_
   exact rn hD s rfl (rv2 (ro (ta (k:=1002) (t rfl) rfl)) (rt rfl))
def m53_l1 (v0:List Int) (v1:List Int):Nat→Int→Option (Lo (Int) (Bool))
 | 0,_=>none
 | n+1,z1=>(bif (decide (z1 < (v0.length:Int))) then (idx v0 z1).bind fun x3=>(idx v1 z1).bind fun x4=>(bif (x3 != x4) then some (.ret false) else m53_l1 v0 v1 n (wr (z1 + (1:Int)))) else some (.brk z1))
def m53 (f:Nat) (v0:List Int) (v1:List Int):Option (Bool):=(bif ((v0.length:Int) != (v1.length:Int)) then some false else ((m53_l1 v0 v1 f (0:Int)).bind fun o2=>match o2 with | .brk o2s=>some true | .ret r=>some r))
set_option maxRecDepth 100000 in
theorem s53 (f:Nat) (v0:List Int) (v1:List Int) (r:Bool) (hm:m53 f v0 v1=some r):Sp Tryz.prog 53 [Va (v0),Va (v1)] (Va (r)):=by
 unfold m53 at hm
 refine ens Tryz.func53 (by kernel_rfl) rfl Tryz.ntmps53 rfl rfl fun M w_0 a hM hD s=>?_
 refine se (rg (sq s (sa cb) rfl fun a w s=>nl ?_))
 refine se ?_
 refine se (rg (sq s (mv (t rfl)) rfl fun a w s=>sq s (ln (t rfl)) rfl fun a w s=>sq s (mv (t rfl)) rfl fun a w s=>sq s (ln (t rfl)) rfl fun a w s=>sq s (ne (t rfl) (t rfl)) rfl fun a w s=>nl ?_))
 refine cm s rfl hm (fun hb hm=>?_) (fun hb hm=>?_)
 ·refine se (rg (sq s (sa cb) rfl fun a w s=>nl ?_))
  obtain rfl:=si hm
  refine wpIn_ret ?_
  exact rn hD s rfl (rv1 (rt rfl))
 ·refine wpIn_skip ?_
  refine se ?_
  refine se (rg (sq s (mv (t rfl)) rfl fun a w s=>sq s (ln (t rfl)) rfl fun a w s=>sq s (mv ci) rfl fun a w s=>nl ?_))
  obtain ⟨o2,hoo2,hko2⟩:=bs hm
  refine lcI o2 (fun o2s a w=>St M w_0 26 [(0,Va (v0)),(1,Va (v1)),(4,Va (false)),(12,Va ((v0.length:Int))),(13,Va (o2s))] a w) ?_ fun o2s a w ho s=>?_
  ·refine wpIn_block ?_
   refine loI (fun n z1=>m53_l1 v0 v1 n z1) o2 (fun z1 a w=>St M w_0 26 [(0,Va (v0)),(1,Va (v1)),(4,Va (false)),(12,Va ((v0.length:Int))),(13,Va (z1))] a w) f (0:Int) (s.pick [0,1,4,12,13]) hoo2 (fun _=>rfl) fun n z1 a w hm s=>?_
   replace hm:m53_l1 v0 v1 (n + 1) z1=some o2:=hm
   unfold m53_l1 at hm
   refine se (rg (sq s (lt (t rfl) (t rfl)) rfl fun a w s=>nl ?_))
   refine se ?_
   refine cm s rfl hm (fun hb hm=>?_) (fun hb hm=>?_)
   ·refine wpIn_skip ?_
    refine se ?_
    refine wpIn_block ?_
    refine se (rg (sq s (mv (t rfl)) rfl fun a w s=>sq s (sa (t rfl)) rfl fun a w s=>nl ?_))
    obtain ⟨x3,hx3,hm⟩:=bs hm
    obtain ⟨x4,hx4,hm⟩:=bs hm
    refine se (flow s (m:=9) (.cons (.cons (.cons (.cons (.cons (.cons (.cons (.cons (.cons .nil rfl (mv (t rfl))) rfl (mv (t rfl))) rfl (ix (t rfl) (t rfl) hx3)) rfl (ld (t rfl))) rfl (mv (t rfl))) rfl (mv (t rfl))) rfl (ix (t rfl) (t rfl) hx4)) rfl (ld (t rfl))) rfl (ne (t rfl) (t rfl))) (by kernel_rfl) rfl rfl fun a w s=>nl ?_)
    refine cm s rfl hm (fun hb hm=>?_) (fun hb hm=>?_)
    ·refine se (rg (sq s (sa cb) rfl fun a w s=>nl ?_))
     obtain rfl:=si hm
     replace hm:=hko2
     dsimp only at hm
     obtain rfl:=si hm
     refine wpIn_ret ?_
     exact rn hD s rfl (rv1 (rt rfl))
    ·refine wpIn_skip ?_
     refine rg (sq s (ad (t rfl) ci) rfl fun a w s=>sq s (mv (t rfl)) rfl fun a w s=>nl ?_)
     exact ⟨_,hm,s.pick [0,1,4,12,13]⟩
   ·refine wpIn_exit ?_
    exact ⟨_,(si hm).symm,s.pick [0,1,4,12,13]⟩
  ·subst ho
   replace hm:=hko2
   dsimp only at hm
   refine se (rg (sq s (sa cb) rfl fun a w s=>nl ?_))
   obtain rfl:=si hm
   refine wpIn_ret ?_
   exact rn hD s rfl (rv1 (rt rfl))
def m231 (f:Nat) (v0:Bool):Option (ByteArray):=(bif v0 then some (⟨#[116,114,117,101]⟩:ByteArray) else some (⟨#[102,97,108,115,101]⟩:ByteArray))
set_option maxRecDepth 100000 in
theorem s231 (f:Nat) (v0:Bool) (r:ByteArray) (hm:m231 f v0=some r):Sp Tryz.prog 231 [Va (v0)] (Va (r)):=by
 unfold m231 at hm
 refine ens Tryz.func231 (by kernel_rfl) rfl Tryz.ntmps231 rfl rfl fun M w_0 a hM hD s=>?_
 refine se (rg (sq s (sa cs) rfl fun a w s=>nl ?_))
 refine se ?_
 refine se (rg (sq s (mv (t rfl)) rfl fun a w s=>nl ?_))
 refine cm s rfl hm (fun hb hm=>?_) (fun hb hm=>?_)
 ·refine se (rg (sq s (sa cs) rfl fun a w s=>nl ?_))
  obtain rfl:=si hm
  refine wpIn_ret ?_
  exact rn hD s rfl (rv1 (rt rfl))
 ·refine wpIn_skip ?_
  refine se (rg (sq s (sa cs) rfl fun a w s=>nl ?_))
  obtain rfl:=si hm
  refine wpIn_ret ?_
  exact rn hD s rfl (rv1 (rt rfl))
def m165 (f:Nat) (v0:Bool):Option (ByteArray):=(m231 f v0).bind fun x1=>some x1
set_option maxRecDepth 100000 in
theorem s165 (f:Nat) (v0:Bool) (r:ByteArray) (hm:m165 f v0=some r):Sp Tryz.prog 165 [Va (v0)] (Va (r)):=by
 unfold m165 at hm
 refine ens Tryz.func165 (by kernel_rfl) rfl Tryz.ntmps165 rfl rfl fun M w_0 a hM hD s=>?_
 refine se (rg (sq s (sa cs) rfl fun a w s=>nl ?_))
 obtain ⟨x1,hx1,hm⟩:=bs hm
 refine se (rg (sq s (mv (t rfl)) rfl fun a w s=>sq s (cc rfl (oc (t rfl) on) (s231 f _ _ hx1)) rfl fun a w s=>sq s (sa (t rfl)) rfl fun a w s=>nl ?_))
 obtain rfl:=si hm
 refine wpIn_ret ?_
 exact rn hD s rfl (rv1 (rt rfl))
def m164_l1 (f:Nat) (v0:List Bool):Nat→(Int×ByteArray)→Option (Int×ByteArray)
 | 0,_=>none
 | n+1,z2=>(bif (decide (z2.1 < (v0.length:Int))) then (idx v0 z2.1).bind fun x4=>(m165 f x4).bind fun x5=>(ssl x5 0 (1:Int)).bind fun x6=>(m160 f x6 z2.2).bind fun x7=>m164_l1 f v0 n ((wr (z2.1 + (1:Int))),x7) else some (z2.1,z2.2))
def m164 (f:Nat) (v0:List Bool):Option (ByteArray):=(m164_l1 f v0 f ((0:Int),ByteArray.empty)).bind fun o3s=>(m163 f o3s.2).bind fun x9=>some x9
set_option maxRecDepth 100000 in
theorem s164 (f:Nat) (v0:List Bool) (r:ByteArray) (hm:m164 f v0=some r):Sp Tryz.prog 164 [Va (v0)] (Va (r)):=by
 unfold m164 at hm
 refine ens Tryz.func164 (by kernel_rfl) rfl Tryz.ntmps164 rfl rfl fun M w_0 a hM hD s=>?_
 refine se (rg (sq s (sa cs) rfl fun a w s=>nl ?_))
 refine se (rg (sqbu 1000 s (albu (T:=230) (e:=5) (by kernel_rfl)) rfl rfl fun b1 a w s=>nl ?_))
 refine se ?_
 refine se (rg (sq s (mv (t rfl)) rfl fun a w s=>sq s (ln (t rfl)) rfl fun a w s=>sq s (mv ci) rfl fun a w s=>nl ?_))
 obtain ⟨o3s,hoo3,hko3⟩:=bs hm
 refine cpI (fun a w=>St M w_0 18 [(0,Va (v0)),(2,Va ((⟨#[]⟩:ByteArray))),(3,Qv (pb b1 0)),(6,Va (v0)),(7,Va ((v0.length:Int))),(8,Va (o3s.1)),(1000,Bw 230 5 b1 (o3s.2))] a w) ?_ fun a w s=>?_
 ·refine wpIn_block ?_
  refine loI (fun n z2=>m164_l1 f v0 n z2) o3s (fun z2 a w=>St M w_0 18 [(0,Va (v0)),(2,Va ((⟨#[]⟩:ByteArray))),(3,Qv (pb b1 0)),(6,Va (v0)),(7,Va ((v0.length:Int))),(8,Va (z2.1)),(1000,Bw 230 5 b1 (z2.2))] a w) f ((0:Int),ByteArray.empty) (s.pick [0,2,3,6,7,8,1000]) hoo3 (fun _=>rfl) fun n z2 a w hm s=>?_
  replace hm:m164_l1 f v0 (n + 1) z2=some o3s:=hm
  unfold m164_l1 at hm
  refine se (rg (sq s (lt (t rfl) (t rfl)) rfl fun a w s=>nl ?_))
  refine se ?_
  refine cm s rfl hm (fun hb hm=>?_) (fun hb hm=>?_)
  ·refine wpIn_skip ?_
   refine se ?_
   refine wpIn_block ?_
   obtain ⟨x4,hx4,hm⟩:=bs hm
   refine se (rg (sq s (ix (t rfl) (t rfl) hx4) rfl fun a w s=>sq s (ld (t rfl)) rfl fun a w s=>sq s (sa (t rfl)) rfl fun a w s=>nl ?_))
   obtain ⟨x5,hx5,hm⟩:=bs hm
   obtain ⟨x6,hx6,hm⟩:=bs hm
   obtain ⟨x7,hx7,hm⟩:=bs hm
   refine rg (sq s (mv (t rfl)) rfl fun a w s=>sq s (cc rfl (oc (t rfl) on) (s165 f _ _ hx5)) rfl fun a w s=>sq s (sl0 (t rfl) ci Tryz.underlying9 hx6) rfl fun a w s=>cgv [1000] [1000] hM s qf rfl (oc (t rfl) (oc (t rfl) on)) vn vn (s160 f b1 _ _ _ hx7) (kc rfl kn) rfl (fun _=>rfl) rfl rfl rfl fun y8 a w s=>nl ?_)
   refine rg (sq s (ad (t rfl) ci) rfl fun a w s=>sq s (mv (t rfl)) rfl fun a w s=>nl ?_)
   exact ⟨_,hm,s.pick [0,2,3,6,7,8,1000]⟩
  ·refine wpIn_exit ?_
   obtain rfl:=si hm
   exact s.pick [0,2,3,6,7,8,1000]
 ·replace hm:=hko3
  obtain ⟨x9,hx9,hm⟩:=bs hm
  refine se (rg (cgv [1000] [1000] hM s qf rfl (oc (t rfl) on) vn vn (s163 f b1 _ _ hx9) (kc rfl kn) rfl (fun _=>rfl) rfl rfl rfl fun y10 a w s=>sq s (sa (t rfl)) rfl fun a w s=>nl ?_))
  obtain rfl:=si hm
  refine wpIn_ret ?_
  exact rn hD s rfl (rv1 (rt rfl))
def m291 (f:Nat) (v0:Int):Option (ByteArray):=(bif (decide (v0 < (10:Int))) then (ssl (⟨#[48,49,50,51,52,53,54,55,56,57,97,98,99,100,101,102,103,104,105,106,107,108,109,110,111,112,113,114,115,116,117,118,119,120,121,122]⟩:ByteArray) v0 (wr (v0 + (1:Int)))).bind fun x1=>some x1 else (ssl (⟨#[48,48,48,49,48,50,48,51,48,52,48,53,48,54,48,55,48,56,48,57,49,48,49,49,49,50,49,51,49,52,49,53,49,54,49,55,49,56,49,57,50,48,50,49,50,50,50,51,50,52,50,53,50,54,50,55,50,56,50,57,51,48,51,49,51,50,51,51,51,52,51,53,51,54,51,55,51,56,51,57,52,48,52,49,52,50,52,51,52,52,52,53,52,54,52,55,52,56,52,57,53,48,53,49,53,50,53,51,53,52,53,53,53,54,53,55,53,56,53,57,54,48,54,49,54,50,54,51,54,52,54,53,54,54,54,55,54,56,54,57,55,48,55,49,55,50,55,51,55,52,55,53,55,54,55,55,55,56,55,57,56,48,56,49,56,50,56,51,56,52,56,53,56,54,56,55,56,56,56,57,57,48,57,49,57,50,57,51,57,52,57,53,57,54,57,55,57,56,57,57]⟩:ByteArray) (wr (v0 * (2:Int))) (wr ((wr (v0 * (2:Int))) + (2:Int)))).bind fun x2=>some x2)
set_option maxRecDepth 100000 in
theorem s291 (f:Nat) (v0:Int) (r:ByteArray) (hm:m291 f v0=some r):Sp Tryz.prog 291 [Va (v0)] (Va (r)):=by
 unfold m291 at hm
 refine ens Tryz.func291 (by kernel_rfl) rfl Tryz.ntmps291 rfl rfl fun M w_0 a hM hD s=>?_
 refine se (rg (sq s (sa cs) rfl fun a w s=>nl ?_))
 refine se ?_
 refine se (rg (sq s (mv (t rfl)) rfl fun a w s=>sq s (lt (t rfl) ci) rfl fun a w s=>nl ?_))
 refine cm s rfl hm (fun hb hm=>?_) (fun hb hm=>?_)
 ·obtain ⟨x1,hx1,hm⟩:=bs hm
  refine se (rg (sq s (mv (t rfl)) rfl fun a w s=>sq s (mv (t rfl)) rfl fun a w s=>sq s (ad (t rfl) ci) rfl fun a w s=>sq s (sl2 cs (t rfl) (t rfl) Tryz.underlying9 hx1) rfl fun a w s=>sq s (sa (t rfl)) rfl fun a w s=>nl ?_))
  obtain rfl:=si hm
  refine wpIn_ret ?_
  exact rn hD s rfl (rv1 (rt rfl))
 ·refine wpIn_skip ?_
  obtain ⟨x2,hx2,hm⟩:=bs hm
  refine se (rg (sq s (mv (t rfl)) rfl fun a w s=>sq s (ml (t rfl) ci) rfl fun a w s=>sq s (mv (t rfl)) rfl fun a w s=>sq s (ml (t rfl) ci) rfl fun a w s=>sq s (ad (t rfl) ci) rfl fun a w s=>sq s (sl2 cs (t rfl) (t rfl) Tryz.underlying9 hx2) rfl fun a w s=>sq s (sa (t rfl)) rfl fun a w s=>nl ?_))
  obtain rfl:=si hm
  refine wpIn_ret ?_
  exact rn hD s rfl (rv1 (rt rfl))
def m266_1 (f:Nat) (v0:Int) (v1:Int):Option (ByteArray):=(bif (v1 == (10:Int)) then (bif ((decide ((0:Int)≤v0)) && (decide (v0 < (100:Int)))) then (m291 f v0).bind fun x1=>some x1 else none) else none)
set_option maxRecDepth 100000 in
theorem s266_1 (f:Nat) (v0:Int) (v1:Int) (r:ByteArray) (hm:m266_1 f v0 v1=some r):Sp Tryz.prog 266 [Va (v0),Va (v1)] (Va (r)):=by
 unfold m266_1 at hm
 refine ens Tryz.func266 (by kernel_rfl) rfl Tryz.ntmps266 rfl rfl fun M w_0 a hM hD s=>?_
 refine se (rg (sq s (sa cs) rfl fun a w s=>nl ?_))
 refine se ?_
 refine se (rg (sq s (mv (t rfl)) rfl fun a w s=>sq s (eq (t rfl) ci) rfl fun a w s=>nl ?_))
 refine cm s rfl hm (fun hb hm=>?_) (fun hb hm=>?_)
 ·refine se ?_
  refine se (rg (sq s (mv (t rfl)) rfl fun a w s=>sq s (le ci (t rfl)) rfl fun a w s=>sq s (mv (t rfl)) rfl fun a w s=>sg s rfl rfl (fun hb=>(mv (t rfl))) rfl fun a w s=>sg s rfl rfl (fun hb=>(lt (tg rfl hb) ci)) rfl fun a w s=>sq s (paP (t rfl) rfl) rfl fun a w s=>nl ?_))
  refine cm s rfl hm (fun hb hm=>?_) (fun hb hm=>?_)
  ·obtain ⟨x1,hx1,hm⟩:=bs hm
   refine se (rg (sq s (mv (t rfl)) rfl fun a w s=>sq s (cc rfl (oc (t rfl) on) (s291 f _ _ hx1)) rfl fun a w s=>sq s (sa (t rfl)) rfl fun a w s=>nl ?_))
   obtain rfl:=si hm
   refine wpIn_ret ?_
   exact rn hD s rfl (rv1 (rt rfl))
  ·refine wpIn_skip ?_
   cases hm
 ·refine wpIn_skip ?_
  cases hm
def m230 (f:Nat) (v0:Int):Option (ByteArray):=(m266_1 f v0 (10:Int)).bind fun x1=>some x1
set_option maxRecDepth 100000 in
theorem s230 (f:Nat) (v0:Int) (r:ByteArray) (hm:m230 f v0=some r):Sp Tryz.prog 230 [Va (v0)] (Va (r)):=by
 unfold m230 at hm
 refine ens Tryz.func230 (by kernel_rfl) rfl Tryz.ntmps230 rfl rfl fun M w_0 a hM hD s=>?_
 refine se (rg (sq s (sa cs) rfl fun a w s=>nl ?_))
 obtain ⟨x1,hx1,hm⟩:=bs hm
 refine se (rg (sq s (mv (t rfl)) rfl fun a w s=>sq s (cc rfl (oc (t rfl) (oc ci on)) (s266_1 f _ _ _ hx1)) rfl fun a w s=>sq s (sa (t rfl)) rfl fun a w s=>nl ?_))
 obtain rfl:=si hm
 refine wpIn_ret ?_
 exact rn hD s rfl (rv1 (rt rfl))
def m161 (f:Nat) (v0:Int):Option (ByteArray):=(m230 f v0).bind fun x1=>some x1
set_option maxRecDepth 100000 in
theorem s161 (f:Nat) (v0:Int) (r:ByteArray) (hm:m161 f v0=some r):Sp Tryz.prog 161 [Va (v0)] (Va (r)):=by
 unfold m161 at hm
 refine ens Tryz.func161 (by kernel_rfl) rfl Tryz.ntmps161 rfl rfl fun M w_0 a hM hD s=>?_
 refine se (rg (sq s (sa cs) rfl fun a w s=>nl ?_))
 obtain ⟨x1,hx1,hm⟩:=bs hm
 refine se (rg (sq s (mv (t rfl)) rfl fun a w s=>sq s (cc rfl (oc (t rfl) on) (s230 f _ _ hx1)) rfl fun a w s=>sq s (sa (t rfl)) rfl fun a w s=>nl ?_))
 obtain rfl:=si hm
 refine wpIn_ret ?_
 exact rn hD s rfl (rv1 (rt rfl))
def m159_l1 (f:Nat) (v0:List Int):Nat→(Int×ByteArray)→Option (Int×ByteArray)
 | 0,_=>none
 | n+1,z2=>(bif (decide (z2.1 < (v0.length:Int))) then (idx v0 z2.1).bind fun x4=>(m161 f x4).bind fun x5=>(m160 f x5 z2.2).bind fun x6=>(m162 f (UInt8.ofNat 32) x6).bind fun x8=>m159_l1 f v0 n ((wr (z2.1 + (1:Int))),x8) else some (z2.1,z2.2))
def m159 (f:Nat) (v0:List Int):Option (ByteArray):=(m159_l1 f v0 f ((0:Int),ByteArray.empty)).bind fun o3s=>(m163 f o3s.2).bind fun x10=>some x10
set_option maxRecDepth 100000 in
theorem s159 (f:Nat) (v0:List Int) (r:ByteArray) (hm:m159 f v0=some r):Sp Tryz.prog 159 [Va (v0)] (Va (r)):=by
 unfold m159 at hm
 refine ens Tryz.func159 (by kernel_rfl) rfl Tryz.ntmps159 rfl rfl fun M w_0 a hM hD s=>?_
 refine se (rg (sq s (sa cs) rfl fun a w s=>nl ?_))
 refine se (rg (sqbu 1000 s (albu (T:=230) (e:=5) (by kernel_rfl)) rfl rfl fun b1 a w s=>nl ?_))
 refine se ?_
 refine se (rg (sq s (mv (t rfl)) rfl fun a w s=>sq s (ln (t rfl)) rfl fun a w s=>sq s (mv ci) rfl fun a w s=>nl ?_))
 obtain ⟨o3s,hoo3,hko3⟩:=bs hm
 refine cpI (fun a w=>St M w_0 18 [(0,Va (v0)),(2,Va ((⟨#[]⟩:ByteArray))),(3,Qv (pb b1 0)),(6,Va (v0)),(7,Va ((v0.length:Int))),(8,Va (o3s.1)),(1000,Bw 230 5 b1 (o3s.2))] a w) ?_ fun a w s=>?_
 ·refine wpIn_block ?_
  refine loI (fun n z2=>m159_l1 f v0 n z2) o3s (fun z2 a w=>St M w_0 18 [(0,Va (v0)),(2,Va ((⟨#[]⟩:ByteArray))),(3,Qv (pb b1 0)),(6,Va (v0)),(7,Va ((v0.length:Int))),(8,Va (z2.1)),(1000,Bw 230 5 b1 (z2.2))] a w) f ((0:Int),ByteArray.empty) (s.pick [0,2,3,6,7,8,1000]) hoo3 (fun _=>rfl) fun n z2 a w hm s=>?_
  replace hm:m159_l1 f v0 (n + 1) z2=some o3s:=hm
  unfold m159_l1 at hm
  refine se (rg (sq s (lt (t rfl) (t rfl)) rfl fun a w s=>nl ?_))
  refine se ?_
  refine cm s rfl hm (fun hb hm=>?_) (fun hb hm=>?_)
  ·refine wpIn_skip ?_
   refine se ?_
   refine wpIn_block ?_
   obtain ⟨x4,hx4,hm⟩:=bs hm
   refine se (rg (sq s (ix (t rfl) (t rfl) hx4) rfl fun a w s=>sq s (ld (t rfl)) rfl fun a w s=>sq s (sa (t rfl)) rfl fun a w s=>nl ?_))
   obtain ⟨x5,hx5,hm⟩:=bs hm
   obtain ⟨x6,hx6,hm⟩:=bs hm
   refine se (rg (sq s (mv (t rfl)) rfl fun a w s=>sq s (cc rfl (oc (t rfl) on) (s161 f _ _ hx5)) rfl fun a w s=>cgv [1000] [1000] hM s qf rfl (oc (t rfl) (oc (t rfl) on)) vn vn (s160 f b1 _ _ _ hx6) (kc rfl kn) rfl (fun _=>rfl) rfl rfl rfl fun y7 a w s=>nl ?_))
   obtain ⟨x8,hx8,hm⟩:=bs hm
   refine rg (cgv [1000] [1000] hM s qf rfl (oc (t rfl) (oc (c8 (by decide)) on)) vn vn (s162 f b1 _ _ _ hx8) (kc rfl kn) rfl (fun _=>rfl) rfl rfl rfl fun y9 a w s=>nl ?_)
   refine rg (sq s (ad (t rfl) ci) rfl fun a w s=>sq s (mv (t rfl)) rfl fun a w s=>nl ?_)
   exact ⟨_,hm,s.pick [0,2,3,6,7,8,1000]⟩
  ·refine wpIn_exit ?_
   obtain rfl:=si hm
   exact s.pick [0,2,3,6,7,8,1000]
 ·replace hm:=hko3
  obtain ⟨x10,hx10,hm⟩:=bs hm
  refine se (rg (cgv [1000] [1000] hM s qf rfl (oc (t rfl) on) vn vn (s163 f b1 _ _ hx10) (kc rfl kn) rfl (fun _=>rfl) rfl rfl rfl fun y11 a w s=>sq s (sa (t rfl)) rfl fun a w s=>nl ?_))
  obtain rfl:=si hm
  refine wpIn_ret ?_
  exact rn hD s rfl (rv1 (rt rfl))
def m88 (f:Nat) (v0:State):Option (Key):=(m159 f ((v0).Ends)).bind fun x2=>(m164 f ((v0).Valves)).bind fun x3=>(m164 f ((v0).Inputs)).bind fun x4=>(m164 f ((v0).Values)).bind fun x5=>(m159 f ((v0).Timers)).bind fun x6=>some (⟨x2,x3,x4,x5,x6⟩:Key)
set_option maxRecDepth 100000 in
theorem s88 (f:Nat) (v0:State) (r:Key) (hm:m88 f v0=some r):Sp Tryz.prog 88 [Va (v0)] (Va (r)):=by
 unfold m88 at hm
 refine ens Tryz.func88 (by kernel_rfl) rfl Tryz.ntmps88 rfl rfl fun M w_0 a hM hD s=>?_
 refine se (rg (sq s (bx (t rfl)) rfl fun a w s=>sqb 1000 s (al (z:=(⟨ByteArray.empty,ByteArray.empty,ByteArray.empty,ByteArray.empty,ByteArray.empty⟩:Key))) rfl rfl fun b1 a w s=>nl ?_))
 refine se (rg (sq s (saq qf) rfl fun a w s=>nl ?_))
 refine se (rg (sq s (saq qf) rfl fun a w s=>nl ?_))
 obtain ⟨x2,hx2,hm⟩:=bs hm
 obtain ⟨x3,hx3,hm⟩:=bs hm
 obtain ⟨x4,hx4,hm⟩:=bs hm
 obtain ⟨x5,hx5,hm⟩:=bs hm
 obtain ⟨x6,hx6,hm⟩:=bs hm
 refine se (flow s (m:=21) (.cons (.cons (.cons (.cons (.cons (.cons (.cons (.cons (.cons (.cons (.cons (.cons (.cons (.cons (.cons (.cons (.cons (.cons (.cons (.cons (.cons .nil rfl (mvq (t rfl))) rfl (fa (f:=State.Ends) (t rfl))) rfl (ld (t rfl))) rfl (ccv (t rfl) rfl (oc (t rfl) on) vn vn (s159 f _ _ hx2))) rfl (mvq (t rfl))) rfl (fa (f:=State.Valves) (t rfl))) rfl (ld (t rfl))) rfl (ccv (t rfl) rfl (oc (t rfl) on) vn vn (s164 f _ _ hx3))) rfl (mvq (t rfl))) rfl (fa (f:=State.Inputs) (t rfl))) rfl (ld (t rfl))) rfl (ccv (t rfl) rfl (oc (t rfl) on) vn vn (s164 f _ _ hx4))) rfl (mvq (t rfl))) rfl (fa (f:=State.Values) (t rfl))) rfl (ld (t rfl))) rfl (ccv (t rfl) rfl (oc (t rfl) on) vn vn (s164 f _ _ hx5))) rfl (mvq (t rfl))) rfl (fa (f:=State.Timers) (t rfl))) rfl (ld (t rfl))) rfl (ccv (t rfl) rfl (oc (t rfl) on) vn vn (s159 f _ _ hx6))) rfl (bl144_0_1_2_3_4 (t rfl) (t rfl) (t rfl) (t rfl) (t rfl))) (by kernel_rfl) rfl rfl fun a w s=>sw (K:=1000) s (t rfl) rfl (t rfl) rfl fun w s=>nl ?_)
 obtain rfl:=si hm
 refine wpIn_ret ?_
 exact rn hD s rfl (rv1 (rc (K:=1000) rfl rfl))
def m112 (f:Nat) (v0:State):Option (State):=some v0
set_option maxRecDepth 100000 in
theorem s112 (f:Nat) (v0:State) (r:State) (hm:m112 f v0=some r):Sp Tryz.prog 112 [Va (v0)] (Rz (fun x:Value=>Qv (fv 188 [] [x])) (fun x=>[At x (Pt (r))])):=by
 unfold m112 at hm
 refine ens Tryz.func112 (by kernel_rfl) rfl Tryz.ntmps112 rfl rfl fun M w_0 a hM hD s=>?_
 refine se (rg (sq s (bx (t rfl)) rfl fun a w s=>sq s (saq cq) rfl fun a w s=>nl ?_))
 refine se (rg (nmk (d:=1) 1000 s rfl rfl fun c1 s=>sq s (mkf rfl rfl qn (qc (t rfl) qn)) rfl fun a w s=>sq s (saq (t rfl)) rfl fun a w s=>nl ?_))
 obtain rfl:=si hm
 refine wpIn_ret ?_
 exact rz [1000] c1 hM hD s rfl (rv1 (rt rfl)) (kc rfl kn) rfl
def m194_l1 (v0:List Bool) (v1:List Bool):Nat→Int→Option (Lo (Int) (Bool))
 | 0,_=>none
 | n+1,z1=>(bif (decide (z1 < (v0.length:Int))) then (idx v0 z1).bind fun x3=>(idx v1 z1).bind fun x4=>(bif (x3 != x4) then some (.ret false) else m194_l1 v0 v1 n (wr (z1 + (1:Int)))) else some (.brk z1))
def m194 (f:Nat) (v0:List Bool) (v1:List Bool):Option (Bool):=(bif ((v0.length:Int) != (v1.length:Int)) then some false else ((m194_l1 v0 v1 f (0:Int)).bind fun o2=>match o2 with | .brk o2s=>some true | .ret r=>some r))
set_option maxRecDepth 100000 in
theorem s194 (f:Nat) (v0:List Bool) (v1:List Bool) (r:Bool) (hm:m194 f v0 v1=some r):Sp Tryz.prog 194 [Va (v0),Va (v1)] (Va (r)):=by
 unfold m194 at hm
 refine ens Tryz.func194 (by kernel_rfl) rfl Tryz.ntmps194 rfl rfl fun M w_0 a hM hD s=>?_
 refine se (rg (sq s (sa cb) rfl fun a w s=>nl ?_))
 refine se ?_
 refine se (rg (sq s (mv (t rfl)) rfl fun a w s=>sq s (ln (t rfl)) rfl fun a w s=>sq s (mv (t rfl)) rfl fun a w s=>sq s (ln (t rfl)) rfl fun a w s=>sq s (ne (t rfl) (t rfl)) rfl fun a w s=>nl ?_))
 refine cm s rfl hm (fun hb hm=>?_) (fun hb hm=>?_)
 ·refine se (rg (sq s (sa cb) rfl fun a w s=>nl ?_))
  obtain rfl:=si hm
  refine wpIn_ret ?_
  exact rn hD s rfl (rv1 (rt rfl))
 ·refine wpIn_skip ?_
  refine se ?_
  refine se (rg (sq s (mv (t rfl)) rfl fun a w s=>sq s (ln (t rfl)) rfl fun a w s=>sq s (mv ci) rfl fun a w s=>nl ?_))
  obtain ⟨o2,hoo2,hko2⟩:=bs hm
  refine lcI o2 (fun o2s a w=>St M w_0 26 [(0,Va (v0)),(1,Va (v1)),(4,Va (false)),(12,Va ((v0.length:Int))),(13,Va (o2s))] a w) ?_ fun o2s a w ho s=>?_
  ·refine wpIn_block ?_
   refine loI (fun n z1=>m194_l1 v0 v1 n z1) o2 (fun z1 a w=>St M w_0 26 [(0,Va (v0)),(1,Va (v1)),(4,Va (false)),(12,Va ((v0.length:Int))),(13,Va (z1))] a w) f (0:Int) (s.pick [0,1,4,12,13]) hoo2 (fun _=>rfl) fun n z1 a w hm s=>?_
   replace hm:m194_l1 v0 v1 (n + 1) z1=some o2:=hm
   unfold m194_l1 at hm
   refine se (rg (sq s (lt (t rfl) (t rfl)) rfl fun a w s=>nl ?_))
   refine se ?_
   refine cm s rfl hm (fun hb hm=>?_) (fun hb hm=>?_)
   ·refine wpIn_skip ?_
    refine se ?_
    refine wpIn_block ?_
    refine se (rg (sq s (mv (t rfl)) rfl fun a w s=>sq s (sa (t rfl)) rfl fun a w s=>nl ?_))
    obtain ⟨x3,hx3,hm⟩:=bs hm
    obtain ⟨x4,hx4,hm⟩:=bs hm
    refine se (flow s (m:=9) (.cons (.cons (.cons (.cons (.cons (.cons (.cons (.cons (.cons .nil rfl (mv (t rfl))) rfl (mv (t rfl))) rfl (ix (t rfl) (t rfl) hx3)) rfl (ld (t rfl))) rfl (mv (t rfl))) rfl (mv (t rfl))) rfl (ix (t rfl) (t rfl) hx4)) rfl (ld (t rfl))) rfl (bne (t rfl) (t rfl) Tryz.underlying4)) (by kernel_rfl) rfl rfl fun a w s=>nl ?_)
    refine cm s rfl hm (fun hb hm=>?_) (fun hb hm=>?_)
    ·refine se (rg (sq s (sa cb) rfl fun a w s=>nl ?_))
     obtain rfl:=si hm
     replace hm:=hko2
     dsimp only at hm
     obtain rfl:=si hm
     refine wpIn_ret ?_
     exact rn hD s rfl (rv1 (rt rfl))
    ·refine wpIn_skip ?_
     refine rg (sq s (ad (t rfl) ci) rfl fun a w s=>sq s (mv (t rfl)) rfl fun a w s=>nl ?_)
     exact ⟨_,hm,s.pick [0,1,4,12,13]⟩
   ·refine wpIn_exit ?_
    exact ⟨_,(si hm).symm,s.pick [0,1,4,12,13]⟩
  ·subst ho
   replace hm:=hko2
   dsimp only at hm
   refine se (rg (sq s (sa cb) rfl fun a w s=>nl ?_))
   obtain rfl:=si hm
   refine wpIn_ret ?_
   exact rn hD s rfl (rv1 (rt rfl))
def m120 (f:Nat) (v0:State) (v1:State):Option (Bool):=(m53 f ((v0).Ends) ((v1).Ends)).bind fun x1=>(bif x1 then (m194 f ((v0).Valves) ((v1).Valves)).bind fun x2=>some x2 else some false).bind fun r3=>(bif r3 then (m194 f ((v0).Inputs) ((v1).Inputs)).bind fun x4=>some x4 else some false).bind fun r5=>(bif r5 then (m194 f ((v0).Values) ((v1).Values)).bind fun x6=>some x6 else some false).bind fun r7=>(bif r7 then (m53 f ((v0).Timers) ((v1).Timers)).bind fun x8=>some x8 else some false).bind fun r9=>some r9
set_option maxRecDepth 100000 in
theorem s120 (f:Nat) (v0:State) (v1:State) (r:Bool) (hm:m120 f v0 v1=some r):Sp Tryz.prog 120 [Va (v0),Va (v1)] (Va (r)):=by
 unfold m120 at hm
 refine ens Tryz.func120 (by kernel_rfl) rfl Tryz.ntmps120 rfl rfl fun M w_0 a hM hD s=>?_
 refine se (rg (sq s (bx (t rfl)) rfl fun a w s=>sq s (bx (t rfl)) rfl fun a w s=>sq s (sa cb) rfl fun a w s=>nl ?_))
 obtain ⟨x1,hx1,hm⟩:=bs hm
 obtain ⟨r3,hr3,hm⟩:=bs hm
 have gr3:=gT hr3
 have er3:=gF hr3
 obtain ⟨x2,hx2,gr3⟩:=gx gr3
 obtain ⟨r5,hr5,hm⟩:=bs hm
 have gr5:=gT hr5
 have er5:=gF hr5
 obtain ⟨x4,hx4,gr5⟩:=gx gr5
 obtain ⟨r7,hr7,hm⟩:=bs hm
 have gr7:=gT hr7
 have er7:=gF hr7
 obtain ⟨x6,hx6,gr7⟩:=gx gr7
 obtain ⟨r9,hr9,hm⟩:=bs hm
 have gr9:=gT hr9
 have er9:=gF hr9
 obtain ⟨x8,hx8,gr9⟩:=gx gr9
 refine se (rg (sq s (fa (f:=State.Ends) (t rfl)) rfl fun a w s=>sq s (ld (t rfl)) rfl fun a w s=>sq s (fa (f:=State.Ends) (t rfl)) rfl fun a w s=>sq s (ld (t rfl)) rfl fun a w s=>sq s (cc rfl (oc (t rfl) (oc (t rfl) on)) (s53 f _ _ _ hx1)) rfl fun a w s=>sq s (mv (t rfl)) rfl fun a w s=>sg s rfl rfl (fun hb=>(fa (f:=State.Valves) (t rfl))) rfl fun a w s=>sg s rfl rfl (fun hb=>(ld (tg rfl hb))) rfl fun a w s=>sg s rfl rfl (fun hb=>(fa (f:=State.Valves) (t rfl))) rfl fun a w s=>sg s rfl rfl (fun hb=>(ld (tg rfl hb))) rfl fun a w s=>sg s rfl rfl (fun hb=>(cc rfl (oc (tg rfl hb) (oc (tg rfl hb) on)) (s194 f _ _ _ (hx2 hb)))) rfl fun a w s=>sq s (pa (t rfl) rfl (fun h=>si (gr3 h)) (fun h=>(si (er3 h)).symm)) rfl fun a w s=>sq s (mv (t rfl)) rfl fun a w s=>sg s rfl rfl (fun hb=>(fa (f:=State.Inputs) (t rfl))) rfl fun a w s=>sg s rfl rfl (fun hb=>(ld (tg rfl hb))) rfl fun a w s=>sg s rfl rfl (fun hb=>(fa (f:=State.Inputs) (t rfl))) rfl fun a w s=>sg s rfl rfl (fun hb=>(ld (tg rfl hb))) rfl fun a w s=>sg s rfl rfl (fun hb=>(cc rfl (oc (tg rfl hb) (oc (tg rfl hb) on)) (s194 f _ _ _ (hx4 hb)))) rfl fun a w s=>sq s (pa (t rfl) rfl (fun h=>si (gr5 h)) (fun h=>(si (er5 h)).symm)) rfl fun a w s=>sq s (mv (t rfl)) rfl fun a w s=>sg s rfl rfl (fun hb=>(fa (f:=State.Values) (t rfl))) rfl fun a w s=>sg s rfl rfl (fun hb=>(ld (tg rfl hb))) rfl fun a w s=>sg s rfl rfl (fun hb=>(fa (f:=State.Values) (t rfl))) rfl fun a w s=>sg s rfl rfl (fun hb=>(ld (tg rfl hb))) rfl fun a w s=>sg s rfl rfl (fun hb=>(cc rfl (oc (tg rfl hb) (oc (tg rfl hb) on)) (s194 f _ _ _ (hx6 hb)))) rfl fun a w s=>sq s (pa (t rfl) rfl (fun h=>si (gr7 h)) (fun h=>(si (er7 h)).symm)) rfl fun a w s=>sq s (mv (t rfl)) rfl fun a w s=>sg s rfl rfl (fun hb=>(fa (f:=State.Timers) (t rfl))) rfl fun a w s=>sg s rfl rfl (fun hb=>(ld (tg rfl hb))) rfl fun a w s=>sg s rfl rfl (fun hb=>(fa (f:=State.Timers) (t rfl))) rfl fun a w s=>sg s rfl rfl (fun hb=>(ld (tg rfl hb))) rfl fun a w s=>sg s rfl rfl (fun hb=>(cc rfl (oc (tg rfl hb) (oc (tg rfl hb) on)) (s53 f _ _ _ (hx8 hb)))) rfl fun a w s=>sq s (pa (t rfl) rfl (fun h=>si (gr9 h)) (fun h=>(si (er9 h)).symm)) rfl fun a w s=>sq s (sa (t rfl)) rfl fun a w s=>nl ?_))
 obtain rfl:=si hm
 refine wpIn_ret ?_
 exact rn hD s rfl (rv1 (rt rfl))
def m271 (f:Nat) (v0:Int) (v1:Int):Option (Bool):=some ((decide (v0 < (0:Int))) || (decide (v0≥v1)))
set_option maxRecDepth 100000 in
theorem s271 (f:Nat) (v0:Int) (v1:Int) (r:Bool) (hm:m271 f v0 v1=some r):Sp Tryz.prog 271 [Va (v0),Pt (v1)] (Va (r)):=by
 unfold m271 at hm
 refine ens Tryz.func271 (by kernel_rfl) rfl Tryz.ntmps271 rfl rfl fun M w_0 a hM hD s=>?_
 refine se (rg (sq s (sa cb) rfl fun a w s=>nl ?_))
 refine se (rg (sq s (mv (t rfl)) rfl fun a w s=>sq s (lt (t rfl) ci) rfl fun a w s=>sq s (mv (t rfl)) rfl fun a w s=>sg s rfl rfl (fun hb=>(mv (t rfl))) rfl fun a w s=>sg s rfl rfl (fun hb=>(ld (t rfl))) rfl fun a w s=>sg s rfl rfl (fun hb=>(ge (tg rfl hb) (tg rfl hb))) rfl fun a w s=>sq s (poP (t rfl) rfl) rfl fun a w s=>sq s (sa (t rfl)) rfl fun a w s=>nl ?_))
 obtain rfl:=si hm
 refine wpIn_ret ?_
 exact rn hD s rfl (rv1 (rt rfl))
def m122_1_l1 (f:Nat) (v0:List Int) (v1:Int):Nat→Int→Option (Lo (Int) (Int))
 | 0,_=>none
 | n+1,z1=>(bif (decide (z1 < (v0.length:Int))) then (idx v0 z1).bind fun x3=>(m271 f x3 v1).bind fun x4=>(bif x4 then some (.ret z1) else m122_1_l1 f v0 v1 n (wr (z1 + (1:Int)))) else some (.brk z1))
def m122_1 (f:Nat) (v0:List Int) (v1:Int):Option (Int):=((m122_1_l1 f v0 v1 f (0:Int)).bind fun o2=>match o2 with | .brk o2s=>some (-1:Int) | .ret r=>some r)
set_option maxRecDepth 100000 in
theorem s122_1 (f:Nat) (v0:List Int) (v1:Int) (r:Int) (hm:m122_1 f v0 v1=some r):Sp Tryz.prog 122 [Va (v0),Fv1 271 (v1)] (Va (r)):=by
 unfold m122_1 at hm
 refine ens Tryz.func122 (by kernel_rfl) rfl Tryz.ntmps122 rfl rfl fun M w_0 a hM hD s=>?_
 refine se (rg (sq s (sa ci) rfl fun a w s=>nl ?_))
 refine se ?_
 refine se (rg (sq s (mv (t rfl)) rfl fun a w s=>sq s (ln (t rfl)) rfl fun a w s=>sq s (mv ci) rfl fun a w s=>nl ?_))
 obtain ⟨o2,hoo2,hko2⟩:=bs hm
 refine lcI o2 (fun o2s a w=>St M w_0 19 [(0,Va (v0)),(1,Fv1 271 (v1)),(4,Va ((0:Int))),(7,Va ((v0.length:Int))),(8,Va (o2s))] a w) ?_ fun o2s a w ho s=>?_
 ·refine wpIn_block ?_
  refine loI (fun n z1=>m122_1_l1 f v0 v1 n z1) o2 (fun z1 a w=>St M w_0 19 [(0,Va (v0)),(1,Fv1 271 (v1)),(4,Va ((0:Int))),(7,Va ((v0.length:Int))),(8,Va (z1))] a w) f (0:Int) (s.pick [0,1,4,7,8]) hoo2 (fun _=>rfl) fun n z1 a w hm s=>?_
  replace hm:m122_1_l1 f v0 v1 (n + 1) z1=some o2:=hm
  unfold m122_1_l1 at hm
  refine se (rg (sq s (lt (t rfl) (t rfl)) rfl fun a w s=>nl ?_))
  refine se ?_
  refine cm s rfl hm (fun hb hm=>?_) (fun hb hm=>?_)
  ·refine wpIn_skip ?_
   refine se ?_
   refine wpIn_block ?_
   refine se (rg (sq s (mv (t rfl)) rfl fun a w s=>sq s (sa (t rfl)) rfl fun a w s=>nl ?_))
   obtain ⟨x3,hx3,hm⟩:=bs hm
   obtain ⟨x4,hx4,hm⟩:=bs hm
   refine se (rg (sq s (mve (t rfl)) rfl fun a w s=>sq s (mv (t rfl)) rfl fun a w s=>sq s (mv (t rfl)) rfl fun a w s=>sq s (ix (t rfl) (t rfl) hx3) rfl fun a w s=>sq s (ld (t rfl)) rfl fun a w s=>sq s (ccf (t rfl) rfl (oc (t rfl) on) (s271 f _ _ _ hx4)) rfl fun a w s=>nl ?_))
   refine cm s rfl hm (fun hb hm=>?_) (fun hb hm=>?_)
   ·refine se (rg (sq s (mv (t rfl)) rfl fun a w s=>sq s (sa (t rfl)) rfl fun a w s=>nl ?_))
    obtain rfl:=si hm
    replace hm:=hko2
    dsimp only at hm
    obtain rfl:=si hm
    refine wpIn_ret ?_
    exact rn hD s rfl (rv1 (rt rfl))
   ·refine wpIn_skip ?_
    refine rg (sq s (ad (t rfl) ci) rfl fun a w s=>sq s (mv (t rfl)) rfl fun a w s=>nl ?_)
    exact ⟨_,hm,s.pick [0,1,4,7,8]⟩
  ·refine wpIn_exit ?_
   exact ⟨_,(si hm).symm,s.pick [0,1,4,7,8]⟩
 ·subst ho
  replace hm:=hko2
  dsimp only at hm
  refine se (rg (sq s (sa ci) rfl fun a w s=>nl ?_))
  obtain rfl:=si hm
  refine wpIn_ret ?_
  exact rn hD s rfl (rv1 (rt rfl))
def m192_1 (f:Nat) (v0:List Int) (v1:Int):Option (Bool):=(m122_1 f v0 v1).bind fun x1=>some (decide (x1≥(0:Int)))
set_option maxRecDepth 100000 in
theorem s192_1 (f:Nat) (v0:List Int) (v1:Int) (r:Bool) (hm:m192_1 f v0 v1=some r):Sp Tryz.prog 192 [Va (v0),Fv1 271 (v1)] (Va (r)):=by
 unfold m192_1 at hm
 refine ens Tryz.func192 (by kernel_rfl) rfl Tryz.ntmps192 rfl rfl fun M w_0 a hM hD s=>?_
 refine se (rg (sq s (sa cb) rfl fun a w s=>nl ?_))
 obtain ⟨x1,hx1,hm⟩:=bs hm
 refine se (rg (sq s (mv (t rfl)) rfl fun a w s=>sq s (mve (t rfl)) rfl fun a w s=>sq s (cc rfl (oc (t rfl) (oc (t rfl) on)) (s122_1 f _ _ _ hx1)) rfl fun a w s=>sq s (ge (t rfl) ci) rfl fun a w s=>sq s (sa (t rfl)) rfl fun a w s=>nl ?_))
 obtain rfl:=si hm
 refine wpIn_ret ?_
 exact rn hD s rfl (rv1 (rt rfl))
def m249_l1 (v0:Control) (v1:State):Nat→Int→Option (Lo (Int) (Int))
 | 0,_=>none
 | n+1,z6=>(bif (decide (z6 < (((v1).Timers).length:Int))) then (idx ((v1).Timers) z6).bind fun x8=>(idx ((v0).Signals) z6).bind fun x9=>(bif ((!((x9).Kind == (2:Int))) && (x8 != (0:Int))) then some true else (bif ((x9).Kind == (2:Int)) then (idx ((v1).Values) z6).bind fun x10=>some (x10 != (x8 == (2:Int))) else some false).bind fun r11=>some r11).bind fun r12=>(bif r12 then some (.ret (14:Int)) else m249_l1 v0 v1 n (wr (z6 + (1:Int)))) else some (.brk z6))
def m249 (f:Nat) (v0:Control) (v1:State):Option (Int):=(bif ((((((((v1).Ends).length:Int) != (v0).Actuators) || ((((v1).Valves).length:Int) != (v0).Actuators)) || ((((v1).Inputs).length:Int) != (((v0).Inputs).length:Int))) || ((((v1).Values).length:Int) != (((v0).Signals).length:Int))) || ((((v1).Timers).length:Int) != (((v0).Signals).length:Int))) then some (8:Int) else (m270 f (4:Int)).bind fun x1=>(m192_1 f ((v1).Ends) x1).bind fun x2=>(bif x2 then some true else (m270 f (3:Int)).bind fun x3=>(m192_1 f ((v1).Timers) x3).bind fun x4=>some x4).bind fun r5=>(bif r5 then some (1:Int) else ((m249_l1 v0 v1 f (0:Int)).bind fun o7=>match o7 with | .brk o7s=>some (0:Int) | .ret r=>some r)))
set_option maxRecDepth 100000 in
set_option maxHeartbeats 2000000 in
theorem s249 (f:Nat) (v0:Control) (v1:State) (r:Int) (hm:m249 f v0 v1=some r):Sp Tryz.prog 249 [Va (v0),Va (v1)] (Va (r)):=by
 unfold m249 at hm
 refine ens Tryz.func249 (by kernel_rfl) rfl Tryz.ntmps249 rfl rfl fun M w_0 a hM hD s=>?_
 refine se (rg (sq s (bx (t rfl)) rfl fun a w s=>sq s (bx (t rfl)) rfl fun a w s=>sq s (sa ci) rfl fun a w s=>nl ?_))
 refine se (rg (sq s (fa (f:=Control.Signals) (t rfl)) rfl fun a w s=>sq s (ld (t rfl)) rfl fun a w s=>sq s (ln (t rfl)) rfl fun a w s=>sq s (sa (t rfl)) rfl fun a w s=>nl ?_))
 refine se ?_
 refine se (rg (sq s (fa (f:=State.Ends) (t rfl)) rfl fun a w s=>sq s (ld (t rfl)) rfl fun a w s=>sq s (ln (t rfl)) rfl fun a w s=>sq s (fa (f:=Control.Actuators) (t rfl)) rfl fun a w s=>sq s (ld (t rfl)) rfl fun a w s=>sq s (ne (t rfl) (t rfl)) rfl fun a w s=>sq s (mv (t rfl)) rfl fun a w s=>sg s rfl rfl (fun hb=>(fa (f:=State.Valves) (t rfl))) rfl fun a w s=>sg s rfl rfl (fun hb=>(ld (tg rfl hb))) rfl fun a w s=>sg s rfl rfl (fun hb=>(ln (tg rfl hb))) rfl fun a w s=>sg s rfl rfl (fun hb=>(fa (f:=Control.Actuators) (t rfl))) rfl fun a w s=>sg s rfl rfl (fun hb=>(ld (tg rfl hb))) rfl fun a w s=>sg s rfl rfl (fun hb=>(ne (tg rfl hb) (tg rfl hb))) rfl fun a w s=>sq s (poP (t rfl) rfl) rfl fun a w s=>sq s (mv (t rfl)) rfl fun a w s=>sg s rfl rfl (fun hb=>(fa (f:=State.Inputs) (t rfl))) rfl fun a w s=>sg s rfl rfl (fun hb=>(ld (tg rfl hb))) rfl fun a w s=>sg s rfl rfl (fun hb=>(ln (tg rfl hb))) rfl fun a w s=>sg s rfl rfl (fun hb=>(fa (f:=Control.Inputs) (t rfl))) rfl fun a w s=>sg s rfl rfl (fun hb=>(ld (tg rfl hb))) rfl fun a w s=>sg s rfl rfl (fun hb=>(ln (tg rfl hb))) rfl fun a w s=>sg s rfl rfl (fun hb=>(ne (tg rfl hb) (tg rfl hb))) rfl fun a w s=>sq s (poP (t rfl) rfl) rfl fun a w s=>sq s (mv (t rfl)) rfl fun a w s=>sg s rfl rfl (fun hb=>(fa (f:=State.Values) (t rfl))) rfl fun a w s=>sg s rfl rfl (fun hb=>(ld (tg rfl hb))) rfl fun a w s=>sg s rfl rfl (fun hb=>(ln (tg rfl hb))) rfl fun a w s=>sg s rfl rfl (fun hb=>(mv (t rfl))) rfl fun a w s=>sg s rfl rfl (fun hb=>(ne (tg rfl hb) (tg rfl hb))) rfl fun a w s=>sq s (poP (t rfl) rfl) rfl fun a w s=>sq s (mv (t rfl)) rfl fun a w s=>sg s rfl rfl (fun hb=>(fa (f:=State.Timers) (t rfl))) rfl fun a w s=>sg s rfl rfl (fun hb=>(ld (tg rfl hb))) rfl fun a w s=>sg s rfl rfl (fun hb=>(ln (tg rfl hb))) rfl fun a w s=>sg s rfl rfl (fun hb=>(mv (t rfl))) rfl fun a w s=>sg s rfl rfl (fun hb=>(ne (tg rfl hb) (tg rfl hb))) rfl fun a w s=>sq s (poP (t rfl) rfl) rfl fun a w s=>nl ?_))
 refine cm s rfl hm (fun hb hm=>?_) (fun hb hm=>?_)
 ·refine se (rg (sq s (sa ci) rfl fun a w s=>nl ?_))
  obtain rfl:=si hm
  refine wpIn_ret ?_
  exact rn hD s rfl (rv1 (rt rfl))
 ·refine wpIn_skip ?_
  refine se (rg (sq s (saq qf) rfl fun a w s=>nl ?_))
  refine se ?_
  obtain ⟨x1,hx1,hm⟩:=bs hm
  obtain ⟨x2,hx2,hm⟩:=bs hm
  obtain ⟨r5,hr5,hm⟩:=bs hm
  have gr5:=gF hr5
  have er5:=gT hr5
  obtain ⟨x3,hx3,gr5⟩:=gx gr5
  obtain ⟨x4,hx4,gr5⟩:=gx gr5
  refine se (flow s (m:=12) (.cons (.cong (.cong (.cong (.cong (.cong (.cons (.cons (.cons (.cons (.cons (.cons .nil rfl (fa (f:=State.Ends) (t rfl))) rfl (ld (t rfl))) rfl (mvq (t rfl))) rfl (ccv (t rfl) rfl (oc ci on) vn vn (s270 f _ _ hx1))) rfl (cc rfl (oc (t rfl) (oc (t rfl) on)) (s192_1 f _ _ _ hx2))) rfl (mv (t rfl))) rfl rfl rfl (fun hb=>(fa (f:=State.Timers) (t rfl)))) rfl rfl rfl (fun hb=>(ld (tg rfl hb)))) rfl rfl rfl (fun hb=>(mvq (t rfl)))) rfl rfl rfl (fun hb=>(ccv (tg rfl hb) rfl (oc ci on) vn vn (s270 f _ _ (hx3 hb))))) rfl rfl rfl (fun hb=>(cc rfl (oc (tg rfl hb) (oc (tg rfl hb) on)) (s192_1 f _ _ _ (hx4 hb))))) rfl (po (t rfl) rfl (fun h=>si (gr5 h)) (fun h=>(si (er5 h)).symm))) (by kernel_rfl) rfl rfl fun a w s=>nl ?_)
  refine cm s rfl hm (fun hb hm=>?_) (fun hb hm=>?_)
  ·refine se (rg (sq s (sa ci) rfl fun a w s=>nl ?_))
   obtain rfl:=si hm
   refine wpIn_ret ?_
   exact rn hD s rfl (rv1 (rt rfl))
  ·refine wpIn_skip ?_
   refine se ?_
   refine se (rg (sq s (fa (f:=State.Timers) (t rfl)) rfl fun a w s=>sq s (ld (t rfl)) rfl fun a w s=>sq s (ln (t rfl)) rfl fun a w s=>sq s (mv ci) rfl fun a w s=>nl ?_))
   obtain ⟨o7,hoo7,hko7⟩:=bs hm
   refine lcI o7 (fun o7s a w=>St M w_0 97 [(0,Va (v0)),(1,Va (v1)),(2,Pt (v0)),(3,Pt (v1)),(4,Va ((0:Int))),(5,Va ((((v0).Signals).length:Int))),(6,Qv (fv 270 [] [])),(63,Va ((v1).Timers)),(64,Va ((((v1).Timers).length:Int))),(65,Va (o7s))] a w) ?_ fun o7s a w ho s=>?_
   ·refine wpIn_block ?_
    refine loI (fun n z6=>m249_l1 v0 v1 n z6) o7 (fun z6 a w=>St M w_0 97 [(0,Va (v0)),(1,Va (v1)),(2,Pt (v0)),(3,Pt (v1)),(4,Va ((0:Int))),(5,Va ((((v0).Signals).length:Int))),(6,Qv (fv 270 [] [])),(63,Va ((v1).Timers)),(64,Va ((((v1).Timers).length:Int))),(65,Va (z6))] a w) f (0:Int) (s.pick [0,1,2,3,4,5,6,63,64,65]) hoo7 (fun _=>rfl) fun n z6 a w hm s=>?_
    replace hm:m249_l1 v0 v1 (n + 1) z6=some o7:=hm
    unfold m249_l1 at hm
    refine se (rg (sq s (lt (t rfl) (t rfl)) rfl fun a w s=>nl ?_))
    refine se ?_
    refine cm s rfl hm (fun hb hm=>?_) (fun hb hm=>?_)
    ·refine wpIn_skip ?_
     refine se ?_
     refine wpIn_block ?_
     obtain ⟨x8,hx8,hm⟩:=bs hm
     refine se (rg (sq s (mv (t rfl)) rfl fun a w s=>sq s (ix (t rfl) (t rfl) hx8) rfl fun a w s=>sq s (ld (t rfl)) rfl fun a w s=>sq s (sa (t rfl)) rfl fun a w s=>sq s (sa (t rfl)) rfl fun a w s=>nl ?_))
     obtain ⟨x9,hx9,hm⟩:=bs hm
     refine se (rg (sq s (fa (f:=Control.Signals) (t rfl)) rfl fun a w s=>sq s (ld (t rfl)) rfl fun a w s=>sq s (mv (t rfl)) rfl fun a w s=>sq s (ix (t rfl) (t rfl) hx9) rfl fun a w s=>sq s (fa (f:=Signal.Kind) (t rfl)) rfl fun a w s=>sq s (ld (t rfl)) rfl fun a w s=>sq s (eq (t rfl) ci) rfl fun a w s=>sq s (sa (t rfl)) rfl fun a w s=>nl ?_))
     obtain ⟨r12,hr12,hm⟩:=bs hm
     have gr12:=gF hr12
     have er12:=gT hr12
     obtain ⟨r11,hr11,gr12⟩:=gx gr12
     have gr11:=gT2 hr11
     have er11:=gF1 hr11
     obtain ⟨x10,hx10,gr11⟩:=gx gr11
     refine se (rg (sq s (mv (t rfl)) rfl fun a w s=>sq s (nt (t rfl)) rfl fun a w s=>sq s (mv (t rfl)) rfl fun a w s=>sg s rfl rfl (fun hb=>(mv (t rfl))) rfl fun a w s=>sg s rfl rfl (fun hb=>(ne (tg rfl hb) ci)) rfl fun a w s=>sq s (paP (t rfl) rfl) rfl fun a w s=>sq s (mv (t rfl)) rfl fun a w s=>sg s rfl rfl (fun hb=>(mv (t rfl))) rfl fun a w s=>sg s rfl rfl (fun hb=>(mv (tg rfl hb))) rfl fun a w s=>sn s rfl rfl (fun hb hc=>(fa (f:=State.Values) (t rfl))) rfl fun a w s=>sn s rfl rfl (fun hb hc=>(ld (tg rfl (g2 hb hc)))) rfl fun a w s=>sn s rfl rfl (fun hb hc=>(mv (t rfl))) rfl fun a w s=>sn s rfl rfl (fun hb hc=>(ix (tg rfl (g2 hb hc)) (tg rfl (g2 hb hc)) (hx10 (g2 hb hc)))) rfl fun a w s=>sn s rfl rfl (fun hb hc=>(ld (tg rfl (g2 hb hc)))) rfl fun a w s=>sn s rfl rfl (fun hb hc=>(mv (t rfl))) rfl fun a w s=>sn s rfl rfl (fun hb hc=>(eq (tg rfl (g2 hb hc)) ci)) rfl fun a w s=>sn s rfl rfl (fun hb hc=>(bne (tg rfl (g2 hb hc)) (tg rfl (g2 hb hc)) Tryz.underlying4)) rfl fun a w s=>sg s rfl rfl (fun hb=>(pag (tg rfl hb) rfl (fun h=>g2 hb h) (fun h=>si (gr11 (g2 hb h))) (fun h=>(si (er11 hb h)).symm))) rfl fun a w s=>sq s (po (t rfl) rfl (fun h=>si (gr12 h)) (fun h=>(si (er12 h)).symm)) rfl fun a w s=>nl ?_))
     refine cm s rfl hm (fun hb hm=>?_) (fun hb hm=>?_)
     ·refine se (rg (sq s (sa ci) rfl fun a w s=>nl ?_))
      obtain rfl:=si hm
      replace hm:=hko7
      dsimp only at hm
      obtain rfl:=si hm
      refine wpIn_ret ?_
      exact rn hD s rfl (rv1 (rt rfl))
     ·refine wpIn_skip ?_
      refine rg (sq s (ad (t rfl) ci) rfl fun a w s=>sq s (mv (t rfl)) rfl fun a w s=>nl ?_)
      exact ⟨_,hm,s.pick [0,1,2,3,4,5,6,63,64,65]⟩
    ·refine wpIn_exit ?_
     exact ⟨_,(si hm).symm,s.pick [0,1,2,3,4,5,6,63,64,65]⟩
   ·subst ho
    replace hm:=hko7
    dsimp only at hm
    refine se (rg (sq s (sa ci) rfl fun a w s=>nl ?_))
    obtain rfl:=si hm
    refine wpIn_ret ?_
    exact rn hD s rfl (rv1 (rt rfl))
def m263 (f:Nat) (v0:UInt8):Option (Bool):=some (((((decide ((v0.toNat:Int)≥(UInt8.ofNat 97).toNat)) && (decide ((v0.toNat:Int)≤(UInt8.ofNat 122).toNat))) || ((decide ((v0.toNat:Int)≥(UInt8.ofNat 65).toNat)) && (decide ((v0.toNat:Int)≤(UInt8.ofNat 90).toNat)))) || ((decide ((v0.toNat:Int)≥(UInt8.ofNat 48).toNat)) && (decide ((v0.toNat:Int)≤(UInt8.ofNat 57).toNat)))) || ((v0.toNat:Int) == (UInt8.ofNat 95).toNat))
set_option maxRecDepth 100000 in
theorem s263 (f:Nat) (v0:UInt8) (r:Bool) (hm:m263 f v0=some r):Sp Tryz.prog 263 [Va (v0)] (Va (r)):=by
 unfold m263 at hm
 refine ens Tryz.func263 (by kernel_rfl) rfl Tryz.ntmps263 rfl rfl fun M w_0 a hM hD s=>?_
 refine se (rg (sq s (sa cb) rfl fun a w s=>nl ?_))
 refine se (rg (sq s (mv (t rfl)) rfl fun a w s=>sq s (ge8 (t rfl) (c8 (by decide))) rfl fun a w s=>sq s (mv (t rfl)) rfl fun a w s=>sg s rfl rfl (fun hb=>(mv (t rfl))) rfl fun a w s=>sg s rfl rfl (fun hb=>(le8 (tg rfl hb) (c8 (by decide)))) rfl fun a w s=>sq s (paP (t rfl) rfl) rfl fun a w s=>sq s (mv (t rfl)) rfl fun a w s=>sg s rfl rfl (fun hb=>(mv (t rfl))) rfl fun a w s=>sg s rfl rfl (fun hb=>(ge8 (tg rfl hb) (c8 (by decide)))) rfl fun a w s=>sg s rfl rfl (fun hb=>(mv (tg rfl hb))) rfl fun a w s=>sn s rfl rfl (fun hb hc=>(mv (t rfl))) rfl fun a w s=>sn s rfl rfl (fun hb hc=>(le8 (tg rfl (g2 hb hc)) (c8 (by decide)))) rfl fun a w s=>sg s rfl rfl (fun hb=>(pagP (tg rfl hb) rfl (fun h=>g2 hb h))) rfl fun a w s=>sq s (poP (t rfl) rfl) rfl fun a w s=>sq s (mv (t rfl)) rfl fun a w s=>sg s rfl rfl (fun hb=>(mv (t rfl))) rfl fun a w s=>sg s rfl rfl (fun hb=>(ge8 (tg rfl hb) (c8 (by decide)))) rfl fun a w s=>sg s rfl rfl (fun hb=>(mv (tg rfl hb))) rfl fun a w s=>sn s rfl rfl (fun hb hc=>(mv (t rfl))) rfl fun a w s=>sn s rfl rfl (fun hb hc=>(le8 (tg rfl (g2 hb hc)) (c8 (by decide)))) rfl fun a w s=>sg s rfl rfl (fun hb=>(pagP (tg rfl hb) rfl (fun h=>g2 hb h))) rfl fun a w s=>sq s (poP (t rfl) rfl) rfl fun a w s=>sq s (mv (t rfl)) rfl fun a w s=>sg s rfl rfl (fun hb=>(mv (t rfl))) rfl fun a w s=>sg s rfl rfl (fun hb=>(eq8 (tg rfl hb) (c8 (by decide)))) rfl fun a w s=>sq s (poP (t rfl) rfl) rfl fun a w s=>sq s (sa (t rfl)) rfl fun a w s=>nl ?_))
 obtain rfl:=si hm
 refine wpIn_ret ?_
 exact rn hD s rfl (rv1 (rt rfl))
def m262 (f:Nat) (v0:Kd .i32):Option (Bool):=(bif (decide (Ik.toI v0 > Ik.toI (⟨122⟩:Kd .i32))) then some true else (m263 f (Ik.ofI (Ik.toI v0):UInt8)).bind fun x1=>some (!x1)).bind fun r2=>some r2
set_option maxRecDepth 100000 in
theorem s262 (f:Nat) (v0:Kd .i32) (r:Bool) (hm:m262 f v0=some r):Sp Tryz.prog 262 [Va (v0)] (Va (r)):=by
 unfold m262 at hm
 refine ens Tryz.func262 (by kernel_rfl) rfl Tryz.ntmps262 rfl rfl fun M w_0 a hM hD s=>?_
 refine se (rg (sq s (sa cb) rfl fun a w s=>nl ?_))
 obtain ⟨r2,hr2,hm⟩:=bs hm
 have gr2:=gF hr2
 have er2:=gT hr2
 obtain ⟨x1,hx1,gr2⟩:=gx gr2
 refine se (rg (sq s (mv (t rfl)) rfl fun a w s=>sq s (gtk (t rfl) ckd) rfl fun a w s=>sq s (mv (t rfl)) rfl fun a w s=>sg s rfl rfl (fun hb=>(mv (t rfl))) rfl fun a w s=>sg s rfl rfl (fun hb=>(cvk (tg rfl hb) (by kernel_rfl) (by kernel_rfl))) rfl fun a w s=>sg s rfl rfl (fun hb=>(cc rfl (oc (tg rfl hb) on) (s263 f _ _ (hx1 hb)))) rfl fun a w s=>sg s rfl rfl (fun hb=>(nt (tg rfl hb))) rfl fun a w s=>sq s (po (t rfl) rfl (fun h=>si (gr2 h)) (fun h=>(si (er2 h)).symm)) rfl fun a w s=>sq s (sa (t rfl)) rfl fun a w s=>nl ?_))
 obtain rfl:=si hm
 refine wpIn_ret ?_
 exact rn hD s rfl (rv1 (rt rfl))
def m248 (f:Nat) (v0:Control):Option (Int):=some (wr ((wr ((2:Int) * (v0).Actuators)) + (((v0).Inputs).length:Int)))
end Go.Pn

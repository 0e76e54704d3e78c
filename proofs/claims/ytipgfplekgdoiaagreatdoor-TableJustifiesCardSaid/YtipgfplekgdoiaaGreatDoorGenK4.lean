/- A part of the proof of laws of the seat: written by program over the translation. -/
import Derived.Test.YtipgfplekgdoiaaGreatDoorEng38
import Derived.Test.YtipgfplekgdoiaaGreatDoorEng32
import Derived.Test.YtipgfplekgdoiaaGreatDoorGenK3
namespace Go.Proofs
set_option maxHeartbeats 4000000
set_option maxRecDepth 10000
open Go.Eng Go.Eng.Pure
set_option linter.unusedVariables false
theorem zHX {w0:World} {H0:Hp} (hw:Holds w0 H0) (p_ppend:Str) (p_x1:Str) (p_x2:Int) (p_x3:Int) {r:(List Str)} (h:zEb p_ppend p_x1 p_x2 p_x3=some r) :
  Con Tryz.prog 271 [(str p_ppend),(str p_x1),(int p_x2),(int p_x3)] w0 H0 (fun H' v=>Sl (α:=Str) H' v r):=by
 refine Con.mk (N:=66) Tryz.func271 rfl rfl kr rfl ?_
 have S:=St.start hw
 refine Ws<|Wg<|A<|We<|Ws<|Ws<|Wg<|M<|Le<|We ?_
 rcases condE h with ⟨hc1,h⟩ | ⟨hc1,h⟩
 ·refine CT hc1<|Ws<|Wg<|A<|We ?_
  obtain rfl:=oi h
  refine WP.ret (Out.one rfl S rfl ?_)
  exact Sl.nil
 refine CF hc1<|Wk<|Ws<|Ws<|Wg<|M<|Na<|We ?_
 rcases condE h with ⟨hc2,h⟩ | ⟨hc2,h⟩
 ·refine CT hc2<|Ws<|Wg<|M<|M ?_
  cases h
 refine CF hc2<|Wk<|Ws<|Ws<|Wg<|M<|La<|We<|B h fun y_7 hj9 h=>WP.cut (fun f w=>∃ (H3:Hp),f 0=(str p_ppend)∧f 1=(str p_x1)∧f 2=(int p_x2)∧f 3=(int y_7)∧St w0 H0 w H3 []) ?_ ?_
 ·rcases condE hj9 with ⟨hc11,hj9⟩ | ⟨hc11,hj9⟩
  ·refine CT hc11<|Wg<|M<|M<|B hj9 fun r12 hr12 hj9=>W.call S rfl (zGW S.holds p_ppend p_x1 hr12) ?_
   rintro v13 w14 H15 hle16 S rfl
   refine Lg<|A<|We ?_
   obtain rfl:=oi hj9
   exact ⟨H15,rfl,rfl,rfl,rfl,S⟩
  refine CF hc11<|Wk ?_
  obtain rfl:=oi hj9
  exact ⟨H0,rfl,rfl,rfl,rfl,S⟩
 rintro f w ⟨H3,h4,h5,h6,h8,S⟩
 refine Ws<|Wg<|M' h8<|M' h4<|Ns<|Lg<|Ni<|A<|We<|Ws<|Wg<|M<|B h fun l17 hl17 h=>W.makeSlice (α:=Str) (zv:=(str [])) (z:=[]) S el34 rfl rfl rfl zer9 rfl hl17 ?_
 intro b18 w19 ms20 n21 hL22 R23 S
 refine A<|We<|Ws<|Wg<|M<|Lh<|A<|We<|Ws<|Wg<|A<|We ?_
 refine Ws<|B h fun r50 hr51 h=>WP.cut (fun f w=>match r50 with | (ppend_38,y_41,m43)=>∃ (H37:Hp) (ms44:List Value),f 0=(str ppend_38)∧f 9=(.slice (some ⟨b18,0,none⟩) n21 n21)∧f 10=(int y_41)∧Ms (α:=Str) H37 ms44 m43∧m43.length=n21∧St w0 H0 w H37 [.box b18 9 ms44]) ?_ ?_
 ·refine Wb ?_
  refine WP.loopM (zAs p_ppend p_x1 p_x2 y_7) (fun s f w=>match s with | (ppend_25,y_31,m33)=>∃ (H24:Hp) (ms34:List Value),f 0=(str ppend_25)∧f 1=(str p_x1)∧f 2=(int p_x2)∧f 3=(int (wr ((if (wr ((p_ppend.length:Int)+1))<y_7 then (wr ((p_ppend.length:Int)+1)) else y_7) - 1)))∧f 9=(.slice (some ⟨b18,0,none⟩) n21 n21)∧f 10=(int y_31)∧Ms (α:=Str) H24 ms34 m33∧m33.length=n21∧St w0 H0 w H24 [.box b18 9 ms34]) (p_ppend,0,l17) r50 hr51 ?_ ?_
  ·exact ⟨H3,ms20,h4,h5,h6,rfl,rfl,rfl,R23,hL22,S⟩
  intro s f w hI y47 hy48 hy49
  obtain ⟨ppend_25,y_31,m33⟩:=s
  obtain ⟨H24,ms34,h26,h27,h28,h29,h30,h32,R35,hL36,S⟩:=hI
  refine Ws<|Ws<|Wg<|M' h32<|M' h29<|La<|We ?_
  rcases condE hy48 with ⟨hc52,hy48⟩ | ⟨hc52,hy48⟩
  ·refine CT hc52<|Wk<|Wb<|Ws<|Wg<|M' h26<|M' h27<|B hy48 fun r53 hr53 hy48=>W.call S rfl (zGZ S.holds ppend_25 p_x1 hr53) ?_
   rintro v54 w55 H56 hle57 S rfl
   have R35:=Ms.mono R35 hle57
   refine A<|We<|Ws<|Ws<|Wg<|M<|La<|We ?_
   rcases condE hy48 with ⟨hc58,hy48⟩ | ⟨hc58,hy48⟩
   ·refine CT hc58<|Wx ?_
    obtain rfl:=oi hy48
    obtain rfl:=hy49
    exact ⟨H56,ms34,h26,h30,h32,R35,hL36,S⟩
   refine CF hc58<|Wk<|Ws<|Wg<|M' h30<|M' h32<|M' h26<|M<|M' h28<|Lg<|B hy48 fun s59 hs59 hy48=>Jd hs59<|B hy48 fun x60 hx60 hy48=>?_
   refine WL.w (R.idxM (α:=Str) (xs:=m33) rfl hL36 rfl el34 hx60)<|B hy48 fun l61 hl61 hy48=>?_
   refine W.storeM (α:=Str) (i:=0) (m:=y_31) S R35 rfl rfl rfl lay9 rfl rfl hl61 ?_
   intro w62 ms63 R64 S
   have hL65:=(zGM hl61).1.trans hL36
   refine We<|Ws<|Wg<|M' h26<|M<|M' h27<|Ns<|Lg<|B hy48 fun s66 hs66 hy48=>Jc hs66<|A<|We<|Wg<|M' h32<|Lg<|A<|We ?_
   obtain rfl:=oi hy48
   exact ⟨rfl,⟨H56,ms63,rfl,h27,h28,h29,h30,rfl,R64,hL65,S⟩⟩
  refine CF hc52<|Wx ?_
  obtain rfl:=oi hy48
  obtain rfl:=hy49
  exact ⟨H24,ms34,h26,h30,h32,R35,hL36,S⟩
 intro f w hM
 obtain ⟨ppend_38,y_41,m43⟩:=r50
 obtain ⟨H37,ms44,h39,h40,h42,R45,hL46,S⟩:=hM
 refine Ws<|Wg<|M' h40<|M' h42<|M' h39<|B h fun x67 hx67 h=>?_
 refine WL.w (R.idxM (α:=Str) (xs:=m43) rfl hL46 rfl el34 hx67)<|B h fun l68 hl68 h=>?_
 refine W.storeM (α:=Str) (i:=0) (m:=y_41) S R45 rfl rfl rfl lay9 rfl rfl hl68 ?_
 intro w69 ms70 R71 S
 have hL72:=(zGM hl68).1.trans hL46
 refine We<|Ws<|Wg<|M' h40<|M' h42<|Lg ?_
 obtain ⟨H73,hle74,hs75,_,S⟩:=S.settle (i:=0) rfl
 replace S:St w0 H0 _ H73 []:=S
 have hA76:At H73 ⟨b18,0,none⟩ ms70:=⟨_,_,rfl,hs75,[],by simp⟩
 have R71:=Ms.mono R71 hle74
 have R77:Sl (α:=Str) H73 (.slice (some ⟨b18,0,none⟩) n21 n21) l68:=Ms.sl R71 hL72 hA76
 refine B h fun l78 hl78 h=>W.subHi (α:=Str) R77 rfl rfl el34 hl78 ?_
 intro v79 R80
 refine A<|We ?_
 obtain rfl:=oi h
 refine WP.ret (Out.one rfl S rfl ?_)
 exact R80
theorem zIl {w0:World} {H0:Hp} (hw:Holds w0 H0) (p_s:Str) (p_sep:Str) {r:(List Str)} (h:zE1 p_s p_sep=some r) :
  Con Tryz.prog 266 [(str p_s),(str p_sep)] w0 H0 (fun H' v=>Sl (α:=Str) H' v r):=by
 refine Con.mk (N:=8) Tryz.func266 rfl rfl kr rfl ?_
 have S:=St.start hw
 refine Ws<|Wg<|A<|We<|Ws<|Wg<|M<|M<|B h fun r1 hr1 h=>W.call S rfl (zHX S.holds p_s p_sep 0 (-1) hr1) ?_
 rintro v2 w3 H4 hle5 S R6
 refine A<|We ?_
 obtain rfl:=oi h
 refine WP.ret (Out.one rfl S rfl ?_)
 exact R6
theorem zHo {w0:World} {H0:Hp} (hw:Holds w0 H0) (p_s:Str) (p_digits:Bool) {r:Bool} (h:zDn p_s p_digits=some r) :
  Con Tryz.prog 267 [(str p_s),(boo p_digits)] w0 H0 (fun H' v=>v=(boo r)):=by
 refine Con.mk (N:=41) Tryz.func267 rfl rfl kr rfl ?_
 have S:=St.start hw
 refine Ws<|Wg<|A<|We<|Ws<|Ws<|Wg<|M<|B h fun r1 hr1 h=>W.call S rfl (zAe S.holds p_s hr1) ?_
 rintro v2 w3 H4 hle5 S rfl
 refine W.bytes (s:=r1) S rfl Tryz.underlying9 Tryz.underlying128 Tryz.underlying5 ?_
 intro b6 c7 w8 hc7 S
 refine Nv<|M<|We<|B h fun r21 hr22 h=>WP.cut (fun f w=>match r21 with | .inl _=>∃ (H16:Hp),f 0=(str p_s)∧St w0 H0 w H16 [] | .inr _=>False) ?_ ?_
 ·refine Wb ?_
  refine WP.loopM (zBo p_digits r1) (fun s f w=>match s with | y_14=>∃ (H9:Hp),f 0=(str p_s)∧f 1=(boo p_digits)∧f 9=(.slice (some ⟨b6,0,none⟩) r1.length c7)∧f 10=(int (r1.length:Int))∧f 11=(int y_14)∧St w0 H0 w H9 [.box b6 5 (r1.map byt)]) 0 r21 hr22 ?_ ?_
  ·exact ⟨H4,rfl,rfl,rfl,rfl,rfl,S⟩
  intro y_14 f w hI y18 hy19 hy20
  obtain ⟨H9,h10,h11,h12,h13,h15,S⟩:=hI
  refine Ws<|Wg<|La' h15 h13<|We<|Ws ?_
  rcases condE hy19 with ⟨hc23,hy19⟩ | ⟨hc23,hy19⟩
  ·refine CT hc23<|Wk<|Ws<|Wb<|Ws<|Wg<|B hy19 fun c24 hc24 hy19=>?_
   have hq25:=(zAm hc24).2
   refine WL.w (R.idxB h12 h15 el128 (zAm hc24).2)<|B hy19 fun c26 hc26 hy19=>?_
   refine WL.w (R.loadB (i:=0) S rfl rfl lay5 (zAm hc26).1)<|A<|We<|Ws<|Wg<|M<|Ma c26 97<|M ?_
   refine WL.grp 3 [18,19] 20 (boo ((decide (c26<97))||(decide (122<c26)))) ?_ ?_
   ·rcases boolE (decide (c26<97)) with hb27 | hb27
    ·refine Gn hb27<|Gn hb27<|Pt hb27 ?_
     exact We ⟨(orT hb27),ag,rfl⟩
    refine Gy hb27<|M<|Gy hb27<|Mc c26 122<|Pf hb27 ?_
    exact We ⟨(orF hb27),ag,rfl⟩
   intro us
   refine M ?_
   refine WL.grp 11 [22,23,24,25,26,27,28,29,30,31] 32 (boo (((decide (c26<97))||(decide (122<c26)))&&(((!p_digits)||(decide (c26<48)))||(decide (57<c26))))) ?_ ?_
   ·rcases boolE ((decide (c26<97))||(decide (122<c26))) with hb29 | hb29
    ·refine Gy hb29<|M' h11<|Gy hb29<|No<|Gy hb29<|M ?_
     refine WL.grp 3 [25,26] 27 (boo ((!p_digits)||(decide (c26<48)))) ?_ ?_
     ·rcases boolE (!p_digits) with hb31 | hb31
      ·refine Gn hb31<|Gn hb31<|Gy hb29<|Pt hb31 ?_
       exact We ⟨(orT hb31),ag,rfl⟩
      refine Gy hb31<|M<|Gy hb31<|Ma c26 48<|Gy hb29<|Pf hb31 ?_
      exact We ⟨(orF hb31),ag,rfl⟩
     intro us
     refine Gy hb29<|M ?_
     refine WL.grp 3 [29,30] 31 (boo (((!p_digits)||(decide (c26<48)))||(decide (57<c26)))) ?_ ?_
     ·rcases boolE ((!p_digits)||(decide (c26<48))) with hb33 | hb33
      ·refine Gn hb33<|Gn hb33<|Gy hb29<|Pt hb33 ?_
       exact We ⟨(orT hb33),ag,rfl⟩
      refine Gy hb33<|M<|Gy hb33<|Mc c26 57<|Gy hb29<|Pf hb33 ?_
      exact We ⟨(orF hb33),ag,rfl⟩
     intro us
     refine Pt hb29 ?_
     exact We ⟨(andT hb29),ag,rfl⟩
    refine Gn hb29<|Gn hb29<|Gn hb29<|WL.gund rfl rfl<|WL.gund rfl rfl<|Gn hb29<|Gn hb29<|WL.gund rfl rfl<|WL.gund rfl rfl<|Gn hb29<|Pf hb29 ?_
    exact We ⟨(andF hb29),ag,rfl⟩
   intro us
   refine We ?_
   rcases condE hy19 with ⟨hc35,hy19⟩ | ⟨hc35,hy19⟩
   ·refine CT hc35<|Ws<|Wg<|A<|We ?_
    obtain rfl:=oi hy19
    obtain rfl:=hy20
    obtain rfl:=oi h
    refine WP.ret (Out.one rfl S rfl ?_)
    exact rfl
   refine CF hc35<|Wk<|Wg<|Lg' h15 rfl<|M<|We ?_
   obtain rfl:=oi hy19
   exact ⟨rfl,⟨H9,h10,h11,h12,h13,rfl,S⟩⟩
  refine CF hc23<|Wx ?_
  obtain rfl:=oi hy19
  obtain rfl:=hy20
  exact ⟨H9,h10,(S.drop _ (.cons _ .slnil))⟩
 intro f w hM
 rcases r21 with _ | e
 ·obtain ⟨H16,h17,S⟩:=hM
  refine Ws<|Wg<|M' h17<|Nb<|M ?_
  refine WL.grp 4 [37,38,39] 40 (boo ((p_s !=[])&&(decide ((p_s.length:Int)≤8)))) ?_ ?_
  ·rcases boolE (p_s !=[]) with hb36 | hb36
   ·refine Gy hb36<|M' h17<|Gy hb36<|Ns<|Gy hb36<|Lb<|Pt hb36 ?_
    exact We ⟨(andT hb36),ag,rfl⟩
   refine Gn hb36<|Gn hb36<|Gn hb36<|Pf hb36 ?_
   exact We ⟨(andF hb36),ag,rfl⟩
  intro us
  refine A<|We ?_
  obtain rfl:=oi h
  refine WP.ret (Out.one rfl S rfl ?_)
  exact rfl
 exact hM.elim
theorem zFH {w0:World} {H0:Hp} (hw:Holds w0 H0) (p_s:Str) {r:Bool} (h:zDd p_s=some r) :
  Con Tryz.prog 258 [(str p_s)] w0 H0 (fun H' v=>v=(boo r)):=by
 refine Con.mk (N:=19) Tryz.func258 rfl rfl kr rfl ?_
 have S:=St.start hw
 refine Ws<|Wg<|A<|We<|Ws<|Ws<|Wg<|M<|B h fun r1 hr1 h=>W.call S rfl (zIl S.holds p_s [45] hr1) ?_
 rintro v2 w3 H4 hle5 S R6
 refine Nq R6<|M<|We<|B h fun r16 hr17 h=>WP.cut (fun f w=>match r16 with | .inl _=>∃ (H12:Hp),St w0 H0 w H12 [] | .inr _=>False) ?_ ?_
 ·refine Wb ?_
  refine WP.loopM (zCo r1) (fun s f w=>match s with | y_10=>∃ (H7:Hp),f 6=v2∧f 7=(int (r1.length:Int))∧f 8=(int y_10)∧Sl (α:=Str) H7 v2 r1∧St w0 H0 w H7 []) 0 r16 hr17 ?_ ?_
  ·exact ⟨H4,rfl,rfl,rfl,R6,S⟩
  intro y_10 f w hI y13 hy14 hy15
  obtain ⟨H7,h8,h9,h11,R6,S⟩:=hI
  refine Ws<|Wg<|La' h11 h9<|We<|Ws ?_
  rcases condE hy14 with ⟨hc18,hy14⟩ | ⟨hc18,hy14⟩
  ·refine CT hc18<|Wk<|Ws<|Wb<|Ws<|Wg<|M' h11<|B hy14 fun x19 hx19 hy14=>W.idx (α:=Str) R6 h8 h11 el34 hx19 ?_
   rintro a20 _ hA21 rfl
   refine Lq S hA21<|A<|A<|We<|Ws<|Wg<|M<|M<|Lc<|B hy14 fun r22 hr22 hy14=>W.call S rfl (zHo S.holds x19 (decide (0<y_10)) hr22) ?_
   rintro v23 w24 H25 hle26 S rfl
   have R6:=Sl.mono R6 hle26
   refine No<|We ?_
   rcases condE hy14 with ⟨hc27,hy14⟩ | ⟨hc27,hy14⟩
   ·refine CT hc27<|Ws<|Wg<|A<|We ?_
    obtain rfl:=oi hy14
    obtain rfl:=hy15
    obtain rfl:=oi h
    refine WP.ret (Out.one rfl S rfl ?_)
    exact rfl
   refine CF hc27<|Wk<|Wg<|Lg' h11 rfl<|M<|We ?_
   obtain rfl:=oi hy14
   exact ⟨rfl,⟨H25,h8,h9,rfl,R6,S⟩⟩
  refine CF hc18<|Wx ?_
  obtain rfl:=oi hy14
  obtain rfl:=hy15
  exact ⟨H7,S⟩
 intro f w hM
 rcases r16 with _ | e
 ·obtain ⟨H12,S⟩:=hM
  refine Ws<|Wg<|A<|We ?_
  obtain rfl:=oi h
  refine WP.ret (Out.one rfl S rfl ?_)
  exact rfl
 exact hM.elim
theorem zGv {w0:World} {H0:Hp} (hw:Holds w0 H0) (p_x0:Unit) (p_s:Str) {r:(Str×Bool)} (h:zCX p_x0 p_s=some r) :
  Con Tryz.prog 291 [(agg []),(str p_s)] w0 H0 (fun H' v=>v=(.tuple ⟨[(str r.1),(boo r.2)]⟩)):=by
 refine Con.mk (N:=10) Tryz.func291 rfl rfl kr rfl ?_
 have S:=St.start hw
 refine Ws<|Wg ?_
 refine W.box [] S rfl rfl ?_
 intro b1 w2 S
 refine A<|A<|We<|Ws<|Wg<|M<|B h fun r3 hr3 h=>W.call S rfl (zAe S.holds p_s hr3) ?_
 rintro v4 w5 H6 hle7 S rfl
 refine M<|B h fun r8 hr8 h=>W.call S rfl (zFH S.holds p_s hr8) ?_
 rintro v9 w10 H11 hle12 S rfl
 refine A<|A<|We ?_
 obtain rfl:=oi h
 refine WP.ret (Out.two rfl S rfl rfl ?_)
 exact rfl
theorem zBe {w0:World} {H0:Hp} (hw:Holds w0 H0) (p_kind:Int) (p_s:Str) {r:Str} (h:zA4 p_kind p_s=some r) :
  Con Tryz.prog 247 [(int p_kind),(str p_s)] w0 H0 (fun H' v=>v=(str r)):=by
 refine Con.mk (N:=18) Tryz.func247 rfl rfl kr rfl ?_
 have S:=St.start hw
 refine Ws<|Wg<|A<|We<|Ws<|Wg<|M<|B h fun r1 hr1 h=>W.call S rfl (zAe S.holds p_s hr1) ?_
 rintro v2 w3 H4 hle5 S rfl
 refine A<|We<|Ws<|Ws<|Wg<|M<|Lf<|We ?_
 rcases condE h with ⟨hc6,h⟩ | ⟨hc6,h⟩
 ·refine CT hc6<|Ws<|Wg<|M<|A<|We ?_
  obtain rfl:=oi h
  refine WP.ret (Out.one rfl S rfl ?_)
  exact rfl
 refine CF hc6<|Wk<|Ws<|Ws<|Wg<|M<|We<|B h fun j10 hj9 h=>WP.cut (fun f w=>match j10 with | .inl _=>∃ (H7:Hp),f 1=(str r1)∧St w0 H0 w H7 [] | .inr _=>False) ?_ ?_
 ·refine Wb<|Ws<|Ws<|Wg<|Na<|A<|We<|B hj9 fun y_14 hj16 hj9=>WP.cut (fun f w=>∃ (H11:Hp),f 1=(str r1)∧f 10=(str r1)∧f 11=(boo y_14)∧St w0 H0 w H11 []) ?_ ?_
  ·rcases condE hj16 with ⟨hc18,hj16⟩ | ⟨hc18,hj16⟩
   ·refine CT hc18<|Wk ?_
    obtain rfl:=oi hj16
    exact ⟨H4,rfl,rfl,rfl,S⟩
   refine CF hc18<|Wg<|Na<|A<|We ?_
   obtain rfl:=oi hj16
   exact ⟨H4,rfl,rfl,rfl,S⟩
  rintro f w ⟨H11,h12,h13,h15,S⟩
  rcases condE hj9 with ⟨hc19,hj9⟩ | ⟨hc19,hj9⟩
  ·refine WP.condT h15 hc19<|Ws<|Wg<|A<|We ?_
   obtain rfl:=oi hj9
   obtain rfl:=oi h
   refine WP.ret (Out.one rfl S rfl ?_)
   exact rfl
  refine WP.condF h15 hc19<|Ws<|Ws<|Wg<|Na' h13 rfl<|A<|We<|B hj9 fun y_22 hj24 hj9=>WP.cut (fun f w=>∃ (H20:Hp),f 1=(str r1)∧f 14=(boo y_22)∧St w0 H0 w H20 []) ?_ ?_
  ·rcases condE hj24 with ⟨hc26,hj24⟩ | ⟨hc26,hj24⟩
   ·refine CT hc26<|Wk ?_
    obtain rfl:=oi hj24
    exact ⟨H11,h12,rfl,S⟩
   refine CF hc26<|Wg<|Na' h13 rfl<|A<|We ?_
   obtain rfl:=oi hj24
   exact ⟨H11,h12,rfl,S⟩
  rintro f w ⟨H20,h21,h23,S⟩
  rcases condE hj9 with ⟨hc27,hj9⟩ | ⟨hc27,hj9⟩
  ·refine WP.condT h23 hc27<|Ws<|Wg<|A<|We ?_
   obtain rfl:=oi hj9
   obtain rfl:=oi h
   refine WP.ret (Out.one rfl S rfl ?_)
   exact rfl
  refine WP.condF h23 hc27<|Wk ?_
  obtain rfl:=oi hj9
  exact ⟨H20,h21,S⟩
 intro f w hM
 rcases j10 with _ | e
 ·obtain ⟨H7,h8,S⟩:=hM
  refine Ws<|Wg<|M' h8<|A<|We ?_
  obtain rfl:=oi h
  refine WP.ret (Out.one rfl S rfl ?_)
  exact rfl
 exact hM.elim
theorem zGf {w0:World} {H0:Hp} (hw:Holds w0 H0) (p_kind:Int) (p_s:Str) {r:(Str×Bool)} (h:zCD p_kind p_s=some r) :
  Con Tryz.prog 292 [(int p_kind),(str p_s)] w0 H0 (fun H' v=>v=(.tuple ⟨[(str r.1),(boo r.2)]⟩)):=by
 refine Con.mk (N:=15) Tryz.func292 rfl rfl kr rfl ?_
 have S:=St.start hw
 refine Ws<|Wg<|A<|A<|We<|Ws<|Wg<|M<|M<|B h fun r1 hr1 h=>W.call S rfl (zBe S.holds p_kind p_s hr1) ?_
 rintro v2 w3 H4 hle5 S rfl
 refine M<|B h fun r6 hr6 h=>W.call S rfl (zAv S.holds p_s hr6) ?_
 rintro v7 w8 H9 hle10 S rfl
 refine M ?_
 refine WL.grp 3 [12,13] 14 (boo (r6&&(p_s !=[42]))) ?_ ?_
 ·rcases boolE r6 with hb11 | hb11
  ·refine Gy hb11<|M<|Gy hb11<|Nb<|Pt hb11 ?_
   exact We ⟨(andT hb11),ag,rfl⟩
  refine Gn hb11<|Gn hb11<|Pf hb11 ?_
  exact We ⟨(andF hb11),ag,rfl⟩
 intro us
 refine A<|A<|We ?_
 obtain rfl:=oi h
 refine WP.ret (Out.two rfl S rfl rfl ?_)
 exact rfl
theorem zGe {w0:World} {H0:Hp} (hw:Holds w0 H0) (p_x0:Unit) (p_s:Str) {r:(Str×Bool)} (h:zCB p_x0 p_s=some r) :
  Con Tryz.prog 293 [(agg []),(str p_s)] w0 H0 (fun H' v=>v=(.tuple ⟨[(str r.1),(boo r.2)]⟩)):=by
 refine Con.mk (N:=25) Tryz.func293 rfl rfl kr rfl ?_
 have S:=St.start hw
 refine Ws<|Wg ?_
 refine W.box [] S rfl rfl ?_
 intro b1 w2 S
 refine A<|A<|We<|Ws<|Wg<|M<|M<|Ns<|Ld<|M ?_
 refine WL.grp 4 [11,12,13] 14 (boo ((decide (1≤(p_s.length:Int)))&&(decide ((p_s.length:Int)≤100)))) ?_ ?_
 ·rcases boolE (decide (1≤(p_s.length:Int))) with hb3 | hb3
  ·refine Gy hb3<|M<|Gy hb3<|Ns<|Gy hb3<|Lb<|Pt hb3 ?_
   exact We ⟨(andT hb3),ag,rfl⟩
  refine Gn hb3<|Gn hb3<|Gn hb3<|Pf hb3 ?_
  exact We ⟨(andF hb3),ag,rfl⟩
 intro us
 refine M<|B h fun b12 hg6 h=>WL.grpw 3 [16,17] 18 (boo b12) (fun w=>∃ H':Hp,H0.le H'∧St w0 H0 w H' [.box b1 155 []]) ?_ ?_
 ·rcases boolE ((decide (1≤(p_s.length:Int)))&&(decide ((p_s.length:Int)≤100))) with hb5 | hb5
  ·replace hg6:=condT hg6 hb5
   refine Gy hb5<|M<|Gy hb5<|B hg6 fun r7 hr7 hg6=>W.call S rfl (zIB S.holds p_s hr7) ?_
   rintro v8 w9 H10 hle11 S rfl
   refine Pt hb5 ?_
   exact We ⟨(congrArg boo (oi hg6)),ag,⟨H10,hle11,S⟩⟩
  replace hg6:=condF hg6 hb5
  refine Gn hb5<|Gn hb5<|Pf hb5 ?_
  exact We ⟨(congrArg boo (oi hg6)),ag,⟨H0,(Hp.le.refl _),S⟩⟩
 intro us w14 ⟨H13,hle15,S⟩
 refine M<|B h fun b23 hg17 h=>WL.grpw 5 [20,21,22,23] 24 (boo b23) (fun w=>∃ H':Hp,H13.le H'∧St w0 H0 w H' [.box b1 155 []]) ?_ ?_
 ·rcases boolE b12 with hb16 | hb16
  ·replace hg17:=condT hg17 hb16
   refine Gy hb16<|M<|Gy hb16<|B hg17 fun r18 hr18 hg17=>W.call S rfl (zEt S.holds p_s hr18) ?_
   rintro v19 w20 H21 hle22 S rfl
   refine Gy hb16<|M<|Gy hb16<|Na<|Pt hb16 ?_
   exact We ⟨(congrArg boo (oi hg17)),ag,⟨H21,hle22,S⟩⟩
  replace hg17:=condF hg17 hb16
  refine Gn hb16<|Gn hb16<|Gn hb16<|Gn hb16<|Pf hb16 ?_
  exact We ⟨(congrArg boo (oi hg17)),ag,⟨H13,(Hp.le.refl _),S⟩⟩
 intro us w25 ⟨H24,hle26,S⟩
 refine A<|A<|We ?_
 obtain rfl:=oi h
 refine WP.ret (Out.two rfl S rfl rfl ?_)
 exact rfl
theorem zCC {w0:World} {H0:Hp} (hw:Holds w0 H0) (x:Gvariants_domain) (p0:Str) {r:(Str×Bool)} (h:zBP x p0=some r) :
  ConI Tryz.prog "variantproxy/variants.form" (Tryz.vvariants_domain x) [(str p0)] w0 H0 (fun H' v=>v=(.tuple ⟨[(str r.1),(boo r.2)]⟩)):=by
 cases x with
 | media=>exact ConI.mk (fun w=>by kernel_rfl) (zGd hw () p0 h)
 | tags=>exact ConI.mk (fun w=>by kernel_rfl) (zGv hw () p0 h)
 | words n=>exact ConI.mk (fun w=>by kernel_rfl) (zGf hw n p0 h)
 | texts=>exact ConI.mk (fun w=>by kernel_rfl) (zGe hw () p0 h)
theorem zIG {w0:World} {H0:Hp} (hw:Holds w0 H0) (p_a:GAxis) {vp_a1:Value} (Rp_a1:Sl (α:=Str) H0 vp_a1 p_a.fValues) {r:Bool} (h:zEL p_a=some r) :
  Con Tryz.prog 95 [(agg [(str p_a.fName),vp_a1])] w0 H0 (fun H' v=>v=(boo r)):=by
 refine Con.mk (N:=46) Tryz.func95 rfl rfl kr rfl ?_
 have S:=St.start hw
 refine Ws<|Wg ?_
 refine W.box [(str p_a.fName),vp_a1] S rfl rfl ?_
 intro b1 w2 S
 refine A<|We<|Ws<|Ws<|Wg<|Fb ?_
 refine Lo 0 S<|Nq Rp_a1<|La<|M ?_
 refine WL.grp 5 [14,15,16,17] 18 (boo ((decide ((p_a.fValues.length:Int)<1))||(decide (16<(p_a.fValues.length:Int))))) ?_ ?_
 ·rcases boolE (decide ((p_a.fValues.length:Int)<1)) with hb3 | hb3
  ·refine Gn hb3<|Gn hb3<|Gn hb3<|Gn hb3<|Pt hb3 ?_
   exact We ⟨(orT hb3),ag,rfl⟩
  refine Gy hb3<|Fb<|Gy hb3 ?_
  refine Lo 0 S<|Gy hb3<|Nq Rp_a1<|Gy hb3<|Lc<|Pf hb3 ?_
  exact We ⟨(orF hb3),ag,rfl⟩
 intro us
 refine We ?_
 rcases condE h with ⟨hc5,h⟩ | ⟨hc5,h⟩
 ·refine CT hc5<|Ws<|Wg<|A<|We ?_
  obtain rfl:=oi h
  refine WP.ret (Out.one rfl S rfl ?_)
  exact rfl
 refine CF hc5<|Wk<|Ws<|Wg<|Fb ?_
 refine Lo 0 S<|B h fun r6 hr6 h=>W.call S rfl (zEi S.holds p_a.fName hr6) ?_
 rintro v7 w8 H9 hle10 S rfl
 have Rp_a1:=Sl.mono Rp_a1 hle10
 refine A<|We<|Ws<|Wg<|W.makeMap S ?_
 intro b11 w12 S
 refine A<|We<|Ws<|Ws<|Wg<|Fb ?_
 refine Lo 1 S<|Nq Rp_a1<|M<|We<|B h fun r25 hr26 h=>WP.cut (fun f w=>match r25 with | .inl _=>∃ (H21:Hp),St w0 H0 w H21 [] | .inr _=>False) ?_ ?_
 ·refine Wb ?_
  refine WP.loopM (zBB p_a r6) (fun s f w=>match s with | (y_18,m20)=>∃ (H13:Hp),f 3=(Tryz.vvariants_domain r6)∧f 4=(mapv b11)∧f 24=vp_a1∧f 25=(int (p_a.fValues.length:Int))∧f 26=(int y_18)∧Sl (α:=Str) H13 vp_a1 p_a.fValues∧St w0 H0 w H13 [.mp b11 (encm boo m20)]) (0,([]:List (Str×Bool))) r25 hr26 ?_ ?_
  ·exact ⟨H9,rfl,rfl,rfl,rfl,rfl,Rp_a1,(S.drop _ (.cons_cons _ (.cons _ .slnil)))⟩
  intro s f w hI y22 hy23 hy24
  obtain ⟨y_18,m20⟩:=s
  obtain ⟨H13,h14,h15,h16,h17,h19,Rp_a1,S⟩:=hI
  refine Ws<|Wg<|La' h19 h17<|We<|Ws ?_
  rcases condE hy23 with ⟨hc27,hy23⟩ | ⟨hc27,hy23⟩
  ·refine CT hc27<|Wk<|Ws<|Wb<|Ws<|Wg<|B hy23 fun x28 hx28 hy23=>W.idx (α:=Str) Rp_a1 h16 h19 el34 hx28 ?_
   rintro a29 _ hA30 rfl
   refine Lq S hA30<|A<|We<|Ws<|Wg<|M' h14<|M<|B hy23 fun r31 hr31 hy23=>W.invoke S rfl rfl (zCC S.holds r6 x28 hr31) ?_
   rintro v32 w33 H34 hle35 S rfl
   have Rp_a1:=Sl.mono Rp_a1 hle35
   refine M ?_
   refine Ex ?_
   refine Ex<|A<|A<|We<|Ws<|Ws<|Wg<|M<|No<|M<|B hy23 fun b39 hg37 hy23=>WL.grp 4 [39,40,41] 42 (boo b39) ?_ ?_
   ·rcases boolE (!r31.2) with hb36 | hb36
    ·replace hg37:=condT hg37 hb36
     refine Gn hb36<|Gn hb36<|Gn hb36<|Pt hb36 ?_
     exact We ⟨(congrArg boo (oi hg37)),ag,rfl⟩
    replace hg37:=condF hg37 hb36
    refine Gy hb36<|M' h15<|Gy hb36<|M<|Gy hb36<|B hg37 fun g38 hg38 hg37=>?_
    refine WL.w (v:=boo g38.1) (R.ofEq (R.lookup1 boo (i:=0) (m:=m20) (z:=false) S rfl rfl rfl Tryz.underlying107 Tryz.underlying9 mz4 rfl) (by rw [oi hg38]))<|Pf hb36 ?_
    exact We ⟨(congrArg boo (oi hg37)),ag,rfl⟩
   intro us
   refine We ?_
   rcases condE hy23 with ⟨hc40,hy23⟩ | ⟨hc40,hy23⟩
   ·refine CT hc40<|Ws<|Wg<|A<|We ?_
    obtain rfl:=oi hy23
    obtain rfl:=hy24
    obtain rfl:=oi h
    refine WP.ret (Out.one rfl S rfl ?_)
    exact rfl
   refine CF hc40<|Wk<|Wg<|M' h15<|M<|W.mapUpdate boo (i:=0) (m:=m20) true S rfl rfl rfl rfl rfl Tryz.underlying107 Tryz.underlying9 ?_
   intro w41 S
   refine We<|Wg<|Lg' h19 rfl<|M<|We ?_
   obtain rfl:=oi hy23
   exact ⟨rfl,⟨H34,h14,h15,h16,h17,rfl,Rp_a1,S⟩⟩
  refine CF hc27<|Wx ?_
  obtain rfl:=oi hy23
  obtain rfl:=hy24
  exact ⟨H13,(S.drop _ (.cons _ .slnil))⟩
 intro f w hM
 rcases r25 with _ | e
 ·obtain ⟨H21,S⟩:=hM
  refine Ws<|Wg<|A<|We ?_
  obtain rfl:=oi h
  refine WP.ret (Out.one rfl S rfl ?_)
  exact rfl
 exact hM.elim
theorem zEG {w0:World} {H0:Hp} (hw:Holds w0 H0) (p_l:(List GAxis)) {vp_l:Value} (Rp_l:Sl (α:=GAxis) H0 vp_l p_l) {r:Bool} (h:zCR p_l=some r) :
  Con Tryz.prog 60 [vp_l] w0 H0 (fun H' v=>v=(boo r)):=by
 refine Con.mk (N:=54) Tryz.func60 rfl rfl kr rfl ?_
 have S:=St.start hw
 refine Ws<|Wg<|A<|We<|Ws<|Ws<|Wg<|M<|Nq Rp_l<|La<|M ?_
 refine WL.grp 4 [11,12,13] 14 (boo ((decide ((p_l.length:Int)<1))||(decide (4<(p_l.length:Int))))) ?_ ?_
 ·rcases boolE (decide ((p_l.length:Int)<1)) with hb1 | hb1
  ·refine Gn hb1<|Gn hb1<|Gn hb1<|Pt hb1 ?_
   exact We ⟨(orT hb1),ag,rfl⟩
  refine Gy hb1<|M<|Gy hb1<|Nq Rp_l<|Gy hb1<|Lc<|Pf hb1 ?_
  exact We ⟨(orF hb1),ag,rfl⟩
 intro us
 refine We ?_
 rcases condE h with ⟨hc3,h⟩ | ⟨hc3,h⟩
 ·refine CT hc3<|Ws<|Wg<|A<|We ?_
  obtain rfl:=oi h
  refine WP.ret (Out.one rfl S rfl ?_)
  exact rfl
 refine CF hc3<|Wk<|Ws<|Ws<|Wg<|M<|Nq Rp_l<|M<|We<|B h fun r14 hr15 h=>WP.cut (fun f w=>match r14 with | .inl _=>∃ (H10:Hp),St w0 H0 w H10 [] | .inr _=>False) ?_ ?_
 ·refine Wb ?_
  refine WP.loopM (zB1 p_l) (fun s f w=>match s with | y_8=>∃ (H4:Hp),f 0=vp_l∧f 15=vp_l∧f 16=(int (p_l.length:Int))∧f 17=(int y_8)∧Sl (α:=GAxis) H4 vp_l p_l∧St w0 H0 w H4 []) 0 r14 hr15 ?_ ?_
  ·exact ⟨H0,rfl,rfl,rfl,rfl,Rp_l,S⟩
  intro y_8 f w hI y11 hy12 hy13
  obtain ⟨H4,h5,h6,h7,h9,Rp_l,S⟩:=hI
  refine Ws<|Wg<|La' h9 h7<|We<|Ws ?_
  rcases condE hy12 with ⟨hc16,hy12⟩ | ⟨hc16,hy12⟩
  ·refine CT hc16<|Wk<|Ws<|Wb<|Ws<|Wg<|M' h9<|B hy12 fun x17 hx17 hy12=>W.idx (α:=GAxis) Rp_l h6 h9 el22 hx17 ?_
   rintro a18 _ hA19 ⟨v20,rfl,R21⟩
   refine WL.w (R.loadHN (vs:=[(str x17.fName),v20]) S rfl hA19 lay68 rfl rfl) ?_
   refine W.alloc [(str []),(.slice none 0 0)] S zer68 ?_
   intro b22 w23 S
   refine A ?_
   refine W.store (i:=0) [(str x17.fName),v20] S rfl rfl rfl lay68 rfl (AllOne.all (l:=[(str x17.fName),v20]) (.cons rfl (.cons (Sl.oneC R21) .nil))) (Nat.le_of_ble_eq_true rfl) rfl ?_
   intro w24 S
   refine We<|Ws<|Ws<|WP.quiet S kr kr<|QFb ?_
   refine WQ.val (fun w hw=>by obtain ⟨_,hq,S⟩:=hw; exact (R.loadB (i:=0) (v:=str x17.fName) S rfl rfl lay9 rfl))<|B hy12 fun r28 hr28 hy12=>WQ.call (v:=boo r28) rfl (fun w H' hq S=>zAv S.holds x17.fName hr28)<|QNo<|QM<|B hy12 fun b40 hg34 hy12=>WQ.grp 7 [27,28,29,30,31,32] 33 (boo b40) ?_ ?_
   ·rcases boolE (!r28) with hb33 | hb33
    ·replace hg34:=condT hg34 hb33
     refine QGn hb33<|QGn hb33<|QGn hb33<|QGn hb33<|QGn hb33<|QGn hb33<|QPt hb33 ?_
     exact WQ.nil ⟨(congrArg boo (oi hg34)),ag⟩
    replace hg34:=condF hg34 hb33
    refine QGy hb33<|QFb<|QGy hb33 ?_
    refine WQ.val (fun w hw=>by obtain ⟨_,hq,S⟩:=hw; exact (R.loadB (i:=0) (v:=str x17.fName) S rfl rfl lay9 rfl))<|QGy hb33<|B hg34 fun r35 hr35 hg34=>WQ.call (v:=str r35) rfl (fun w H' hq S=>zAe S.holds x17.fName hr35)<|QGy hb33<|QFb<|QGy hb33 ?_
    refine WQ.val (fun w hw=>by obtain ⟨_,hq,S⟩:=hw; exact (R.loadB (i:=0) (v:=str x17.fName) S rfl rfl lay9 rfl))<|QGy hb33<|QNb<|QPf hb33 ?_
    exact WQ.nil ⟨(congrArg boo (oi hg34)),ag⟩
   intro us
   refine QM<|B hy12 fun b48 hg42 hy12=>WQ.grp 4 [35,36,37] 38 (boo b48) ?_ ?_
   ·rcases boolE b40 with hb41 | hb41
    ·replace hg42:=condT hg42 hb41
     refine QGn hb41<|QGn hb41<|QGn hb41<|QPt hb41 ?_
     exact WQ.nil ⟨(congrArg boo (oi hg42)),ag⟩
    replace hg42:=condF hg42 hb41
    refine QGy hb41 ?_
    refine WQ.val (fun w hw=>by obtain ⟨_,hq,S⟩:=hw; exact (R.loadBN (i:=0) (vs:=[(str x17.fName),v20]) S rfl rfl lay68 rfl rfl))<|QGy hb41<|B hg42 fun r43 hr43 hg42=>WQ.call (v:=boo r43) rfl (fun w H' hq S=>zIG S.holds x17 (Sl.mono R21 hq) hr43)<|QGy hb41<|QNo<|QPf hb41 ?_
    exact WQ.nil ⟨(congrArg boo (oi hg42)),ag⟩
   intro us
   refine WQ.nil ?_
   intro w25 H26 hle27 S
   have Rp_l:=Sl.mono Rp_l hle27
   have R21:=Sl.mono R21 hle27
   rcases condE hy12 with ⟨hc49,hy12⟩ | ⟨hc49,hy12⟩
   ·refine CT hc49<|Ws<|Wg<|A<|We ?_
    obtain rfl:=oi hy12
    obtain rfl:=hy13
    obtain rfl:=oi h
    refine WP.ret (Out.one rfl S rfl ?_)
    exact rfl
   refine CF hc49<|Wk<|Ws<|Wg<|M' h5<|M<|B hy12 fun l50 hl50 hy12=>W.subHi (α:=GAxis) Rp_l rfl rfl el22 hl50 ?_
   intro v51 R52
   refine Nq R52<|M<|We<|B hy12 fun r71 hr72 hy12=>WP.cut (fun f w=>match r71 with | .inl _=>∃ (H63:Hp),f 0=vp_l∧f 15=vp_l∧f 16=(int (p_l.length:Int))∧f 17=(int y_8)∧Sl (α:=GAxis) H63 vp_l p_l∧St w0 H0 w H63 [] | .inr _=>False) ?_ ?_
   ·refine Wb ?_
    refine WP.loopM (zB4 x17 l50) (fun s f w=>match s with | y_61=>∃ (H53:Hp),f 0=vp_l∧f 4=(ptr b22 0)∧f 15=vp_l∧f 16=(int (p_l.length:Int))∧f 17=(int y_8)∧f 41=v51∧f 42=(int (l50.length:Int))∧f 43=(int y_61)∧Sl (α:=GAxis) H53 vp_l p_l∧Sl (α:=GAxis) H53 v51 l50∧Sl (α:=Str) H53 v20 x17.fValues∧St w0 H0 w H53 [.box b22 68 [(str x17.fName),v20]]) 0 r71 hr72 ?_ ?_
    ·exact ⟨H26,h5,rfl,h6,h7,h9,rfl,rfl,rfl,Rp_l,R52,R21,S⟩
    intro y_61 f w hI y68 hy69 hy70
    obtain ⟨H53,h54,h55,h56,h57,h58,h59,h60,h62,Rp_l,R52,R21,S⟩:=hI
    refine Ws<|Wg<|La' h62 h60<|We<|Ws ?_
    rcases condE hy69 with ⟨hc73,hy69⟩ | ⟨hc73,hy69⟩
    ·refine CT hc73<|Wk<|Ws<|Wb<|Ws<|Wg<|B hy69 fun x74 hx74 hy69=>W.idx (α:=GAxis) R52 h59 h62 el22 hx74 ?_
     rintro a75 _ hA76 ⟨v77,rfl,R78⟩
     refine WL.w (R.loadHN (vs:=[(str x74.fName),v77]) S rfl hA76 lay68 rfl rfl) ?_
     refine W.alloc [(str []),(.slice none 0 0)] S zer68 ?_
     intro b79 w80 S
     refine W.store (i:=0) [(str x74.fName),v77] S rfl rfl rfl lay68 rfl (AllOne.all (l:=[(str x74.fName),v77]) (.cons rfl (.cons (Sl.oneC R78) .nil))) (Nat.le_of_ble_eq_true rfl) rfl ?_
     intro w81 S
     refine We<|Ws<|Wg<|Fb' h55 ?_
     refine Lo 1 S<|Fb ?_
     refine Lo 0 S<|Na<|We ?_
     rcases condE hy69 with ⟨hc82,hy69⟩ | ⟨hc82,hy69⟩
     ·refine CT hc82<|Ws<|Wg<|A<|We ?_
      obtain rfl:=oi hy69
      obtain rfl:=hy70
      obtain rfl:=oi hy12
      obtain rfl:=hy13
      obtain rfl:=oi h
      refine WP.ret (Out.one rfl S rfl ?_)
      exact rfl
     refine CF hc82<|Wk<|Wg<|Lg' h62 rfl<|M<|We ?_
     obtain rfl:=oi hy69
     exact ⟨rfl,⟨H53,h54,h55,h56,h57,h58,h59,h60,rfl,Rp_l,R52,R21,(S.drop _ (.cons _ (.cons_cons _ .slnil)))⟩⟩
    refine CF hc73<|Wx ?_
    obtain rfl:=oi hy69
    obtain rfl:=hy70
    exact ⟨H53,h54,h56,h57,h58,Rp_l,(S.drop _ (.cons _ .slnil))⟩
   intro f w hM
   rcases r71 with _ | e
   ·obtain ⟨H63,h64,h65,h66,h67,Rp_l,S⟩:=hM
    refine Wg<|Lg' h67 rfl<|M<|We ?_
    obtain rfl:=oi hy12
    exact ⟨rfl,⟨H63,h64,h65,h66,rfl,Rp_l,S⟩⟩
   exact hM.elim
  refine CF hc16<|Wx ?_
  obtain rfl:=oi hy12
  obtain rfl:=hy13
  exact ⟨H4,S⟩
 intro f w hM
 rcases r14 with _ | e
 ·obtain ⟨H10,S⟩:=hM
  refine Ws<|Wg<|A<|We ?_
  obtain rfl:=oi h
  refine WP.ret (Out.one rfl S rfl ?_)
  exact rfl
 exact hM.elim
theorem zIi {w0:World} {H0:Hp} (hw:Holds w0 H0) (p_p:GParam) {r:Bool} (h:zCA p_p=some r) :
  Con Tryz.prog 217 [(agg [(str p_p.fName),(str p_p.fValue)])] w0 H0 (fun H' v=>v=(boo r)):=by
 refine Con.mk (N:=6) Tryz.func217 rfl rfl kr rfl ?_
 have S:=St.start hw
 refine Ws<|Wg ?_
 refine W.box [(str p_p.fName),(str p_p.fValue)] S rfl rfl ?_
 intro b1 w2 S
 refine A<|We<|Ws<|Wg<|Fb ?_
 refine Lo 0 S<|Na<|A<|We ?_
 obtain rfl:=oi h
 refine WP.ret (Out.one rfl S rfl ?_)
 exact rfl
theorem zI9 {w0:World} {H0:Hp} (hw:Holds w0 H0) (p_ppend:Str) {r:(Int×Bool)} (h:zBs p_ppend=some r) :
  Con Tryz.prog 218 [(str p_ppend)] w0 H0 (fun H' v=>v=(.tuple ⟨[(int r.1),(boo r.2)]⟩)):=by
 refine Con.mk (N:=70) Tryz.func218 rfl rfl kr rfl ?_
 have S:=St.start hw
 refine Ws<|Wg<|A<|A<|We<|Ws<|Ws<|Wg<|M<|Na<|M ?_
 refine WL.grp 4 [11,12,13] 14 (boo ((p_ppend==[])||(decide (5<(p_ppend.length:Int))))) ?_ ?_
 ·rcases boolE (p_ppend==[]) with hb1 | hb1
  ·refine Gn hb1<|Gn hb1<|Gn hb1<|Pt hb1 ?_
   exact We ⟨(orT hb1),ag,rfl⟩
  refine Gy hb1<|M<|Gy hb1<|Ns<|Gy hb1<|Lc<|Pf hb1 ?_
  exact We ⟨(orF hb1),ag,rfl⟩
 intro us
 refine M<|B h fun b10 hg4 h=>WL.grp 9 [16,17,18,19,20,21,22,23] 24 (boo b10) ?_ ?_
 ·rcases boolE ((p_ppend==[])||(decide (5<(p_ppend.length:Int)))) with hb3 | hb3
  ·replace hg4:=condT hg4 hb3
   refine Gn hb3<|Gn hb3<|Gn hb3<|Gn hb3<|WL.gund rfl rfl<|WL.gund rfl rfl<|WL.gund rfl rfl<|Gn hb3<|Pt hb3 ?_
   exact We ⟨(congrArg boo (oi hg4)),ag,rfl⟩
  replace hg4:=condF hg4 hb3
  refine Gy hb3<|M<|Gy hb3<|B hg4 fun c5 hc5 hg4=>Ja hc5<|Gy hb3<|Mf c5 48<|Gy hb3<|M<|B hg4 fun b9 hg7 hg4=>WL.grp 4 [20,21,22] 23 (boo b9) ?_ ?_
  ·rcases boolE (c5 !=48) with hb6 | hb6
   ·replace hg7:=condT hg7 hb6
    refine Gy hb6<|M<|Gy hb6<|B hg7 fun c8 hc8 hg7=>Ja hc8<|Gy hb6<|Mf c8 49<|Gy hb3<|Pt hb6 ?_
    exact We ⟨(congrArg boo (oi hg7)),ag,rfl⟩
   replace hg7:=condF hg7 hb6
   refine Gn hb6<|Gn hb6<|Gn hb6<|Gy hb3<|Pf hb6 ?_
   exact We ⟨(congrArg boo (oi hg7)),ag,rfl⟩
  intro us
  refine Pf hb3 ?_
  exact We ⟨(congrArg boo (oi hg4)),ag,rfl⟩
 intro us
 refine M<|B h fun b17 hg12 h=>WL.grp 9 [26,27,28,29,30,31,32,33] 34 (boo b17) ?_ ?_
 ·rcases boolE b10 with hb11 | hb11
  ·replace hg12:=condT hg12 hb11
   refine Gn hb11<|Gn hb11<|Gn hb11<|Gn hb11<|WL.gund rfl rfl<|WL.gund rfl rfl<|WL.gund rfl rfl<|Gn hb11<|Pt hb11 ?_
   exact We ⟨(congrArg boo (oi hg12)),ag,rfl⟩
  replace hg12:=condF hg12 hb11
  refine Gy hb11<|M<|Gy hb11<|Ns<|Gy hb11<|Lc<|Gy hb11<|M<|B hg12 fun b16 hg14 hg12=>WL.grp 4 [30,31,32] 33 (boo b16) ?_ ?_
  ·rcases boolE (decide (1<(p_ppend.length:Int))) with hb13 | hb13
   ·replace hg14:=condT hg14 hb13
    refine Gy hb13<|M<|Gy hb13<|B hg14 fun c15 hc15 hg14=>Ja hc15<|Gy hb13<|Mf c15 46<|Gy hb11<|Pt hb13 ?_
    exact We ⟨(congrArg boo (oi hg14)),ag,rfl⟩
   replace hg14:=condF hg14 hb13
   refine Gn hb13<|Gn hb13<|Gn hb13<|Gy hb11<|Pf hb13 ?_
   exact We ⟨(congrArg boo (oi hg14)),ag,rfl⟩
  intro us
  refine Pf hb11 ?_
  exact We ⟨(congrArg boo (oi hg12)),ag,rfl⟩
 intro us
 refine We ?_
 rcases condE h with ⟨hc18,h⟩ | ⟨hc18,h⟩
 ·refine CT hc18<|Ws<|Wg<|A<|A<|We ?_
  obtain rfl:=oi h
  refine WP.ret (Out.two rfl S rfl rfl ?_)
  exact rfl
 refine CF hc18<|Wk<|Ws<|Wg ?_
 refine WL.w (R.buildArr [(0,(int 1000)),(1,(int 0)),(2,(int 100)),(3,(int 10)),(4,(int 1))] [(int 1000),(int 0),(int 100),(int 10),(int 1)] Tryz.underlying236 lay3 zPP rfl rfl) ?_
 refine W.alloc [(int 0),(int 0),(int 0),(int 0),(int 0)] S zPP ?_
 intro b19 w20 S
 refine W.store (i:=0) [(int 1000),(int 0),(int 100),(int 10),(int 1)] S rfl rfl rfl zPR rfl rfl (Nat.le_of_ble_eq_true rfl) rfl ?_
 intro w21 S
 refine We<|Ws<|Wg<|A<|We<|Ws<|Ws<|Wg<|M<|Ns ?_
 obtain ⟨H22,hle23,hs24,_,S⟩:=S.settle (i:=0) rfl
 replace S:St w0 H0 _ H22 []:=S
 have hA25:At H22 ⟨b19,0,none⟩ [(int 1000),(int 0),(int 100),(int 10),(int 1)]:=⟨_,_,rfl,hs24,[],by simp⟩
 refine B h fun l26 hl26 h=>W.arrHi (α:=Int) hA25 (Cells.ints (xs:=([1000,0,100,10,1]:List Int))) rfl rfl Tryz.underlying236 inf3 rfl (by decide) hl26 ?_
 intro v27 R28
 refine Nq R28<|M<|We<|B h fun r43 hr44 h=>WP.cut (fun f w=>match r43 with | .inl y_38=>∃ (H37:Hp),f 5=(int y_38)∧St w0 H0 w H37 [] | .inr _=>False) ?_ ?_
 ·refine Wb ?_
  refine WP.loopM (zAk p_ppend l26) (fun s f w=>match s with | (y_31,y_35)=>∃ (H29:Hp),f 0=(str p_ppend)∧f 5=(int y_31)∧f 38=v27∧f 39=(int (l26.length:Int))∧f 40=(int y_35)∧Sl (α:=Int) H29 v27 l26∧St w0 H0 w H29 []) (0,0) r43 hr44 ?_ ?_
  ·exact ⟨H22,rfl,rfl,rfl,rfl,rfl,R28,S⟩
  intro s f w hI y40 hy41 hy42
  obtain ⟨y_31,y_35⟩:=s
  obtain ⟨H29,h30,h32,h33,h34,h36,R28,S⟩:=hI
  refine Ws<|Wg<|La' h36 h34<|We<|Ws ?_
  rcases condE hy41 with ⟨hc45,hy41⟩ | ⟨hc45,hy41⟩
  ·refine CT hc45<|Wk<|Ws<|Wb<|Ws<|Wg<|M' h36<|B hy41 fun x46 hx46 hy41=>W.idx (α:=Int) R28 h33 h36 el118 hx46 ?_
   rintro a47 _ hA48 rfl
   refine Lq S hA48<|A<|A<|We<|Ws<|Ws<|Wg<|M<|Le<|We ?_
   rcases condE hy41 with ⟨hc49,hy41⟩ | ⟨hc49,hy41⟩
   ·refine CT hc49<|Wx<|Wg<|Lg' h36 rfl<|M<|We ?_
    obtain rfl:=oi hy41
    exact ⟨rfl,⟨H29,h30,h32,h33,h34,rfl,R28,S⟩⟩
   refine CF hc49<|Wk<|Ws<|Ws<|Wg<|M' h30<|M<|B hy41 fun c50 hc50 hy41=>Ja hc50<|Ma c50 48<|M<|B hy41 fun b54 hg52 hy41=>WL.grp 5 [52,53,54,55] 56 (boo b54) ?_ ?_
   ·rcases boolE (decide (c50<48)) with hb51 | hb51
    ·replace hg52:=condT hg52 hb51
     refine Gn hb51<|Gn hb51<|Gn hb51<|Gn hb51<|Pt hb51 ?_
     exact We ⟨(congrArg boo (oi hg52)),ag,rfl⟩
    replace hg52:=condF hg52 hb51
    refine Gy hb51<|M' h30<|Gy hb51<|M<|Gy hb51<|B hg52 fun c53 hc53 hg52=>Ja hc53<|Gy hb51<|Mc c53 57<|Pf hb51 ?_
    exact We ⟨(congrArg boo (oi hg52)),ag,rfl⟩
   intro us
   refine We ?_
   rcases condE hy41 with ⟨hc55,hy41⟩ | ⟨hc55,hy41⟩
   ·refine CT hc55<|Ws<|Wg<|A<|A<|We ?_
    obtain rfl:=oi hy41
    obtain rfl:=hy42
    obtain rfl:=oi h
    refine WP.ret (Out.two rfl S rfl rfl ?_)
    exact rfl
   refine CF hc55<|Wk<|Wg<|M' h32<|M<|M' h30<|M<|B hy41 fun c56 hc56 hy41=>Ja hc56<|Mh c56 48 ?_
   refine WL.w (R.i64of8 (a:=c56 - 48) rfl Tryz.underlying5 Tryz.underlying3)<|Li<|Lg<|A<|We<|Wg<|Lg' h36 rfl<|M<|We ?_
   obtain rfl:=oi hy41
   exact ⟨rfl,⟨H29,h30,rfl,h33,h34,rfl,R28,S⟩⟩
  refine CF hc45<|Wx ?_
  obtain rfl:=oi hy41
  obtain rfl:=hy42
  exact ⟨H29,h32,S⟩
 intro f w hM
 rcases r43 with y_38 | e
 ·obtain ⟨H37,h39,S⟩:=hM
  refine Ws<|Ws<|Wg<|M' h39<|Lc<|We ?_
  rcases condE h with ⟨hc57,h⟩ | ⟨hc57,h⟩
  ·refine CT hc57<|Ws<|Wg<|A<|A<|We ?_
   obtain rfl:=oi h
   refine WP.ret (Out.two rfl S rfl rfl ?_)
   exact rfl
  refine CF hc57<|Wk<|Ws<|Wg<|M' h39<|A<|A<|We ?_
  obtain rfl:=oi h
  refine WP.ret (Out.two rfl S rfl rfl ?_)
  exact rfl
 exact hM.elim
end Go.Proofs

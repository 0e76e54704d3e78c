/- A part of the proof of laws of the seat: written by program over the translation. -/
import Derived.Test.YtipgfplekgdoiaaGreatDoorEng38
import Derived.Test.YtipgfplekgdoiaaGreatDoorEng32
import Derived.Test.YtipgfplekgdoiaaGreatDoorGenK11
namespace Go.Proofs
set_option maxHeartbeats 4000000
set_option maxRecDepth 10000
open Go.Eng Go.Eng.Pure
set_option linter.unusedVariables false
theorem zKb {w0:World} {H0:Hp} (hw:Holds w0 H0) (p_ppend:Int) (p_x1:(List GPref)) (p_x2:Bool) (p_x3:(List Str)) {vp_x1:Value} {vp_x3:Value} (Rp_x1:Sl (α:=GPref) H0 vp_x1 p_x1) (Rp_x3:Sl (α:=Str) H0 vp_x3 p_x3) {r:(List Str)} (h:zE3 p_ppend p_x1 p_x2 p_x3=some r) :
  Con Tryz.prog 118 [(int p_ppend),vp_x1,(boo p_x2),vp_x3] w0 H0 (fun H' v=>Sl (α:=Str) H' v r):=by
 refine Con.mk (N:=84) Tryz.func118 rfl rfl kr rfl ?_
 have S:=St.start hw
 refine Ws<|Wg<|A<|We<|Ws<|Wg<|A<|We<|Ws ?_
 have S:=S.addNil 9 1
 refine B h fun y_11 hr19 h=>WP.cut (fun f w=>∃ (H10:Hp) (v12:Value),f 9=v12∧Sl (α:=Str) H10 v12 y_11∧St w0 H0 w H10 [.row v12 9 1 y_11.length]) ?_ ?_
 ·refine Wb ?_
  refine WP.loopM (zCt p_ppend p_x1 p_x2 p_x3) (fun s f w=>match s with | y_6=>∃ (H1:Hp) (v7:Value),f 0=(int p_ppend)∧f 1=vp_x1∧f 2=(boo p_x2)∧f 3=vp_x3∧f 9=v7∧Sl (α:=GPref) H1 vp_x1 p_x1∧Sl (α:=Str) H1 vp_x3 p_x3∧Sl (α:=Str) H1 v7 y_6∧St w0 H0 w H1 [.row v7 9 1 y_6.length]) ([]:List Str) y_11 hr19 ?_ ?_
  ·exact ⟨H0,.slice none 0 0,rfl,rfl,rfl,rfl,rfl,Rp_x1,Rp_x3,Sl.nil,S⟩
  intro y_6 f w hI y15 hy16 hy17
  obtain ⟨H1,v7,h2,h3,h4,h5,h9,Rp_x1,Rp_x3,R8,S⟩:=hI
  refine Ws<|Ws<|Wg<|M' h9<|Nq R8<|M' h5<|Nq Rp_x3<|La<|We ?_
  rcases condE hy16 with ⟨hc20,hy16⟩ | ⟨hc20,hy16⟩
  ·refine CT hc20<|Wk<|Wb<|Ws<|Wg<|A<|We<|Ws<|Ws<|Wg<|M' h9<|Nq R8 ?_
   refine Lc<|We<|B hy16 fun y_27 hj29 hy16=>WP.cut (fun f w=>∃ (H21:Hp),f 0=(int p_ppend)∧f 1=vp_x1∧f 2=(boo p_x2)∧f 3=vp_x3∧f 9=v7∧f 10=(int y_27)∧Sl (α:=GPref) H21 vp_x1 p_x1∧Sl (α:=Str) H21 vp_x3 p_x3∧Sl (α:=Str) H21 v7 y_6∧St w0 H0 w H21 [.row v7 9 1 y_6.length]) ?_ ?_
   ·rcases condE hj29 with ⟨hc31,hj29⟩ | ⟨hc31,hj29⟩
    ·refine CT hc31<|Wg<|M' h2<|M' h3<|M' h4<|M' h9<|M' h9<|Nq R8<|Lh<|B hj29 fun x32 hx32 hj29=>W.idx (α:=Str) R8 rfl rfl el34 hx32 ?_
     rintro a33 _ hA34 rfl
     refine Lq S hA34<|B hj29 fun r35 hr35 hj29=>W.call S rfl (zEc S.holds p_ppend p_x1 p_x2 x32 Rp_x1 hr35) ?_
     rintro v36 w37 H38 hle39 S rfl
     have Rp_x1:=Sl.mono Rp_x1 hle39
     have Rp_x3:=Sl.mono Rp_x3 hle39
     have R8:=Sl.mono R8 hle39
     refine A<|We ?_
     obtain rfl:=oi hj29
     exact ⟨H38,h2,h3,h4,h5,h9,rfl,Rp_x1,Rp_x3,R8,S⟩
    refine CF hc31<|Wk ?_
    obtain rfl:=oi hj29
    exact ⟨H1,h2,h3,h4,h5,h9,rfl,Rp_x1,Rp_x3,R8,S⟩
   rintro f w ⟨H21,h22,h23,h24,h25,h26,h28,Rp_x1,Rp_x3,R8,S⟩
   refine Ws<|Wg<|A<|We<|Ws<|Ws<|Wg<|A<|We<|B hy16 fun y_57 hr63 hy16=>WP.cut (fun f w=>∃ (H51:Hp),f 0=(int p_ppend)∧f 1=vp_x1∧f 2=(boo p_x2)∧f 3=vp_x3∧f 9=v7∧f 11=(int y_57)∧Sl (α:=GPref) H51 vp_x1 p_x1∧Sl (α:=Str) H51 vp_x3 p_x3∧Sl (α:=Str) H51 v7 y_6∧St w0 H0 w H51 [.row v7 9 1 y_6.length]) ?_ ?_
   ·refine Wb ?_
    refine WP.loopM (zCu p_ppend p_x1 p_x2 p_x3 y_6 y_27) (fun s f w=>match s with | (y_47,y_49)=>∃ (H40:Hp),f 0=(int p_ppend)∧f 1=vp_x1∧f 2=(boo p_x2)∧f 3=vp_x3∧f 9=v7∧f 10=(int y_27)∧f 11=(int y_47)∧f 12=(int y_49)∧Sl (α:=GPref) H40 vp_x1 p_x1∧Sl (α:=Str) H40 vp_x3 p_x3∧Sl (α:=Str) H40 v7 y_6∧St w0 H0 w H40 [.row v7 9 1 y_6.length]) (0,0) y_57 hr63 ?_ ?_
    ·exact ⟨H21,h22,h23,h24,h25,h26,h28,rfl,rfl,Rp_x1,Rp_x3,R8,S⟩
    intro s f w hI y59 hy60 hy61
    obtain ⟨y_47,y_49⟩:=s
    obtain ⟨H40,h41,h42,h43,h44,h45,h46,h48,h50,Rp_x1,Rp_x3,R8,S⟩:=hI
    refine Ws<|Ws<|Wg<|M' h50<|M' h44<|Nq Rp_x3<|La<|We ?_
    rcases condE hy60 with ⟨hc64,hy60⟩ | ⟨hc64,hy60⟩
    ·refine CT hc64<|Wk<|Ws<|Wb<|Ws<|Wg<|M' h41<|M' h42<|M' h43<|M' h44<|M' h50<|B hy60 fun x65 hx65 hy60=>W.idx (α:=Str) Rp_x3 rfl rfl el34 hx65 ?_
     rintro a66 _ hA67 rfl
     refine Lq S hA67<|B hy60 fun r68 hr68 hy60=>W.call S rfl (zEc S.holds p_ppend p_x1 p_x2 x65 Rp_x1 hr68) ?_
     rintro v69 w70 H71 hle72 S rfl
     have Rp_x1:=Sl.mono Rp_x1 hle72
     have Rp_x3:=Sl.mono Rp_x3 hle72
     have R8:=Sl.mono R8 hle72
     refine A<|We<|Ws<|Wg<|M' h45<|Nq R8<|Le<|M ?_
     refine WL.grp 4 [51,52,53] 54 (boo (((y_6.length:Int)==0)||(decide (r68<y_27)))) ?_ ?_
     ·rcases boolE ((y_6.length:Int)==0) with hb73 | hb73
      ·refine Gn hb73<|Gn hb73<|Gn hb73<|Pt hb73 ?_
       exact We ⟨(orT hb73),ag,rfl⟩
      refine Gy hb73<|M<|Gy hb73<|M' h46<|Gy hb73<|La<|Pf hb73 ?_
      exact We ⟨(orF hb73),ag,rfl⟩
     intro us
     refine We ?_
     rcases condE hy60 with ⟨hc75,hy60⟩ | ⟨hc75,hy60⟩
     ·refine CT hc75<|Wg<|M' h48<|M<|Nj<|A<|We<|Wg<|M' h50<|Lg<|A<|We ?_
      obtain rfl:=oi hy60
      exact ⟨rfl,⟨H71,h41,h42,h43,h44,h45,h46,rfl,rfl,Rp_x1,Rp_x3,R8,S⟩⟩
     refine CF hc75<|Wk<|Wg<|M' h50<|Lg<|A<|We ?_
     obtain rfl:=oi hy60
     exact ⟨rfl,⟨H71,h41,h42,h43,h44,h45,h46,h48,rfl,Rp_x1,Rp_x3,R8,S⟩⟩
    refine CF hc64<|Wx ?_
    obtain rfl:=oi hy60
    obtain rfl:=hy61
    exact ⟨H40,h41,h42,h43,h44,h45,h48,Rp_x1,Rp_x3,R8,S⟩
   rintro f w ⟨H51,h52,h53,h54,h55,h56,h58,Rp_x1,Rp_x3,R8,S⟩
   refine Ws<|Ws<|Wg<|M' h58<|Lb<|We ?_
   rcases condE hy16 with ⟨hc76,hy16⟩ | ⟨hc76,hy16⟩
   ·refine CT hc76<|Wx ?_
    obtain rfl:=oi hy16
    obtain rfl:=hy17
    exact ⟨H51,v7,h56,R8,S⟩
   refine CF hc76<|Wk<|Ws<|Wg<|A<|We<|B hy16 fun y_94 hr102 hy16=>WP.cut (fun f w=>∃ (H89:Hp) (v95:Value),f 0=(int p_ppend)∧f 1=vp_x1∧f 2=(boo p_x2)∧f 3=vp_x3∧f 9=v95∧Sl (α:=GPref) H89 vp_x1 p_x1∧Sl (α:=Str) H89 vp_x3 p_x3∧Sl (α:=Str) H89 v95 y_94∧St w0 H0 w H89 [.row v95 9 1 y_94.length]) ?_ ?_
   ·refine Wb ?_
    refine WP.loopM (zC5 p_ppend p_x1 p_x2 p_x3 y_57) (fun s f w=>match s with | (y_82,y_87)=>∃ (H77:Hp) (v83:Value),f 0=(int p_ppend)∧f 1=vp_x1∧f 2=(boo p_x2)∧f 3=vp_x3∧f 9=v83∧f 11=(int y_57)∧f 14=(int y_87)∧Sl (α:=GPref) H77 vp_x1 p_x1∧Sl (α:=Str) H77 vp_x3 p_x3∧Sl (α:=Str) H77 v83 y_82∧St w0 H0 w H77 [.row v83 9 1 y_82.length]) (y_6,0) y_94 hr102 ?_ ?_
    ·exact ⟨H51,v7,h52,h53,h54,h55,h56,h58,rfl,Rp_x1,Rp_x3,R8,S⟩
    intro s f w hI y98 hy99 hy100
    obtain ⟨y_82,y_87⟩:=s
    obtain ⟨H77,v83,h78,h79,h80,h81,h85,h86,h88,Rp_x1,Rp_x3,R84,S⟩:=hI
    refine Ws<|Ws<|Wg<|M' h88<|M' h81<|Nq Rp_x3<|La<|We ?_
    rcases condE hy99 with ⟨hc103,hy99⟩ | ⟨hc103,hy99⟩
    ·refine CT hc103<|Wk<|Ws<|Wb<|Ws<|Wg<|M' h78<|M' h79<|M' h80<|M' h81<|M' h88<|B hy99 fun x104 hx104 hy99=>W.idx (α:=Str) Rp_x3 rfl rfl el34 hx104 ?_
     rintro a105 _ hA106 rfl
     refine Lq S hA106<|B hy99 fun r107 hr107 hy99=>W.call S rfl (zEc S.holds p_ppend p_x1 p_x2 x104 Rp_x1 hr107) ?_
     rintro v108 w109 H110 hle111 S rfl
     have Rp_x1:=Sl.mono Rp_x1 hle111
     have Rp_x3:=Sl.mono Rp_x3 hle111
     have R84:=Sl.mono R84 hle111
     refine M' h86<|Le<|We ?_
     rcases condE hy99 with ⟨hc112,hy99⟩ | ⟨hc112,hy99⟩
     ·refine CT hc112<|Wg<|M' h85<|M' h81<|M' h88<|B hy99 fun x113 hx113 hy99=>W.idx (α:=Str) Rp_x3 rfl rfl el34 hx113 ?_
      rintro a114 _ hA115 rfl
      refine Lq S hA115<|W.bslice (α:=Str) [(str x113)] ([x113]:List Str) S el34 rfl rfl rfl (by decide) (Go.Eng.encS ⟨rfl,rfl⟩ enc0) ?_
      intro u116 w117 H118 hle119 R120 S
      have Rp_x1:=Sl.mono Rp_x1 hle119
      have Rp_x3:=Sl.mono Rp_x3 hle119
      have R84:=Sl.mono R84 hle119
      refine B hy99 fun l121 hl121 hy99=>W.app (α:=Str) (i:=1) S el34 rfl rfl rfl R84 R120 hl121 ?_
      intro v122 w123 H124 hle125 R126 S
      have Rp_x1:=Sl.mono Rp_x1 hle125
      have Rp_x3:=Sl.mono Rp_x3 hle125
      have R84:=Sl.mono R84 hle125
      refine A<|We<|Wg<|M' h88<|Lg<|A<|We ?_
      obtain rfl:=oi hy99
      exact ⟨rfl,⟨H124,v122,h78,h79,h80,h81,rfl,h86,rfl,Rp_x1,Rp_x3,R126,(S.drop _ (.cons _ (.cons_cons _ .slnil)))⟩⟩
     refine CF hc112<|Wk<|Wg<|M' h88<|Lg<|A<|We ?_
     obtain rfl:=oi hy99
     exact ⟨rfl,⟨H110,v83,h78,h79,h80,h81,h85,h86,rfl,Rp_x1,Rp_x3,R84,S⟩⟩
    refine CF hc103<|Wx ?_
    obtain rfl:=oi hy99
    obtain rfl:=hy100
    exact ⟨H77,v83,h78,h79,h80,h81,h85,Rp_x1,Rp_x3,R84,S⟩
   rintro f w ⟨H89,v95,h90,h91,h92,h93,h97,Rp_x1,Rp_x3,R96,S⟩
   obtain rfl:=oi hy16
   exact ⟨rfl,⟨H89,v95,h90,h91,h92,h93,h97,Rp_x1,Rp_x3,R96,S⟩⟩
  refine CF hc20<|Wx ?_
  obtain rfl:=oi hy16
  obtain rfl:=hy17
  exact ⟨H1,v7,h9,R8,S⟩
 rintro f w ⟨H10,v12,h14,R13,S⟩
 refine Ws<|Wg<|M' h14<|A<|We ?_
 obtain rfl:=oi h
 refine WP.ret (Out.one rfl S rfl ?_)
 exact R13
theorem zGS {w0:World} {H0:Hp} (hw:Holds w0 H0) (p_members:(List Str)) {vp_members:Value} (Rp_members:Sl (α:=Str) H0 vp_members p_members) {r:Str} (h:zD9 p_members=some r) :
  Con Tryz.prog 116 [vp_members] w0 H0 (fun H' v=>v=(str r)):=by
 refine Con.mk (N:=22) Tryz.func116 rfl rfl kr rfl ?_
 have S:=St.start hw
 refine Ws<|Wg<|A<|We<|Ws<|Wg<|A<|We<|Ws<|Ws<|Wg<|A ?_
 refine We<|B h fun s_8 hr14 h=>WP.cut (fun f w=>∃ (H7:Hp),f 3=(str s_8)∧St w0 H0 w H7 []) ?_ ?_
 ·refine Wb ?_
  refine WP.loopM (zDr p_members) (fun s f w=>match s with | (s_3,i_5)=>∃ (H1:Hp),f 0=vp_members∧f 3=(str s_3)∧f 4=(int i_5)∧Sl (α:=Str) H1 vp_members p_members∧St w0 H0 w H1 []) ([],0) s_8 hr14 ?_ ?_
  ·exact ⟨H0,rfl,rfl,rfl,Rp_members,S⟩
  intro s f w hI y10 hy11 hy12
  obtain ⟨s_3,i_5⟩:=s
  obtain ⟨H1,h2,h4,h6,Rp_members,S⟩:=hI
  refine Ws<|Ws<|Wg<|M' h6<|M' h2<|Nq Rp_members<|La<|We ?_
  rcases condE hy11 with ⟨hc15,hy11⟩ | ⟨hc15,hy11⟩
  ·refine CT hc15<|Wk<|Ws<|Wb<|Ws<|Ws<|Wg<|M' h6<|Lc<|We<|B hy11 fun s_18 hj21 hy11=>WP.cut (fun f w=>∃ (H16:Hp),f 0=vp_members∧f 3=(str s_18)∧f 4=(int i_5)∧Sl (α:=Str) H16 vp_members p_members∧St w0 H0 w H16 []) ?_ ?_
   ·rcases condE hj21 with ⟨hc23,hj21⟩ | ⟨hc23,hj21⟩
    ·refine CT hc23<|Wg<|M' h4<|B hj21 fun s24 hs24 hj21=>Je hs24<|A<|We ?_
     obtain rfl:=oi hj21
     exact ⟨H1,h2,rfl,h6,Rp_members,S⟩
    refine CF hc23<|Wk ?_
    obtain rfl:=oi hj21
    exact ⟨H1,h2,h4,h6,Rp_members,S⟩
   rintro f w ⟨H16,h17,h19,h20,Rp_members,S⟩
   refine Wg<|M' h19<|M' h17<|M' h20<|B hy11 fun x25 hx25 hy11=>W.idx (α:=Str) Rp_members rfl rfl el34 hx25 ?_
   rintro a26 _ hA27 rfl
   refine Lq S hA27<|B hy11 fun s28 hs28 hy11=>Je hs28<|A<|We<|Wg<|M' h20<|Lg<|A<|We ?_
   obtain rfl:=oi hy11
   exact ⟨rfl,⟨H16,h17,rfl,rfl,Rp_members,S⟩⟩
  refine CF hc15<|Wx ?_
  obtain rfl:=oi hy11
  obtain rfl:=hy12
  exact ⟨H1,h4,S⟩
 rintro f w ⟨H7,h9,S⟩
 refine Ws<|Wg<|M' h9<|A<|We ?_
 obtain rfl:=oi h
 refine WP.ret (Out.one rfl S rfl ?_)
 exact rfl
theorem zJX {w0:World} {H0:Hp} (hw:Holds w0 H0) (p_ppend:GAxis) (p_x1:(List GField)) (p_x2:Bool) {vp_ppend1:Value} {vp_x1:Value} (Rp_ppend1:Sl (α:=Str) H0 vp_ppend1 p_ppend.fValues) (Rp_x1:Sl (α:=GField) H0 vp_x1 p_x1) {r:(List Str)} (h:zFc p_ppend p_x1 p_x2=some r) :
  Con Tryz.prog 88 [(agg [(str p_ppend.fName),vp_ppend1]),vp_x1,(boo p_x2)] w0 H0 (fun H' v=>Sl (α:=Str) H' v r):=by
 refine Con.mk (N:=69) Tryz.func88 rfl rfl kr rfl ?_
 have S:=St.start hw
 refine Ws<|Wg ?_
 refine W.box [(str p_ppend.fName),vp_ppend1] S rfl rfl ?_
 intro b1 w2 S
 refine A<|We<|Ws<|Ws<|Wg ?_
 refine WL.w (R.loadBN (i:=0) (vs:=[(str p_ppend.fName),vp_ppend1]) S rfl rfl lay68 rfl rfl)<|B h fun r3 hr3 h=>W.call S rfl (zFX S.holds p_ppend Rp_ppend1 hr3) ?_
 rintro v4 w5 H6 hle7 S rfl
 have Rp_ppend1:=Sl.mono Rp_ppend1 hle7
 have Rp_x1:=Sl.mono Rp_x1 hle7
 refine No<|We ?_
 rcases condE h with ⟨hc8,h⟩ | ⟨hc8,h⟩
 ·refine CT hc8<|Ws<|Wg<|A<|We ?_
  obtain rfl:=oi h
  refine WP.ret (Out.one rfl S rfl ?_)
  exact Sl.nil
 refine CF hc8<|Wk<|Ws<|Wg<|A<|We<|Ws<|Ws<|Wg<|Fb ?_
 refine Lo 0 S<|B h fun r9 hr9 h=>W.call S rfl (zEx S.holds p_ppend.fName hr9) ?_
 rintro v10 w11 H12 hle13 S rfl
 have Rp_ppend1:=Sl.mono Rp_ppend1 hle13
 have Rp_x1:=Sl.mono Rp_x1 hle13
 refine A<|We<|Ws<|Wg<|M<|Lf<|We ?_
 have S:=S.addNil 9 1
 refine B h fun y_17 hj21 h=>WP.cut (fun f w=>∃ (H14:Hp) (v18:Value),f 2=(boo p_x2)∧f 3=(ptr b1 0)∧f 7=v18∧Sl (α:=Str) H14 v18 y_17∧Sl (α:=Str) H14 vp_ppend1 p_ppend.fValues∧St w0 H0 w H14 [.box b1 68 [(str p_ppend.fName),vp_ppend1]]) ?_ ?_
 ·rcases condE hj21 with ⟨hc23,hj21⟩ | ⟨hc23,hj21⟩
  ·refine CT hc23<|Ws<|Wg<|M<|M<|B hj21 fun r24 hr24 hj21=>W.call S rfl (zJk S.holds r9 p_x1 Rp_x1 hr24) ?_
   rintro v25 w26 H27 hle28 S ⟨u29,rfl,R30⟩
   have Rp_ppend1:=Sl.mono Rp_ppend1 hle28
   have Rp_x1:=Sl.mono Rp_x1 hle28
   refine M ?_
   refine Ex ?_
   refine Ex<|A<|A<|We<|Wg<|M<|M<|M<|Fb ?_
   refine Lo 1 S<|B hj21 fun r31 hr31 hj21=>W.call S rfl (zKb S.holds r9 r24.1 r24.2 p_ppend.fValues R30 Rp_ppend1 hr31) ?_
   rintro v32 w33 H34 hle35 S R36
   have Rp_ppend1:=Sl.mono Rp_ppend1 hle35
   have Rp_x1:=Sl.mono Rp_x1 hle35
   refine A<|We ?_
   obtain rfl:=oi hj21
   exact ⟨H34,v32,rfl,rfl,rfl,R36,Rp_ppend1,(S.drop _ (.cons _ (.cons_cons _ .slnil)))⟩
  refine CF hc23<|Ws<|Wg<|M<|Fb ?_
  refine Lo 1 S<|B hj21 fun r37 hr37 hj21=>W.call S rfl (zGj S.holds p_x1 p_ppend.fName Rp_x1 hr37) ?_
  rintro v38 w39 H40 hle41 S R42
  have Rp_ppend1:=Sl.mono Rp_ppend1 hle41
  refine B hj21 fun r43 hr43 hj21=>W.call S rfl (zGS S.holds r37 R42 hr43) ?_
  rintro v44 w45 H46 hle47 S rfl
  have Rp_ppend1:=Sl.mono Rp_ppend1 hle47
  refine A<|We<|Ws<|Wg<|A<|We<|B hj21 fun y_61 hr69 hj21=>WP.cut (fun f w=>∃ (H58:Hp) (v62:Value),f 2=(boo p_x2)∧f 3=(ptr b1 0)∧f 7=v62∧Sl (α:=Str) H58 v62 y_61∧Sl (α:=Str) H58 vp_ppend1 p_ppend.fValues∧St w0 H0 w H58 [.row v62 9 1 y_61.length,.box b1 68 [(str p_ppend.fName),vp_ppend1]]) ?_ ?_
  ·refine Wb ?_
   refine WP.loopM (zB5 p_ppend r43) (fun s f w=>match s with | (y_51,y_56)=>∃ (H48:Hp) (v52:Value),f 2=(boo p_x2)∧f 3=(ptr b1 0)∧f 7=v52∧f 11=(str r43)∧f 12=(int y_56)∧Sl (α:=Str) H48 v52 y_51∧Sl (α:=Str) H48 vp_ppend1 p_ppend.fValues∧St w0 H0 w H48 [.row v52 9 1 y_51.length,.box b1 68 [(str p_ppend.fName),vp_ppend1]]) (([]:List Str),0) y_61 hr69 ?_ ?_
   ·exact ⟨H46,.slice none 0 0,rfl,rfl,rfl,rfl,rfl,Sl.nil,Rp_ppend1,S⟩
   intro s f w hI y65 hy66 hy67
   obtain ⟨y_51,y_56⟩:=s
   obtain ⟨H48,v52,h49,h50,h54,h55,h57,R53,Rp_ppend1,S⟩:=hI
   refine Ws<|Ws<|Wg<|M' h57<|Fb' h50 ?_
   refine Lo 1 S<|Nq Rp_ppend1<|La<|We ?_
   rcases condE hy66 with ⟨hc70,hy66⟩ | ⟨hc70,hy66⟩
   ·refine CT hc70<|Wk<|Ws<|Wb<|Ws<|Wg<|Fb' h50 ?_
    refine Lo 1 S<|M' h57<|B hy66 fun x71 hx71 hy66=>W.idx (α:=Str) Rp_ppend1 rfl rfl el34 hx71 ?_
    rintro a72 _ hA73 rfl
    refine Lq S hA73<|M' h55<|Na<|We ?_
    rcases condE hy66 with ⟨hc74,hy66⟩ | ⟨hc74,hy66⟩
    ·refine CT hc74<|Wg<|M' h54<|M' h55<|W.bslice (α:=Str) [(str r43)] ([r43]:List Str) S el34 rfl rfl rfl (by decide) (Go.Eng.encS ⟨rfl,rfl⟩ enc0) ?_
     intro u75 w76 H77 hle78 R79 S
     have R53:=Sl.mono R53 hle78
     have Rp_ppend1:=Sl.mono Rp_ppend1 hle78
     refine B hy66 fun l80 hl80 hy66=>W.app (α:=Str) (i:=1) S el34 rfl rfl rfl R53 R79 hl80 ?_
     intro v81 w82 H83 hle84 R85 S
     have R53:=Sl.mono R53 hle84
     have Rp_ppend1:=Sl.mono Rp_ppend1 hle84
     refine A<|We<|Wg<|M' h57<|Lg<|A<|We ?_
     obtain rfl:=oi hy66
     exact ⟨rfl,⟨H83,v81,h49,h50,rfl,h55,rfl,R85,Rp_ppend1,(S.drop _ (.cons _ (.cons_cons _ (.cons_cons _ .slnil))))⟩⟩
    refine CF hc74<|Wk<|Wg<|M' h57<|Lg<|A<|We ?_
    obtain rfl:=oi hy66
    exact ⟨rfl,⟨H48,v52,h49,h50,h54,h55,rfl,R53,Rp_ppend1,S⟩⟩
   refine CF hc70<|Wx ?_
   obtain rfl:=oi hy66
   obtain rfl:=hy67
   exact ⟨H48,v52,h49,h50,h54,R53,Rp_ppend1,S⟩
  rintro f w ⟨H58,v62,h59,h60,h64,R63,Rp_ppend1,S⟩
  obtain rfl:=oi hj21
  exact ⟨H58,v62,h59,h60,h64,R63,Rp_ppend1,(S.drop _ (.cons _ (.cons_cons _ .slnil)))⟩
 rintro f w ⟨H14,v18,h15,h16,h20,R19,Rp_ppend1,S⟩
 refine Ws<|Ws<|Wg<|M' h20<|Nq R19<|Le<|M ?_
 refine WL.grp 3 [60,61] 62 (boo (((y_17.length:Int)==0)&&(!p_x2))) ?_ ?_
 ·rcases boolE ((y_17.length:Int)==0) with hb86 | hb86
  ·refine Gy hb86<|M' h15<|Gy hb86<|No<|Pt hb86 ?_
   exact We ⟨(andT hb86),ag,rfl⟩
  refine Gn hb86<|Gn hb86<|Pf hb86 ?_
  exact We ⟨(andF hb86),ag,rfl⟩
 intro us
 refine We<|B h fun y_89 hj93 h=>WP.cut (fun f w=>∃ (H88:Hp) (v90:Value),f 7=v90∧Sl (α:=Str) H88 v90 y_89∧St w0 H0 w H88 []) ?_ ?_
 ·rcases condE hj93 with ⟨hc95,hj93⟩ | ⟨hc95,hj93⟩
  ·refine CT hc95<|Wg<|Fb' h16 ?_
   refine Lo 0 S<|B hj93 fun x96 hx96 hj93=>W.idx (α:=Str) Rp_ppend1 rfl rfl el34 hx96 ?_
   rintro a97 _ hA98 rfl
   refine Lq S hA98<|W.bslice (α:=Str) [(str x96)] ([x96]:List Str) S el34 rfl rfl rfl (by decide) (Go.Eng.encS ⟨rfl,rfl⟩ enc0) ?_
   intro u99 w100 H101 hle102 R103 S
   have R19:=Sl.mono R19 hle102
   refine A<|We ?_
   obtain rfl:=oi hj93
   exact ⟨H101,u99,rfl,R103,(S.drop _ (.cons _ (.cons _ .slnil)))⟩
  refine CF hc95<|Wk ?_
  obtain rfl:=oi hj93
  exact ⟨H14,v18,h20,R19,(S.drop _ (.cons _ .slnil))⟩
 rintro f w ⟨H88,v90,h92,R91,S⟩
 refine Ws<|Wg<|M' h92<|A<|We ?_
 obtain rfl:=oi h
 refine WP.ret (Out.one rfl S rfl ?_)
 exact R91
end Go.Proofs

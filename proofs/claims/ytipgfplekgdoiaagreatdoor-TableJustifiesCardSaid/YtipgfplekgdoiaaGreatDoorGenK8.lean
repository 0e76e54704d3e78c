/- A part of the proof of laws of the seat: written by program over the translation. -/
import Derived.Test.YtipgfplekgdoiaaGreatDoorEng38
import Derived.Test.YtipgfplekgdoiaaGreatDoorEng32
import Derived.Test.YtipgfplekgdoiaaGreatDoorGenK7
namespace Go.Proofs
set_option maxHeartbeats 4000000
set_option maxRecDepth 10000
open Go.Eng Go.Eng.Pure
set_option linter.unusedVariables false
theorem zBU {w0:World} {H0:Hp} (hw:Holds w0 H0) (p_s:Str) {r:Str} (h:zBN p_s=some r) :
  Con Tryz.prog 115 [(str p_s)] w0 H0 (fun H' v=>v=(str r)):=by
 refine Con.mk (N:=33) Tryz.func115 rfl rfl kr rfl ?_
 have S:=St.start hw
 refine Ws<|Wg<|A<|We<|Ws<|Wg<|M<|W.bytes (s:=p_s) S rfl Tryz.underlying9 Tryz.underlying128 Tryz.underlying5 ?_
 intro b1 c2 w3 hc2 S
 refine A<|We<|Ws<|Ws<|Wg<|A<|We<|B h fun m12 hr18 h=>WP.cut (fun f w=>∃ (H10:Hp),f 3=(.slice (some ⟨b1,0,none⟩) p_s.length c2)∧m12.length=p_s.length∧St w0 H0 w H10 [.box b1 5 (m12.map byt)]) ?_ ?_
 ·refine Wb ?_
  refine WP.loopM (zDE p_s) (fun s f w=>match s with | (i_6,m8)=>∃ (H4:Hp),f 3=(.slice (some ⟨b1,0,none⟩) p_s.length c2)∧f 4=(int i_6)∧m8.length=p_s.length∧St w0 H0 w H4 [.box b1 5 (m8.map byt)]) (0,p_s) m12 hr18 ?_ ?_
  ·exact ⟨H0,rfl,rfl,rfl,S⟩
  intro s f w hI y14 hy15 hy16
  obtain ⟨i_6,m8⟩:=s
  obtain ⟨H4,h5,h7,hL9,S⟩:=hI
  refine Ws<|Ws<|Wg<|M' h7<|M' h5<|Nv<|La<|We ?_
  rcases condE hy15 with ⟨hc19,hy15⟩ | ⟨hc19,hy15⟩
  ·refine CT hc19<|Wk<|Ws<|Wb<|Ws<|Wg<|M' h5<|M' h7<|B hy15 fun c20 hc20 hy15=>?_
   have hq21:=(zAm hc20).2
   refine WL.w (R.idxB rfl rfl el128 (by have:=(zAm hc20).2; have hl:m8.length=p_s.length:=hL9; omega))<|B hy15 fun c22 hc22 hy15=>?_
   refine WL.w (R.loadB (i:=0) S rfl rfl lay5 (zAm hc22).1)<|Md c22 65<|M<|B hy15 fun b28 hg24 hy15=>WL.grp 6 [19,20,21,22,23] 24 (boo b28) ?_ ?_
   ·rcases boolE (decide (65≤c22)) with hb23 | hb23
    ·replace hg24:=condT hg24 hb23
     refine Gy hb23<|M' h5<|Gy hb23<|M' h7<|Gy hb23<|B hg24 fun c25 hc25 hg24=>?_
     have hq26:=(zAm hc25).2
     refine WL.w (R.idxB rfl rfl el128 (by have:=(zAm hc25).2; have hl:m8.length=p_s.length:=hL9; omega))<|Gy hb23<|B hg24 fun c27 hc27 hg24=>?_
     refine WL.w (R.loadB (i:=0) S rfl rfl lay5 (zAm hc27).1)<|Gy hb23<|Mb c27 90<|Pt hb23 ?_
     exact We ⟨(congrArg boo (oi hg24)),ag,rfl⟩
    replace hg24:=condF hg24 hb23
    refine Gn hb23<|Gn hb23<|Gn hb23<|Gn hb23<|Gn hb23<|Pf hb23 ?_
    exact We ⟨(congrArg boo (oi hg24)),ag,rfl⟩
   intro us
   refine We ?_
   rcases condE hy15 with ⟨hc29,hy15⟩ | ⟨hc29,hy15⟩
   ·refine CT hc29<|Wg<|M' h5<|M' h7<|B hy15 fun c30 hc30 hy15=>?_
    have hq31:=(zAm hc30).2
    refine WL.w (R.idxB rfl rfl el128 (by have:=(zAm hc30).2; have hl:m8.length=p_s.length:=hL9; omega))<|B hy15 fun c32 hc32 hy15=>?_
    refine WL.w (R.loadB (i:=0) S rfl rfl lay5 (zAm hc32).1)<|Mg c32 32<|B hy15 fun c33 hc33 hy15=>?_
    have hq34:=(zAm hc33).2
    refine WL.w (R.idxB rfl rfl el128 (by have:=(zAm hc33).2; have hl:m8.length=p_s.length:=hL9; omega)) ?_
    refine W.store (i:=0) ((m8.set i_6.toNat (c32+32)).map byt) S rfl rfl rfl lay5 rfl rfl (by rw [List.length_map]; omega) (zJv _ _ _ (by omega)) ?_
    intro w35 S
    refine We<|Wg<|M' h7<|Lg<|A<|We ?_
    obtain rfl:=oi hy15
    exact ⟨rfl,⟨H4,h5,rfl,(List.length_set.trans hL9),S⟩⟩
   refine CF hc29<|Wk<|Wg<|M' h7<|Lg<|A<|We ?_
   obtain rfl:=oi hy15
   exact ⟨rfl,⟨H4,h5,rfl,hL9,S⟩⟩
  refine CF hc19<|Wx ?_
  obtain rfl:=oi hy15
  obtain rfl:=hy16
  exact ⟨H4,h5,hL9,S⟩
 rintro f w ⟨H10,h11,hL13,S⟩
 refine Ws<|Wg<|M' h11 ?_
 refine WL.w (R.strB (i:=0) (s:=m12) S (by rw [show m12.length=p_s.length from hL13]; exact rfl) rfl Tryz.underlying128 Tryz.underlying9 Tryz.underlying5)<|A<|We ?_
 obtain rfl:=oi h
 refine WP.ret (Out.one rfl S rfl ?_)
 exact rfl
theorem zB8 {w0:World} {H0:Hp} (hw:Holds w0 H0) (p_kind:Int) {r:Str} (h:zBW p_kind=some r) :
  Con Tryz.prog 119 [(int p_kind)] w0 H0 (fun H' v=>v=(str r)):=by
 refine Con.mk (N:=12) Tryz.func119 rfl rfl kr rfl ?_
 have S:=St.start hw
 refine Ws<|Wg<|A<|We<|Ws<|Ws<|Wg<|M<|We<|Wb<|Ws<|Wg ?_
 refine Le<|A<|We ?_
 rcases condE h with ⟨hc1,h⟩ | ⟨hc1,h⟩
 ·refine CT hc1<|Ws<|Wg<|A<|We ?_
  obtain rfl:=oi h
  refine WP.ret (Out.one rfl S rfl ?_)
  exact rfl
 refine CF hc1<|Ws<|Wg<|Le<|A<|We ?_
 rcases condE h with ⟨hc2,h⟩ | ⟨hc2,h⟩
 ·refine CT hc2<|Ws<|Wg<|A<|We ?_
  obtain rfl:=oi h
  refine WP.ret (Out.one rfl S rfl ?_)
  exact rfl
 refine CF hc2<|Ws<|Wg<|Le<|A<|We ?_
 rcases condE h with ⟨hc3,h⟩ | ⟨hc3,h⟩
 ·refine CT hc3<|Ws<|Wg<|A<|We ?_
  obtain rfl:=oi h
  refine WP.ret (Out.one rfl S rfl ?_)
  exact rfl
 refine CF hc3<|Ws<|Wg<|Le<|A<|We ?_
 rcases condE h with ⟨hc4,h⟩ | ⟨hc4,h⟩
 ·refine CT hc4<|Ws<|Wg<|A<|We ?_
  obtain rfl:=oi h
  refine WP.ret (Out.one rfl S rfl ?_)
  exact rfl
 refine CF hc4<|Wk<|Ws<|Wg<|A<|We ?_
 obtain rfl:=oi h
 refine WP.ret (Out.one rfl S rfl ?_)
 exact rfl
theorem zBS {w0:World} {H0:Hp} (hw:Holds w0 H0) (p_a:Str) (p_b:Str) {r:Bool} (h:zBi p_a p_b=some r) :
  Con Tryz.prog 90 [(str p_a),(str p_b)] w0 H0 (fun H' v=>v=(boo r)):=by
 refine Con.mk (N:=17) Tryz.func90 rfl rfl kr rfl ?_
 have S:=St.start hw
 refine Ws<|Wg<|A<|We<|Ws<|Wg<|M<|Ns<|M<|Ns<|Le<|M<|B h fun b13 hg2 h=>WL.grpw 6 [11,12,13,14,15] 16 (boo b13) (fun w=>∃ H':Hp,H0.le H'∧St w0 H0 w H' []) ?_ ?_
 ·rcases boolE ((p_a.length:Int)==(p_b.length:Int)) with hb1 | hb1
  ·replace hg2:=condT hg2 hb1
   refine Gy hb1<|M<|Gy hb1<|B hg2 fun r3 hr3 hg2=>W.call S rfl (zBU S.holds p_a hr3) ?_
   rintro v4 w5 H6 hle7 S rfl
   refine Gy hb1<|M<|Gy hb1<|B hg2 fun r8 hr8 hg2=>W.call S rfl (zBU S.holds p_b hr8) ?_
   rintro v9 w10 H11 hle12 S rfl
   refine Gy hb1<|Na<|Pt hb1 ?_
   exact We ⟨(congrArg boo (oi hg2)),ag,⟨H11,(hle7.trans hle12),S⟩⟩
  replace hg2:=condF hg2 hb1
  refine Gn hb1<|Gn hb1<|Gn hb1<|Gn hb1<|Gn hb1<|Pf hb1 ?_
  exact We ⟨(congrArg boo (oi hg2)),ag,⟨H0,(Hp.le.refl _),S⟩⟩
 intro us w15 ⟨H14,hle16,S⟩
 refine A<|We ?_
 obtain rfl:=oi h
 refine WP.ret (Out.one rfl S rfl ?_)
 exact rfl
theorem zEx {w0:World} {H0:Hp} (hw:Holds w0 H0) (p_name:Str) {r:Int} (h:zD5 p_name=some r) :
  Con Tryz.prog 89 [(str p_name)] w0 H0 (fun H' v=>v=(int r)):=by
 refine Con.mk (N:=13) Tryz.func89 rfl rfl kr rfl ?_
 have S:=St.start hw
 refine Ws<|Wg<|A<|We<|Ws<|Ws<|Wg<|A<|We<|Wb<|WP.loopRd 5<|RD.succ ?_
 refine Ws<|Ws<|Wg<|M ?_
 refine WL.w (v:=boo true) (R.ofEq (R.leq rfl rfl) rfl)<|We<|WP.condT (b:=true) rfl rfl<|Wk<|Ws<|Wb<|Ws<|Wg ?_
 refine M<|M<|B h fun r1 hr1 h=>W.call S rfl (zB8 S.holds 1 hr1) ?_
 rintro v2 w3 H4 hle5 S rfl
 refine B h fun r6 hr6 h=>W.call S rfl (zBS S.holds p_name r1 hr6) ?_
 rintro v7 w8 H9 hle10 S rfl
 refine We ?_
 rcases condE h with ⟨hc11,h⟩ | ⟨hc11,h⟩
 ·refine CT hc11<|Ws<|Wg<|M<|A<|We ?_
  obtain rfl:=oi h
  refine WP.ret (Out.one rfl S rfl ?_)
  exact rfl
 refine CF hc11<|Wk<|Wg<|M ?_
 refine WL.w (v:=int 2) (R.ofEq (R.add rfl rfl) rfl)<|A<|We<|RD.succ<|Ws<|Ws<|Wg<|M ?_
 refine WL.w (v:=boo true) (R.ofEq (R.leq rfl rfl) rfl)<|We<|WP.condT (b:=true) rfl rfl<|Wk<|Ws<|Wb<|Ws<|Wg<|M<|M<|B h fun r12 hr12 h=>W.call S rfl (zB8 S.holds 2 hr12) ?_
 rintro v13 w14 H15 hle16 S rfl
 refine B h fun r17 hr17 h=>W.call S rfl (zBS S.holds p_name r12 hr17) ?_
 rintro v18 w19 H20 hle21 S rfl
 refine We ?_
 rcases condE h with ⟨hc22,h⟩ | ⟨hc22,h⟩
 ·refine CT hc22<|Ws<|Wg<|M<|A<|We ?_
  obtain rfl:=oi h
  refine WP.ret (Out.one rfl S rfl ?_)
  exact rfl
 refine CF hc22<|Wk<|Wg<|M ?_
 refine WL.w (v:=int 3) (R.ofEq (R.add rfl rfl) rfl)<|A<|We<|RD.succ<|Ws<|Ws<|Wg<|M ?_
 refine WL.w (v:=boo true) (R.ofEq (R.leq rfl rfl) rfl)<|We<|WP.condT (b:=true) rfl rfl<|Wk<|Ws<|Wb<|Ws<|Wg<|M<|M<|B h fun r23 hr23 h=>W.call S rfl (zB8 S.holds 3 hr23) ?_
 rintro v24 w25 H26 hle27 S rfl
 refine B h fun r28 hr28 h=>W.call S rfl (zBS S.holds p_name r23 hr28) ?_
 rintro v29 w30 H31 hle32 S rfl
 refine We ?_
 rcases condE h with ⟨hc33,h⟩ | ⟨hc33,h⟩
 ·refine CT hc33<|Ws<|Wg<|M<|A<|We ?_
  obtain rfl:=oi h
  refine WP.ret (Out.one rfl S rfl ?_)
  exact rfl
 refine CF hc33<|Wk<|Wg<|M ?_
 refine WL.w (v:=int 4) (R.ofEq (R.add rfl rfl) rfl)<|A<|We<|RD.succ<|Ws<|Ws<|Wg<|M ?_
 refine WL.w (v:=boo true) (R.ofEq (R.leq rfl rfl) rfl)<|We<|WP.condT (b:=true) rfl rfl<|Wk<|Ws<|Wb<|Ws<|Wg<|M<|M<|B h fun r34 hr34 h=>W.call S rfl (zB8 S.holds 4 hr34) ?_
 rintro v35 w36 H37 hle38 S rfl
 refine B h fun r39 hr39 h=>W.call S rfl (zBS S.holds p_name r34 hr39) ?_
 rintro v40 w41 H42 hle43 S rfl
 refine We ?_
 rcases condE h with ⟨hc44,h⟩ | ⟨hc44,h⟩
 ·refine CT hc44<|Ws<|Wg<|M<|A<|We ?_
  obtain rfl:=oi h
  refine WP.ret (Out.one rfl S rfl ?_)
  exact rfl
 refine CF hc44<|Wk<|Wg<|M ?_
 refine WL.w (v:=int 5) (R.ofEq (R.add rfl rfl) rfl)<|A<|We<|RD.succ<|Ws<|Ws<|Wg<|M ?_
 refine WL.w (v:=boo false) (R.ofEq (R.leq rfl rfl) rfl)<|We<|WP.condF (b:=false) rfl rfl<|Wx<|Ws<|Wg<|A<|We ?_
 obtain rfl:=oi h
 refine WP.ret (Out.one rfl S rfl ?_)
 exact rfl
theorem zIc {w0:World} {H0:Hp} (hw:Holds w0 H0) (p_s:Str) (p_at:UInt8) {r:(List Str)} (h:zFr p_s p_at=some r) :
  Con Tryz.prog 186 [(str p_s),(byt p_at)] w0 H0 (fun H' v=>Sl (α:=Str) H' v r):=by
 refine Con.mk (N:=57) Tryz.func186 rfl rfl kr rfl ?_
 have S:=St.start hw
 refine Ws<|Wg<|A<|We<|Ws<|Wg<|A<|We<|Ws<|Wg<|A<|A ?_
 refine We<|Ws<|Ws<|Wg<|A<|We ?_
 have S:=S.addNil 9 1
 refine B h fun r25 hr26 h=>WP.cut (fun f w=>match r25 with | (out_16,from_20)=>∃ (H14:Hp) (v17:Value),f 0=(str p_s)∧f 5=v17∧f 6=(int from_20)∧Sl (α:=Str) H14 v17 out_16∧St w0 H0 w H14 [.row v17 9 1 out_16.length]) ?_ ?_
 ·refine Wb ?_
  refine WP.loopM (zAW p_s p_at) (fun s f w=>match s with | (out_4,from_8,quoted_10,i_12)=>∃ (H1:Hp) (v5:Value),f 0=(str p_s)∧f 1=(byt p_at)∧f 5=v5∧f 6=(int from_8)∧f 7=(boo quoted_10)∧f 8=(int i_12)∧Sl (α:=Str) H1 v5 out_4∧St w0 H0 w H1 [.row v5 9 1 out_4.length]) (([]:List Str),0,false,0) r25 hr26 ?_ ?_
  ·exact ⟨H0,.slice none 0 0,rfl,rfl,rfl,rfl,rfl,rfl,Sl.nil,S⟩
  intro s f w hI y22 hy23 hy24
  obtain ⟨out_4,from_8,quoted_10,i_12⟩:=s
  obtain ⟨H1,v5,h2,h3,h7,h9,h11,h13,R6,S⟩:=hI
  refine Ws<|Ws<|Wg<|M' h13<|M' h2<|Ns<|La<|We ?_
  rcases condE hy23 with ⟨hc27,hy23⟩ | ⟨hc27,hy23⟩
  ·refine CT hc27<|Wk<|Ws<|Wb<|Wb<|Ws<|Wg<|M' h11<|M<|B hy23 fun b31 hg29 hy23=>WL.grp 5 [18,19,20,21] 22 (boo b31) ?_ ?_
   ·rcases boolE quoted_10 with hb28 | hb28
    ·replace hg29:=condT hg29 hb28
     refine Gy hb28<|M' h2<|Gy hb28<|M' h13<|Gy hb28<|B hg29 fun c30 hc30 hg29=>Ja hc30<|Gy hb28<|Me c30 92<|Pt hb28 ?_
     exact We ⟨(congrArg boo (oi hg29)),ag,rfl⟩
    replace hg29:=condF hg29 hb28
    refine Gn hb28<|Gn hb28<|Gn hb28<|Gn hb28<|Pf hb28 ?_
    exact We ⟨(congrArg boo (oi hg29)),ag,rfl⟩
   intro us
   refine A<|We ?_
   rcases condE hy23 with ⟨hc32,hy23⟩ | ⟨hc32,hy23⟩
   ·refine CT hc32<|Wg<|M' h13<|Lg<|A<|We<|Wg<|M<|Lg<|A<|We ?_
    obtain rfl:=oi hy23
    exact ⟨rfl,⟨H1,v5,h2,h3,h7,h9,h11,rfl,R6,S⟩⟩
   refine CF hc32<|Ws<|Wg<|M' h2<|M' h13<|B hy23 fun c33 hc33 hy23=>Ja hc33<|Me c33 34<|A<|We ?_
   rcases condE hy23 with ⟨hc34,hy23⟩ | ⟨hc34,hy23⟩
   ·refine CT hc34<|Wg<|M' h11<|No<|A<|We<|Wg<|M' h13<|Lg<|A<|We ?_
    obtain rfl:=oi hy23
    exact ⟨rfl,⟨H1,v5,h2,h3,h7,h9,rfl,rfl,R6,S⟩⟩
   refine CF hc34<|Ws<|Wg<|M' h2<|M' h13<|B hy23 fun c35 hc35 hy23=>Ja hc35<|M' h3<|Me c35 p_at<|M ?_
   refine WL.grp 3 [39,40] 41 (boo ((c35==p_at)&&(!quoted_10))) ?_ ?_
   ·rcases boolE (c35==p_at) with hb36 | hb36
    ·refine Gy hb36<|M' h11<|Gy hb36<|No<|Pt hb36 ?_
     exact We ⟨(andT hb36),ag,rfl⟩
    refine Gn hb36<|Gn hb36<|Pf hb36 ?_
    exact We ⟨(andF hb36),ag,rfl⟩
   intro us
   refine A<|We ?_
   rcases condE hy23 with ⟨hc38,hy23⟩ | ⟨hc38,hy23⟩
   ·refine CT hc38<|Ws<|Wg<|M' h7<|M' h2<|M' h9<|M' h13<|B hy23 fun s39 hs39 hy23=>Jb hs39<|W.bslice (α:=Str) [(str s39)] ([s39]:List Str) S el34 rfl rfl rfl (by decide) (Go.Eng.encS ⟨rfl,rfl⟩ enc0) ?_
    intro u40 w41 H42 hle43 R44 S
    have R6:=Sl.mono R6 hle43
    refine B hy23 fun l45 hl45 hy23=>W.app (α:=Str) (i:=1) S el34 rfl rfl rfl R6 R44 hl45 ?_
    intro v46 w47 H48 hle49 R50 S
    have R6:=Sl.mono R6 hle49
    refine A<|We<|Wg<|M' h13<|Lg<|A<|We<|Wg<|M' h13<|Lg<|A<|We ?_
    obtain rfl:=oi hy23
    exact ⟨rfl,⟨H48,v46,h2,h3,rfl,rfl,h11,rfl,R50,(S.drop _ (.cons _ (.cons_cons _ .slnil)))⟩⟩
   refine CF hc38<|Wk<|Wg<|M' h13<|Lg<|A<|We ?_
   obtain rfl:=oi hy23
   exact ⟨rfl,⟨H1,v5,h2,h3,h7,h9,h11,rfl,R6,S⟩⟩
  refine CF hc27<|Wx ?_
  obtain rfl:=oi hy23
  obtain rfl:=hy24
  exact ⟨H1,v5,h2,h7,h9,R6,S⟩
 intro f w hM
 obtain ⟨out_16,from_20⟩:=r25
 obtain ⟨H14,v17,h15,h19,h21,R18,S⟩:=hM
 refine Ws<|Wg<|M' h19<|M' h15<|M' h21<|B h fun s51 hs51 h=>Jc hs51<|W.bslice (α:=Str) [(str s51)] ([s51]:List Str) S el34 rfl rfl rfl (by decide) (Go.Eng.encS ⟨rfl,rfl⟩ enc0) ?_
 intro u52 w53 H54 hle55 R56 S
 have R18:=Sl.mono R18 hle55
 refine B h fun l57 hl57 h=>W.app (α:=Str) (i:=1) S el34 rfl rfl rfl R18 R56 hl57 ?_
 intro v58 w59 H60 hle61 R62 S
 refine A<|We ?_
 obtain rfl:=oi h
 refine WP.ret (Out.one rfl S rfl ?_)
 exact R62
theorem zHM {w0:World} {H0:Hp} (hw:Holds w0 H0) (p_c:UInt8) {r:Bool} (h:zGG p_c=some r) :
  Con Tryz.prog 196 [(byt p_c)] w0 H0 (fun H' v=>v=(boo r)):=by
 refine Con.mk (N:=9) Tryz.func196 rfl rfl kr rfl ?_
 have S:=St.start hw
 refine Ws<|Wg<|A<|We<|Ws<|Wg<|M<|Me p_c 32<|M ?_
 refine WL.grp 3 [6,7] 8 (boo ((p_c==32)||(p_c==9))) ?_ ?_
 ·rcases boolE (p_c==32) with hb1 | hb1
  ·refine Gn hb1<|Gn hb1<|Pt hb1 ?_
   exact We ⟨(orT hb1),ag,rfl⟩
  refine Gy hb1<|M<|Gy hb1<|Me p_c 9<|Pf hb1 ?_
  exact We ⟨(orF hb1),ag,rfl⟩
 intro us
 refine A<|We ?_
 obtain rfl:=oi h
 refine WP.ret (Out.one rfl S rfl ?_)
 exact rfl
theorem zE0 {w0:World} {H0:Hp} (hw:Holds w0 H0) (p_s:Str) {r:Str} (h:zD7 p_s=some r) :
  Con Tryz.prog 152 [(str p_s)] w0 H0 (fun H' v=>v=(str r)):=by
 refine Con.mk (N:=30) Tryz.func152 rfl rfl kr rfl ?_
 have S:=St.start hw
 refine Ws<|Wg<|A<|We<|Ws<|B h fun s_5 hr11 h=>WP.cut (fun f w=>∃ (H4:Hp),f 0=(str s_5)∧St w0 H0 w H4 []) ?_ ?_
 ·refine Wb ?_
  refine WP.loopM (zEn) (fun s f w=>match s with | s_2=>∃ (H1:Hp),f 0=(str s_2)∧St w0 H0 w H1 []) p_s s_5 hr11 ?_ ?_
  ·exact ⟨H0,rfl,S⟩
  intro s_2 f w hI y7 hy8 hy9
  obtain ⟨H1,h3,S⟩:=hI
  refine Ws<|Ws<|Wg<|M' h3<|Ns<|Lc<|M<|B hy8 fun b20 hg13 hy8=>WL.grpw 4 [7,8,9] 10 (boo b20) (fun w=>∃ H':Hp,H1.le H'∧St w0 H0 w H' []) ?_ ?_
  ·rcases boolE (decide (0<(s_2.length:Int))) with hb12 | hb12
   ·replace hg13:=condT hg13 hb12
    refine Gy hb12<|M' h3<|Gy hb12<|B hg13 fun c14 hc14 hg13=>Ja hc14<|Gy hb12<|B hg13 fun r15 hr15 hg13=>W.call S rfl (zHM S.holds c14 hr15) ?_
    rintro v16 w17 H18 hle19 S rfl
    refine Pt hb12 ?_
    exact We ⟨(congrArg boo (oi hg13)),ag,⟨H18,hle19,S⟩⟩
   replace hg13:=condF hg13 hb12
   refine Gn hb12<|Gn hb12<|Gn hb12<|Pf hb12 ?_
   exact We ⟨(congrArg boo (oi hg13)),ag,⟨H1,(Hp.le.refl _),S⟩⟩
  intro us w22 ⟨H21,hle23,S⟩
  refine We ?_
  rcases condE hy8 with ⟨hc24,hy8⟩ | ⟨hc24,hy8⟩
  ·refine CT hc24<|Wk<|Wb<|Wg<|M' h3<|B hy8 fun s25 hs25 hy8=>Jc hs25<|A<|We ?_
   obtain rfl:=oi hy8
   exact ⟨rfl,⟨H21,rfl,S⟩⟩
  refine CF hc24<|Wx ?_
  obtain rfl:=oi hy8
  obtain rfl:=hy9
  exact ⟨H21,h3,S⟩
 rintro f w ⟨H4,h6,S⟩
 refine Ws<|B h fun s_30 hr36 h=>WP.cut (fun f w=>∃ (H29:Hp),f 0=(str s_30)∧St w0 H0 w H29 []) ?_ ?_
 ·refine Wb ?_
  refine WP.loopM (zEq) (fun s f w=>match s with | s_27=>∃ (H26:Hp),f 0=(str s_27)∧St w0 H0 w H26 []) s_5 s_30 hr36 ?_ ?_
  ·exact ⟨H4,h6,S⟩
  intro s_27 f w hI y32 hy33 hy34
  obtain ⟨H26,h28,S⟩:=hI
  refine Ws<|Ws<|Wg<|M' h28<|Ns<|Lc<|M<|B hy33 fun b45 hg38 hy33=>WL.grpw 7 [17,18,19,20,21,22] 23 (boo b45) (fun w=>∃ H':Hp,H26.le H'∧St w0 H0 w H' []) ?_ ?_
  ·rcases boolE (decide (0<(s_27.length:Int))) with hb37 | hb37
   ·replace hg38:=condT hg38 hb37
    refine Gy hb37<|M' h28<|Gy hb37<|M' h28<|Gy hb37<|Ns<|Gy hb37<|Lh<|Gy hb37<|B hg38 fun c39 hc39 hg38=>Ja hc39<|Gy hb37<|B hg38 fun r40 hr40 hg38=>W.call S rfl (zHM S.holds c39 hr40) ?_
    rintro v41 w42 H43 hle44 S rfl
    refine Pt hb37 ?_
    exact We ⟨(congrArg boo (oi hg38)),ag,⟨H43,hle44,S⟩⟩
   replace hg38:=condF hg38 hb37
   refine Gn hb37<|Gn hb37<|Gn hb37<|Gn hb37<|Gn hb37<|Gn hb37<|Pf hb37 ?_
   exact We ⟨(congrArg boo (oi hg38)),ag,⟨H26,(Hp.le.refl _),S⟩⟩
  intro us w47 ⟨H46,hle48,S⟩
  refine We ?_
  rcases condE hy33 with ⟨hc49,hy33⟩ | ⟨hc49,hy33⟩
  ·refine CT hc49<|Wk<|Wb<|Wg<|M' h28<|M' h28<|Ns<|Lh<|B hy33 fun s50 hs50 hy33=>Jd hs50<|A<|We ?_
   obtain rfl:=oi hy33
   exact ⟨rfl,⟨H46,rfl,S⟩⟩
  refine CF hc49<|Wx ?_
  obtain rfl:=oi hy33
  obtain rfl:=hy34
  exact ⟨H46,h28,S⟩
 rintro f w ⟨H29,h31,S⟩
 refine Ws<|Wg<|M' h31<|A<|We ?_
 obtain rfl:=oi h
 refine WP.ret (Out.one rfl S rfl ?_)
 exact rfl
theorem zFj {w0:World} {H0:Hp} (hw:Holds w0 H0) (p_s:Str) (p_c:UInt8) (p_from:Int) {r:Int} (h:zDZ p_s p_c p_from=some r) :
  Con Tryz.prog 225 [(str p_s),(byt p_c),(int p_from)] w0 H0 (fun H' v=>v=(int r)):=by
 refine Con.mk (N:=21) Tryz.func225 rfl rfl kr rfl ?_
 have S:=St.start hw
 refine Ws<|Wg<|A<|We<|Ws<|Ws<|Wg<|M<|A<|We<|B h fun r10 hr11 h=>WP.cut (fun f w=>match r10 with | .inl _=>∃ (H6:Hp),St w0 H0 w H6 [] | .inr _=>False) ?_ ?_
 ·refine Wb ?_
  refine WP.loopM (zBv p_s p_c) (fun s f w=>match s with | i_4=>∃ (H1:Hp),f 0=(str p_s)∧f 1=(byt p_c)∧f 7=(int i_4)∧St w0 H0 w H1 []) p_from r10 hr11 ?_ ?_
  ·exact ⟨H0,rfl,rfl,rfl,S⟩
  intro i_4 f w hI y7 hy8 hy9
  obtain ⟨H1,h2,h3,h5,S⟩:=hI
  refine Ws<|Ws<|Wg<|M' h5<|M' h2<|Ns<|La<|We ?_
  rcases condE hy8 with ⟨hc12,hy8⟩ | ⟨hc12,hy8⟩
  ·refine CT hc12<|Wk<|Ws<|Wb<|Ws<|Wg<|M' h2<|M' h5<|B hy8 fun c13 hc13 hy8=>Ja hc13<|M' h3<|Me c13 p_c<|We ?_
   rcases condE hy8 with ⟨hc14,hy8⟩ | ⟨hc14,hy8⟩
   ·refine CT hc14<|Ws<|Wg<|M' h5<|A<|We ?_
    obtain rfl:=oi hy8
    obtain rfl:=hy9
    obtain rfl:=oi h
    refine WP.ret (Out.one rfl S rfl ?_)
    exact rfl
   refine CF hc14<|Wk<|Wg<|M' h5<|Lg<|A<|We ?_
   obtain rfl:=oi hy8
   exact ⟨rfl,⟨H1,h2,h3,rfl,S⟩⟩
  refine CF hc12<|Wx ?_
  obtain rfl:=oi hy8
  obtain rfl:=hy9
  exact ⟨H1,S⟩
 intro f w hM
 rcases r10 with _ | e
 ·obtain ⟨H6,S⟩:=hM
  refine Ws<|Wg<|A<|We ?_
  obtain rfl:=oi h
  refine WP.ret (Out.one rfl S rfl ?_)
  exact rfl
 exact hM.elim
theorem zF2 {w0:World} {H0:Hp} (hw:Holds w0 H0) (p_c:UInt8) {r:Bool} (h:zEK p_c=some r) :
  Con Tryz.prog 195 [(byt p_c)] w0 H0 (fun H' v=>v=(boo r)):=by
 refine Con.mk (N:=17) Tryz.func195 rfl rfl kr rfl ?_
 have S:=St.start hw
 refine Ws<|Wg<|A<|We<|Ws<|Wg<|M<|Me p_c 9<|M ?_
 refine WL.grp 7 [6,7,8,9,10,11] 12 (boo ((p_c==9)||((decide (32≤p_c))&&(decide (p_c≤126))))) ?_ ?_
 ·rcases boolE (p_c==9) with hb1 | hb1
  ·refine Gn hb1<|Gn hb1<|Gn hb1<|WL.gund rfl rfl<|WL.gund rfl rfl<|Gn hb1<|Pt hb1 ?_
   exact We ⟨(orT hb1),ag,rfl⟩
  refine Gy hb1<|M<|Gy hb1<|Md p_c 32<|Gy hb1<|M ?_
  refine WL.grp 3 [9,10] 11 (boo ((decide (32≤p_c))&&(decide (p_c≤126)))) ?_ ?_
  ·rcases boolE (decide (32≤p_c)) with hb3 | hb3
   ·refine Gy hb3<|M<|Gy hb3<|Mb p_c 126<|Gy hb1<|Pt hb3 ?_
    exact We ⟨(andT hb3),ag,rfl⟩
   refine Gn hb3<|Gn hb3<|Gy hb1<|Pf hb3 ?_
   exact We ⟨(andF hb3),ag,rfl⟩
  intro us
  refine Pf hb1 ?_
  exact We ⟨(orF hb1),ag,rfl⟩
 intro us
 refine M ?_
 refine WL.grp 3 [14,15] 16 (boo (((p_c==9)||((decide (32≤p_c))&&(decide (p_c≤126))))||(decide (128≤p_c)))) ?_ ?_
 ·rcases boolE ((p_c==9)||((decide (32≤p_c))&&(decide (p_c≤126)))) with hb5 | hb5
  ·refine Gn hb5<|Gn hb5<|Pt hb5 ?_
   exact We ⟨(orT hb5),ag,rfl⟩
  refine Gy hb5<|M<|Gy hb5<|Md p_c 128<|Pf hb5 ?_
  exact We ⟨(orF hb5),ag,rfl⟩
 intro us
 refine A<|We ?_
 obtain rfl:=oi h
 refine WP.ret (Out.one rfl S rfl ?_)
 exact rfl
theorem zIo {w0:World} {H0:Hp} (hw:Holds w0 H0) (p_s:Str) {r:(Str×Bool)} (h:zDu p_s=some r) :
  Con Tryz.prog 226 [(str p_s)] w0 H0 (fun H' v=>v=(.tuple ⟨[(str r.1),(boo r.2)]⟩)):=by
 refine Con.mk (N:=60) Tryz.func226 rfl rfl kr rfl ?_
 have S:=St.start hw
 refine Ws<|Wg<|A<|A<|We<|Ws<|Ws<|Wg<|M<|Ns<|La<|M<|B h fun b4 hg2 h=>WL.grp 4 [10,11,12] 13 (boo b4) ?_ ?_
 ·rcases boolE (decide ((p_s.length:Int)<2)) with hb1 | hb1
  ·replace hg2:=condT hg2 hb1
   refine Gn hb1<|Gn hb1<|Gn hb1<|Pt hb1 ?_
   exact We ⟨(congrArg boo (oi hg2)),ag,rfl⟩
  replace hg2:=condF hg2 hb1
  refine Gy hb1<|M<|Gy hb1<|B hg2 fun c3 hc3 hg2=>Ja hc3<|Gy hb1<|Mf c3 34<|Pf hb1 ?_
  exact We ⟨(congrArg boo (oi hg2)),ag,rfl⟩
 intro us
 refine M<|B h fun b8 hg6 h=>WL.grp 7 [15,16,17,18,19,20] 21 (boo b8) ?_ ?_
 ·rcases boolE b4 with hb5 | hb5
  ·replace hg6:=condT hg6 hb5
   refine Gn hb5<|Gn hb5<|Gn hb5<|Gn hb5<|Gn hb5<|Gn hb5<|Pt hb5 ?_
   exact We ⟨(congrArg boo (oi hg6)),ag,rfl⟩
  replace hg6:=condF hg6 hb5
  refine Gy hb5<|M<|Gy hb5<|M<|Gy hb5<|Ns<|Gy hb5<|Lh<|Gy hb5<|B hg6 fun c7 hc7 hg6=>Ja hc7<|Gy hb5<|Mf c7 34<|Pf hb5 ?_
  exact We ⟨(congrArg boo (oi hg6)),ag,rfl⟩
 intro us
 refine We ?_
 rcases condE h with ⟨hc9,h⟩ | ⟨hc9,h⟩
 ·refine CT hc9<|Ws<|Wg<|A<|A<|We ?_
  obtain rfl:=oi h
  refine WP.ret (Out.two rfl S rfl rfl ?_)
  exact rfl
 refine CF hc9<|Wk<|Ws<|Wg<|M<|M<|Ns<|Lh<|B h fun s10 hs10 h=>Jb hs10<|A<|We<|Ws<|Wg<|A<|We<|Ws<|Ws<|Wg<|A<|We ?_
 have S:=S.addNil 5 1
 refine B h fun r27 hr28 h=>WP.cut (fun f w=>match r27 with | .inl b_20=>∃ (H19:Hp) (v21:Value),f 4=v21∧Sl (α:=UInt8) H19 v21 b_20∧St w0 H0 w H19 [.row v21 5 1 b_20.length] | .inr _=>False) ?_ ?_
 ·refine Wb ?_
  refine WP.loopM (zAi s10) (fun s f w=>match s with | (b_13,i_17)=>∃ (H11:Hp) (v14:Value),f 0=(str s10)∧f 4=v14∧f 5=(int i_17)∧Sl (α:=UInt8) H11 v14 b_13∧St w0 H0 w H11 [.row v14 5 1 b_13.length]) (([]:List UInt8),0) r27 hr28 ?_ ?_
  ·exact ⟨H0,.slice none 0 0,rfl,rfl,rfl,Sl.nil,S⟩
  intro s f w hI y24 hy25 hy26
  obtain ⟨b_13,i_17⟩:=s
  obtain ⟨H11,v14,h12,h16,h18,R15,S⟩:=hI
  refine Ws<|Ws<|Wg<|M' h18<|M' h12<|Ns<|La<|We ?_
  rcases condE hy25 with ⟨hc29,hy25⟩ | ⟨hc29,hy25⟩
  ·refine CT hc29<|Wk<|Ws<|Wb<|Ws<|Ws<|Wg<|M' h12<|M' h18<|B hy25 fun c30 hc30 hy25=>Ja hc30<|Me c30 34<|We ?_
   rcases condE hy25 with ⟨hc31,hy25⟩ | ⟨hc31,hy25⟩
   ·refine CT hc31<|Ws<|Wg<|A<|A<|We ?_
    obtain rfl:=oi hy25
    obtain rfl:=hy26
    obtain rfl:=oi h
    refine WP.ret (Out.two rfl S rfl rfl ?_)
    exact rfl
   refine CF hc31<|Wk<|Ws<|Ws<|Wg<|M' h12<|M' h18<|B hy25 fun c32 hc32 hy25=>Ja hc32<|Me c32 92<|We<|B hy25 fun j39 hj38 hy25=>WP.cut (fun f w=>match j39 with | .inl i_36=>∃ (H33:Hp),f 0=(str s10)∧f 4=v14∧f 5=(int i_36)∧Sl (α:=UInt8) H33 v14 b_13∧St w0 H0 w H33 [.row v14 5 1 b_13.length] | .inr _=>False) ?_ ?_
   ·rcases condE hj38 with ⟨hc40,hj38⟩ | ⟨hc40,hj38⟩
    ·refine CT hc40<|Ws<|Wg<|M' h18<|Lg<|A<|We<|Ws<|Wg<|M<|M' h12<|Ns ?_
     refine Le<|We ?_
     rcases condE hj38 with ⟨hc41,hj38⟩ | ⟨hc41,hj38⟩
     ·refine CT hc41<|Ws<|Wg<|A<|A<|We ?_
      obtain rfl:=oi hj38
      obtain rfl:=oi hy25
      obtain rfl:=hy26
      obtain rfl:=oi h
      refine WP.ret (Out.two rfl S rfl rfl ?_)
      exact rfl
     refine CF hc41<|Wk ?_
     obtain rfl:=oi hj38
     exact ⟨H11,h12,h16,rfl,R15,S⟩
    refine CF hc40<|Wk ?_
    obtain rfl:=oi hj38
    exact ⟨H11,h12,h16,h18,R15,S⟩
   intro f w hM
   rcases j39 with i_36 | e
   ·obtain ⟨H33,h34,h35,h37,R15,S⟩:=hM
    refine Ws<|Ws<|Wg<|M' h34<|M' h37<|B hy25 fun c42 hc42 hy25=>Ja hc42<|B hy25 fun r43 hr43 hy25=>W.call S rfl (zF2 S.holds c42 hr43) ?_
    rintro v44 w45 H46 hle47 S rfl
    have R15:=Sl.mono R15 hle47
    refine No<|We ?_
    rcases condE hy25 with ⟨hc48,hy25⟩ | ⟨hc48,hy25⟩
    ·refine CT hc48<|Ws<|Wg<|A<|A<|We ?_
     obtain rfl:=oi hy25
     obtain rfl:=hy26
     obtain rfl:=oi h
     refine WP.ret (Out.two rfl S rfl rfl ?_)
     exact rfl
    refine CF hc48<|Wk<|Wg<|M' h35<|M' h34<|M' h37<|B hy25 fun c49 hc49 hy25=>Ja hc49<|W.bslice (α:=UInt8) [(byt c49)] ([c49]:List UInt8) S el128 rfl rfl rfl (by decide) (Go.Eng.encS ⟨rfl,rfl⟩ enc0) ?_
    intro u50 w51 H52 hle53 R54 S
    have R15:=Sl.mono R15 hle53
    refine B hy25 fun l55 hl55 hy25=>W.app (α:=UInt8) (i:=1) S el128 rfl rfl rfl R15 R54 hl55 ?_
    intro v56 w57 H58 hle59 R60 S
    have R15:=Sl.mono R15 hle59
    refine A<|We<|Wg<|M' h37<|Lg<|A<|We ?_
    obtain rfl:=oi hy25
    exact ⟨rfl,⟨H58,v56,h34,rfl,rfl,R60,(S.drop _ (.cons _ (.cons_cons _ .slnil)))⟩⟩
   exact hM.elim
  refine CF hc29<|Wx ?_
  obtain rfl:=oi hy25
  obtain rfl:=hy26
  exact ⟨H11,v14,h16,R15,S⟩
 intro f w hM
 rcases r27 with b_20 | e
 ·obtain ⟨H19,v21,h23,R22,S⟩:=hM
  refine Ws<|Wg<|M' h23 ?_
  refine WL.w (R.strL S R22 rfl Tryz.underlying128 Tryz.underlying9 Tryz.underlying5)<|A<|A<|We ?_
  obtain rfl:=oi h
  refine WP.ret (Out.two rfl S rfl rfl ?_)
  exact rfl
 exact hM.elim
theorem zEj {w0:World} {H0:Hp} (hw:Holds w0 H0) (p_ppend:Str) {r:(Str×(List GParam)×Bool)} (h:zB2 p_ppend=some r) :
  Con Tryz.prog 187 [(str p_ppend)] w0 H0 (fun H' v=>∃ u1:Value,v=(.tuple ⟨[(str r.1),u1,(boo r.2.2)]⟩)∧Sl (α:=GParam) H' u1 r.2.1):=by
 refine Con.mk (N:=72) Tryz.func187 rfl rfl kr rfl ?_
 have S:=St.start hw
 refine Ws<|Wg<|A<|A<|A<|We<|Ws<|Wg<|M<|B h fun r1 hr1 h=>W.call S rfl (zIc S.holds p_ppend 59 hr1) ?_
 rintro v2 w3 H4 hle5 S R6
 refine A<|We<|Ws<|Wg<|M<|B h fun x7 hx7 h=>W.idx (α:=Str) R6 rfl rfl el34 hx7 ?_
 rintro a8 _ hA9 rfl
 refine Lq S hA9<|B h fun r10 hr10 h=>W.call S rfl (zE0 S.holds x7 hr10) ?_
 rintro v11 w12 H13 hle14 S rfl
 have R6:=Sl.mono R6 hle14
 refine A<|We<|Ws<|Ws<|Wg<|M<|Na<|We ?_
 rcases condE h with ⟨hc15,h⟩ | ⟨hc15,h⟩
 ·refine CT hc15<|Ws<|Wg<|A<|A<|A<|We ?_
  obtain rfl:=oi h
  refine WP.ret (Out.three rfl S rfl rfl rfl ?_)
  exact ⟨_,rfl,Sl.nil⟩
 refine CF hc15<|Wk<|Ws<|Wg<|A<|We<|Ws<|Ws<|Wg<|A<|We ?_
 have S:=S.addNil 161 2
 refine B h fun r34 hr35 h=>WP.cut (fun f w=>match r34 with | .inl y_27=>∃ (H25:Hp) (v28:Value),f 6=(str r10)∧f 7=v28∧Sl (α:=GParam) H25 v28 y_27∧St w0 H0 w H25 [.row v28 161 2 y_27.length] | .inr _=>False) ?_ ?_
 ·refine Wb ?_
  refine WP.loopM (zBQ r1) (fun s f w=>match s with | (y_19,y_23)=>∃ (H16:Hp) (v20:Value),f 5=v2∧f 6=(str r10)∧f 7=v20∧f 8=(int y_23)∧Sl (α:=Str) H16 v2 r1∧Sl (α:=GParam) H16 v20 y_19∧St w0 H0 w H16 [.row v20 161 2 y_19.length]) (([]:List GParam),1) r34 hr35 ?_ ?_
  ·exact ⟨H13,.slice none 0 0,rfl,rfl,rfl,rfl,R6,Sl.nil,S⟩
  intro s f w hI y31 hy32 hy33
  obtain ⟨y_19,y_23⟩:=s
  obtain ⟨H16,v20,h17,h18,h22,h24,R6,R21,S⟩:=hI
  refine Ws<|Ws<|Wg<|M' h24<|M' h17<|Nq R6<|La<|We ?_
  rcases condE hy32 with ⟨hc36,hy32⟩ | ⟨hc36,hy32⟩
  ·refine CT hc36<|Wk<|Ws<|Wb<|Ws<|Wg<|M' h17<|M' h24<|B hy32 fun x37 hx37 hy32=>W.idx (α:=Str) R6 rfl rfl el34 hx37 ?_
   rintro a38 _ hA39 rfl
   refine Lq S hA39<|B hy32 fun r40 hr40 hy32=>W.call S rfl (zE0 S.holds x37 hr40) ?_
   rintro v41 w42 H43 hle44 S rfl
   have R6:=Sl.mono R6 hle44
   have R21:=Sl.mono R21 hle44
   refine A<|We<|Ws<|Ws<|Wg<|M<|Na<|We ?_
   rcases condE hy32 with ⟨hc45,hy32⟩ | ⟨hc45,hy32⟩
   ·refine CT hc45<|Wx<|Wg<|M' h24<|Lg<|A<|We ?_
    obtain rfl:=oi hy32
    exact ⟨rfl,⟨H43,v20,h17,h18,h22,rfl,R6,R21,S⟩⟩
   refine CF hc45<|Wk<|Ws<|Wg<|M<|B hy32 fun r46 hr46 hy32=>W.call S rfl (zFj S.holds r40 61 0 hr46) ?_
   rintro v47 w48 H49 hle50 S rfl
   have R6:=Sl.mono R6 hle50
   have R21:=Sl.mono R21 hle50
   refine A<|We<|Ws<|Ws<|Wg<|M<|La<|M<|B hy32 fun b59 hg52 hy32=>WL.grpw 6 [40,41,42,43,44] 45 (boo b59) (fun w=>∃ H':Hp,H49.le H'∧St w0 H0 w H' [.row v20 161 2 y_19.length]) ?_ ?_
   ·rcases boolE (decide (r46<0)) with hb51 | hb51
    ·replace hg52:=condT hg52 hb51
     refine Gn hb51<|Gn hb51<|Gn hb51<|Gn hb51<|Gn hb51<|Pt hb51 ?_
     exact We ⟨(congrArg boo (oi hg52)),ag,⟨H49,(Hp.le.refl _),S⟩⟩
    replace hg52:=condF hg52 hb51
    refine Gy hb51<|M<|Gy hb51<|M<|Gy hb51<|B hg52 fun s53 hs53 hg52=>Jd hs53<|Gy hb51<|B hg52 fun r54 hr54 hg52=>W.call S rfl (zAu S.holds s53 hr54) ?_
    rintro v55 w56 H57 hle58 S rfl
    have R6:=Sl.mono R6 hle58
    have R21:=Sl.mono R21 hle58
    refine Gy hb51<|No<|Pf hb51 ?_
    exact We ⟨(congrArg boo (oi hg52)),ag,⟨H57,hle58,S⟩⟩
   intro us w61 ⟨H60,hle62,S⟩
   have R6:=Sl.mono R6 hle62
   have R21:=Sl.mono R21 hle62
   refine We ?_
   rcases condE hy32 with ⟨hc63,hy32⟩ | ⟨hc63,hy32⟩
   ·refine CT hc63<|Ws<|Wg<|A<|A<|A<|We ?_
    obtain rfl:=oi hy32
    obtain rfl:=hy33
    obtain rfl:=oi h
    refine WP.ret (Out.three rfl S rfl rfl rfl ?_)
    exact ⟨_,rfl,Sl.nil⟩
   refine CF hc63<|Wk<|Ws<|Wg<|M<|M<|Lg<|B hy32 fun s64 hs64 hy32=>Jc hs64<|A<|We<|Ws<|Ws<|Wg<|M<|B hy32 fun r65 hr65 hy32=>W.call S rfl (zAu S.holds s64 hr65) ?_
   rintro v66 w67 H68 hle69 S rfl
   have R6:=Sl.mono R6 hle69
   have R21:=Sl.mono R21 hle69
   refine No<|We<|B hy32 fun j80 hj79 hy32=>WP.cut (fun f w=>match j80 with | .inl y_77=>∃ (H70:Hp),f 5=v2∧f 6=(str r10)∧f 7=v20∧f 8=(int y_23)∧f 9=(str r40)∧f 10=(int r46)∧f 11=(str y_77)∧Sl (α:=Str) H70 v2 r1∧Sl (α:=GParam) H70 v20 y_19∧St w0 H0 w H70 [.row v20 161 2 y_19.length] | .inr _=>False) ?_ ?_
   ·rcases condE hj79 with ⟨hc81,hj79⟩ | ⟨hc81,hj79⟩
    ·refine CT hc81<|Ws<|Wg<|M<|B hj79 fun r82 hr82 hj79=>W.call S rfl (zIo S.holds s64 hr82) ?_
     rintro v83 w84 H85 hle86 S rfl
     have R6:=Sl.mono R6 hle86
     have R21:=Sl.mono R21 hle86
     refine M ?_
     refine Ex ?_
     refine Ex<|A<|A<|We<|Ws<|Ws<|Wg<|M<|No<|We ?_
     rcases condE hj79 with ⟨hc87,hj79⟩ | ⟨hc87,hj79⟩
     ·refine CT hc87<|Ws<|Wg<|A<|A<|A<|We ?_
      obtain rfl:=oi hj79
      obtain rfl:=oi hy32
      obtain rfl:=hy33
      obtain rfl:=oi h
      refine WP.ret (Out.three rfl S rfl rfl rfl ?_)
      exact ⟨_,rfl,Sl.nil⟩
     refine CF hc87<|Wk<|Wg<|M<|A<|We ?_
     obtain rfl:=oi hj79
     exact ⟨H85,h17,h18,h22,h24,rfl,rfl,rfl,R6,R21,S⟩
    refine CF hc81<|Wk ?_
    obtain rfl:=oi hj79
    exact ⟨H68,h17,h18,h22,h24,rfl,rfl,rfl,R6,R21,S⟩
   intro f w hM
   rcases j80 with y_77 | e
   ·obtain ⟨H70,h71,h72,h73,h74,h75,h76,h78,R6,R21,S⟩:=hM
    refine Wg<|M' h73<|M' h75<|M' h76<|B hy32 fun s88 hs88 hy32=>Jd hs88<|B hy32 fun r89 hr89 hy32=>W.call S rfl (zBU S.holds s88 hr89) ?_
    rintro v90 w91 H92 hle93 S rfl
    have R6:=Sl.mono R6 hle93
    have R21:=Sl.mono R21 hle93
    refine M' h78 ?_
    refine WL.w (R.build [(0,(str r89)),(1,(str y_77))] [(str r89),(str y_77)] bp161 zJr rfl rfl)<|W.bslice (α:=GParam) [(agg [(str r89),(str y_77)])] ([(⟨r89,y_77⟩:GParam)]:List GParam) S el156 rfl rfl rfl (by decide) (Go.Eng.encS ⟨rfl,rfl⟩ enc0) ?_
    intro u94 w95 H96 hle97 R98 S
    have R6:=Sl.mono R6 hle97
    have R21:=Sl.mono R21 hle97
    refine B hy32 fun l99 hl99 hy32=>W.app (α:=GParam) (i:=1) S el156 rfl rfl rfl R21 R98 hl99 ?_
    intro v100 w101 H102 hle103 R104 S
    have R6:=Sl.mono R6 hle103
    have R21:=Sl.mono R21 hle103
    refine A<|We<|Wg<|M' h74<|Lg<|A<|We ?_
    obtain rfl:=oi hy32
    exact ⟨rfl,⟨H102,v100,h71,h72,rfl,rfl,R6,R104,(S.drop _ (.cons _ (.cons_cons _ .slnil)))⟩⟩
   exact hM.elim
  refine CF hc36<|Wx ?_
  obtain rfl:=oi hy32
  obtain rfl:=hy33
  exact ⟨H16,v20,h18,h22,R21,S⟩
 intro f w hM
 rcases r34 with y_27 | e
 ·obtain ⟨H25,v28,h26,h30,R29,S⟩:=hM
  refine Ws<|Wg<|M' h26<|M' h30<|A<|A<|A<|We ?_
  obtain rfl:=oi h
  refine WP.ret (Out.three rfl S rfl rfl rfl ?_)
  exact ⟨_,rfl,R29⟩
 exact hM.elim
end Go.Proofs

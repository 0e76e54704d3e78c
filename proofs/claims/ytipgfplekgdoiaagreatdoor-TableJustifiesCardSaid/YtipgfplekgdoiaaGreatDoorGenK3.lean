/- A part of the proof of laws of the seat: written by program over the translation. -/
import Derived.Test.YtipgfplekgdoiaaGreatDoorEng38
import Derived.Test.YtipgfplekgdoiaaGreatDoorEng32
import Derived.Test.YtipgfplekgdoiaaGreatDoorGenK2
namespace Go.Proofs
set_option maxHeartbeats 4000000
set_option maxRecDepth 10000
open Go.Eng Go.Eng.Pure
set_option linter.unusedVariables false
theorem zK7 {w0:World} {H0:Hp} (hw:Holds w0 H0) (p_s:Str) {r:(List Str)} (h:zH6 p_s=some r) :
  Con Tryz.prog 241 [(str p_s)] w0 H0 (fun H' v=>Sl (α:=Str) H' v r):=by
 refine Con.mk (N:=54) Tryz.func241 rfl rfl kr rfl ?_
 have S:=St.start hw
 refine Ws<|Wg<|A<|We<|Ws<|Wg<|A<|We<|Ws<|Wg<|A<|A ?_
 refine We<|Ws<|Ws<|Wg<|A<|We ?_
 have S:=S.addNil 9 1
 refine B h fun r24 hr25 h=>WP.cut (fun f w=>match r24 with | (out_15,from_19)=>∃ (H13:Hp) (v16:Value),f 0=(str p_s)∧f 3=v16∧f 5=(int from_19)∧Sl (α:=Str) H13 v16 out_15∧St w0 H0 w H13 [.row v16 9 1 out_15.length]) ?_ ?_
 ·refine Wb ?_
  refine WP.loopM (zDg p_s) (fun s f w=>match s with | (out_3,quoted_7,from_9,i_11)=>∃ (H1:Hp) (v4:Value),f 0=(str p_s)∧f 3=v4∧f 4=(boo quoted_7)∧f 5=(int from_9)∧f 6=(int i_11)∧Sl (α:=Str) H1 v4 out_3∧St w0 H0 w H1 [.row v4 9 1 out_3.length]) (([]:List Str),false,0,0) r24 hr25 ?_ ?_
  ·exact ⟨H0,.slice none 0 0,rfl,rfl,rfl,rfl,rfl,Sl.nil,S⟩
  intro s f w hI y21 hy22 hy23
  obtain ⟨out_3,quoted_7,from_9,i_11⟩:=s
  obtain ⟨H1,v4,h2,h6,h8,h10,h12,R5,S⟩:=hI
  refine Ws<|Ws<|Wg<|M' h12<|M' h2<|Ns<|La<|We ?_
  rcases condE hy22 with ⟨hc26,hy22⟩ | ⟨hc26,hy22⟩
  ·refine CT hc26<|Wk<|Ws<|Wb<|Wb<|Ws<|Wg<|M' h8<|M<|B hy22 fun b30 hg28 hy22=>WL.grp 5 [16,17,18,19] 20 (boo b30) ?_ ?_
   ·rcases boolE quoted_7 with hb27 | hb27
    ·replace hg28:=condT hg28 hb27
     refine Gy hb27<|M' h2<|Gy hb27<|M' h12<|Gy hb27<|B hg28 fun c29 hc29 hg28=>Ja hc29<|Gy hb27<|Me c29 92<|Pt hb27 ?_
     exact We ⟨(congrArg boo (oi hg28)),ag,rfl⟩
    replace hg28:=condF hg28 hb27
    refine Gn hb27<|Gn hb27<|Gn hb27<|Gn hb27<|Pf hb27 ?_
    exact We ⟨(congrArg boo (oi hg28)),ag,rfl⟩
   intro us
   refine A<|We ?_
   rcases condE hy22 with ⟨hc31,hy22⟩ | ⟨hc31,hy22⟩
   ·refine CT hc31<|Wg<|M' h12<|Lg<|A<|We<|Wg<|M<|Lg<|A<|We ?_
    obtain rfl:=oi hy22
    exact ⟨rfl,⟨H1,v4,h2,h6,h8,h10,rfl,R5,S⟩⟩
   refine CF hc31<|Ws<|Wg<|M' h2<|M' h12<|B hy22 fun c32 hc32 hy22=>Ja hc32<|Me c32 34<|A<|We ?_
   rcases condE hy22 with ⟨hc33,hy22⟩ | ⟨hc33,hy22⟩
   ·refine CT hc33<|Wg<|M' h8<|No<|A<|We<|Wg<|M' h12<|Lg<|A<|We ?_
    obtain rfl:=oi hy22
    exact ⟨rfl,⟨H1,v4,h2,h6,rfl,h10,rfl,R5,S⟩⟩
   refine CF hc33<|Ws<|Wg<|M' h2<|M' h12<|B hy22 fun c34 hc34 hy22=>Ja hc34<|Me c34 59<|M ?_
   refine WL.grp 3 [36,37] 38 (boo ((c34==59)&&(!quoted_7))) ?_ ?_
   ·rcases boolE (c34==59) with hb35 | hb35
    ·refine Gy hb35<|M' h8<|Gy hb35<|No<|Pt hb35 ?_
     exact We ⟨(andT hb35),ag,rfl⟩
    refine Gn hb35<|Gn hb35<|Pf hb35 ?_
    exact We ⟨(andF hb35),ag,rfl⟩
   intro us
   refine A<|We ?_
   rcases condE hy22 with ⟨hc37,hy22⟩ | ⟨hc37,hy22⟩
   ·refine CT hc37<|Ws<|Wg<|M' h6<|M' h2<|M' h10<|M' h12<|B hy22 fun s38 hs38 hy22=>Jb hs38<|W.bslice (α:=Str) [(str s38)] ([s38]:List Str) S el34 rfl rfl rfl (by decide) (Go.Eng.encS ⟨rfl,rfl⟩ enc0) ?_
    intro u39 w40 H41 hle42 R43 S
    have R5:=Sl.mono R5 hle42
    refine B hy22 fun l44 hl44 hy22=>W.app (α:=Str) (i:=1) S el34 rfl rfl rfl R5 R43 hl44 ?_
    intro v45 w46 H47 hle48 R49 S
    have R5:=Sl.mono R5 hle48
    refine A<|We<|Wg<|M' h12<|Lg<|A<|We<|Wg<|M' h12<|Lg<|A<|We ?_
    obtain rfl:=oi hy22
    exact ⟨rfl,⟨H47,v45,h2,rfl,h8,rfl,rfl,R49,(S.drop _ (.cons _ (.cons_cons _ .slnil)))⟩⟩
   refine CF hc37<|Wk<|Wg<|M' h12<|Lg<|A<|We ?_
   obtain rfl:=oi hy22
   exact ⟨rfl,⟨H1,v4,h2,h6,h8,h10,rfl,R5,S⟩⟩
  refine CF hc26<|Wx ?_
  obtain rfl:=oi hy22
  obtain rfl:=hy23
  exact ⟨H1,v4,h2,h6,h10,R5,S⟩
 intro f w hM
 obtain ⟨out_15,from_19⟩:=r24
 obtain ⟨H13,v16,h14,h18,h20,R17,S⟩:=hM
 refine Ws<|Wg<|M' h18<|M' h14<|M' h20<|B h fun s50 hs50 h=>Jc hs50<|W.bslice (α:=Str) [(str s50)] ([s50]:List Str) S el34 rfl rfl rfl (by decide) (Go.Eng.encS ⟨rfl,rfl⟩ enc0) ?_
 intro u51 w52 H53 hle54 R55 S
 have R17:=Sl.mono R17 hle54
 refine B h fun l56 hl56 h=>W.app (α:=Str) (i:=1) S el34 rfl rfl rfl R17 R55 hl56 ?_
 intro v57 w58 H59 hle60 R61 S
 refine A<|We ?_
 obtain rfl:=oi h
 refine WP.ret (Out.one rfl S rfl ?_)
 exact R61
theorem zH5 {w0:World} {H0:Hp} (hw:Holds w0 H0) (p_s:Str) (p_sep:Str) {r:(Str×Str×Bool)} (h:zFF p_s p_sep=some r) :
  Con Tryz.prog 130 [(str p_s),(str p_sep)] w0 H0 (fun H' v=>v=(.tuple ⟨[(str r.1),(str r.2.1),(boo r.2.2)]⟩)):=by
 refine Con.mk (N:=23) Tryz.func130 rfl rfl kr rfl ?_
 have S:=St.start hw
 refine Ws<|Wg<|A<|A<|A<|We<|Ws<|Ws<|Wg<|M<|M<|B h fun r1 hr1 h=>W.call S rfl (zEk S.holds p_s p_sep hr1) ?_
 rintro v2 w3 H4 hle5 S rfl
 refine A<|We<|Ws<|Wg<|M<|Ld<|We ?_
 rcases condE h with ⟨hc6,h⟩ | ⟨hc6,h⟩
 ·refine CT hc6<|Ws<|WP.quiet S kr kr<|QM<|QM<|B h fun s10 hs10 h=>QJd hs10<|QM<|QM<|QM<|QNs<|QLg<|B h fun s11 hs11 h=>QJc hs11<|QA<|QA<|QA<|WQ.nil ?_
  intro w7 H8 hle9 S
  obtain rfl:=oi h
  refine WP.ret (Out.three rfl S rfl rfl rfl ?_)
  exact rfl
 refine CF hc6<|Wk<|Ws<|Wg<|M<|A<|A<|A<|We ?_
 obtain rfl:=oi h
 refine WP.ret (Out.three rfl S rfl rfl rfl ?_)
 exact rfl
theorem zHN {w0:World} {H0:Hp} (hw:Holds w0 H0) (p_s:Str) (p_sep:Str) {r:(Str×Str×Bool)} (h:zFI p_s p_sep=some r) :
  Con Tryz.prog 101 [(str p_s),(str p_sep)] w0 H0 (fun H' v=>v=(.tuple ⟨[(str r.1),(str r.2.1),(boo r.2.2)]⟩)):=by
 refine Con.mk (N:=13) Tryz.func101 rfl rfl kr rfl ?_
 have S:=St.start hw
 refine Ws<|Wg<|A<|A<|A<|We<|Ws<|Wg<|M<|M<|B h fun r1 hr1 h=>W.call S rfl (zH5 S.holds p_s p_sep hr1) ?_
 rintro v2 w3 H4 hle5 S rfl
 refine Ex ?_
 refine Ex ?_
 refine Ex<|A<|A<|A<|We ?_
 obtain rfl:=oi h
 refine WP.ret (Out.three rfl S rfl rfl rfl ?_)
 exact rfl
theorem zIB {w0:World} {H0:Hp} (hw:Holds w0 H0) (p_s:Str) {r:Bool} (h:zF6 p_s=some r) :
  Con Tryz.prog 165 [(str p_s)] w0 H0 (fun H' v=>v=(boo r)):=by
 refine Con.mk (N:=26) Tryz.func165 rfl rfl kr rfl ?_
 have S:=St.start hw
 refine Ws<|Wg<|A<|We<|Ws<|Ws<|Wg<|M<|Ns<|M<|We<|B h fun r10 hr11 h=>WP.cut (fun f w=>match r10 with | .inl _=>∃ (H6:Hp),St w0 H0 w H6 [] | .inr _=>False) ?_ ?_
 ·refine Wb ?_
  refine WP.loopM (zDo p_s) (fun s f w=>match s with | y_4=>∃ (H1:Hp),f 0=(str p_s)∧f 5=(int (p_s.length:Int))∧f 6=(int y_4)∧St w0 H0 w H1 []) 0 r10 hr11 ?_ ?_
  ·exact ⟨H0,rfl,rfl,rfl,S⟩
  intro y_4 f w hI y7 hy8 hy9
  obtain ⟨H1,h2,h3,h5,S⟩:=hI
  refine Ws<|Wg<|La' h5 h3<|We<|Ws ?_
  rcases condE hy8 with ⟨hc12,hy8⟩ | ⟨hc12,hy8⟩
  ·refine CT hc12<|Wk<|Ws<|Wb<|Ws<|Wg<|M' h5<|A<|We<|Ws<|Wg<|M' h2 ?_
   refine M<|B hy8 fun c13 hc13 hy8=>Ja hc13<|Ma c13 32<|M<|B hy8 fun b17 hg15 hy8=>WL.grp 5 [14,15,16,17] 18 (boo b17) ?_ ?_
   ·rcases boolE (decide (c13<32)) with hb14 | hb14
    ·replace hg15:=condT hg15 hb14
     refine Gy hb14<|M' h2<|Gy hb14<|M<|Gy hb14<|B hg15 fun c16 hc16 hg15=>Ja hc16<|Gy hb14<|Mf c16 9<|Pt hb14 ?_
     exact We ⟨(congrArg boo (oi hg15)),ag,rfl⟩
    replace hg15:=condF hg15 hb14
    refine Gn hb14<|Gn hb14<|Gn hb14<|Gn hb14<|Pf hb14 ?_
    exact We ⟨(congrArg boo (oi hg15)),ag,rfl⟩
   intro us
   refine M<|B hy8 fun b21 hg19 hy8=>WL.grp 5 [20,21,22,23] 24 (boo b21) ?_ ?_
   ·rcases boolE b17 with hb18 | hb18
    ·replace hg19:=condT hg19 hb18
     refine Gn hb18<|Gn hb18<|Gn hb18<|Gn hb18<|Pt hb18 ?_
     exact We ⟨(congrArg boo (oi hg19)),ag,rfl⟩
    replace hg19:=condF hg19 hb18
    refine Gy hb18<|M' h2<|Gy hb18<|M<|Gy hb18<|B hg19 fun c20 hc20 hg19=>Ja hc20<|Gy hb18<|Me c20 127<|Pf hb18 ?_
    exact We ⟨(congrArg boo (oi hg19)),ag,rfl⟩
   intro us
   refine We ?_
   rcases condE hy8 with ⟨hc22,hy8⟩ | ⟨hc22,hy8⟩
   ·refine CT hc22<|Ws<|Wg<|A<|We ?_
    obtain rfl:=oi hy8
    obtain rfl:=hy9
    obtain rfl:=oi h
    refine WP.ret (Out.one rfl S rfl ?_)
    exact rfl
   refine CF hc22<|Wk<|Wg<|Lg' h5 rfl<|M<|We ?_
   obtain rfl:=oi hy8
   exact ⟨rfl,⟨H1,h2,h3,rfl,S⟩⟩
  refine CF hc12<|Wx ?_
  obtain rfl:=oi hy8
  obtain rfl:=hy9
  exact ⟨H1,S⟩
 intro f w hM
 rcases r10 with _ | e
 ·obtain ⟨H6,S⟩:=hM
  refine Ws<|Wg<|A<|We ?_
  obtain rfl:=oi h
  refine WP.ret (Out.one rfl S rfl ?_)
  exact rfl
 exact hM.elim
theorem zIn {w0:World} {H0:Hp} (hw:Holds w0 H0) (p_s:Str) {r:(Str×Bool)} (h:zDv p_s=some r) :
  Con Tryz.prog 134 [(str p_s)] w0 H0 (fun H' v=>v=(.tuple ⟨[(str r.1),(boo r.2)]⟩)):=by
 refine Con.mk (N:=64) Tryz.func134 rfl rfl kr rfl ?_
 have S:=St.start hw
 refine Ws<|Wg<|A<|A<|We<|Ws<|Ws<|Wg<|M<|Ns<|La<|M<|B h fun b4 hg2 h=>WL.grp 4 [11,12,13] 14 (boo b4) ?_ ?_
 ·rcases boolE (decide ((p_s.length:Int)<2)) with hb1 | hb1
  ·replace hg2:=condT hg2 hb1
   refine Gn hb1<|Gn hb1<|Gn hb1<|Pt hb1 ?_
   exact We ⟨(congrArg boo (oi hg2)),ag,rfl⟩
  replace hg2:=condF hg2 hb1
  refine Gy hb1<|M<|Gy hb1<|B hg2 fun c3 hc3 hg2=>Ja hc3<|Gy hb1<|Mf c3 34<|Pf hb1 ?_
  exact We ⟨(congrArg boo (oi hg2)),ag,rfl⟩
 intro us
 refine M<|B h fun b8 hg6 h=>WL.grp 7 [16,17,18,19,20,21] 22 (boo b8) ?_ ?_
 ·rcases boolE b4 with hb5 | hb5
  ·replace hg6:=condT hg6 hb5
   refine Gn hb5<|Gn hb5<|Gn hb5<|Gn hb5<|Gn hb5<|Gn hb5<|Pt hb5 ?_
   exact We ⟨(congrArg boo (oi hg6)),ag,rfl⟩
  replace hg6:=condF hg6 hb5
  refine Gy hb5<|M<|Gy hb5<|M<|Gy hb5<|Ns<|Gy hb5<|Lh<|Gy hb5<|B hg6 fun c7 hc7 hg6=>Ja hc7<|Gy hb5<|Mf c7 34<|Pf hb5 ?_
  exact We ⟨(congrArg boo (oi hg6)),ag,rfl⟩
 intro us
 refine M<|B h fun b17 hg10 h=>WL.grpw 8 [24,25,26,27,28,29,30] 31 (boo b17) (fun w=>∃ H':Hp,H0.le H'∧St w0 H0 w H' []) ?_ ?_
 ·rcases boolE b8 with hb9 | hb9
  ·replace hg10:=condT hg10 hb9
   refine Gn hb9<|Gn hb9<|Gn hb9<|Gn hb9<|Gn hb9<|Gn hb9<|Gn hb9<|Pt hb9 ?_
   exact We ⟨(congrArg boo (oi hg10)),ag,⟨H0,(Hp.le.refl _),S⟩⟩
  replace hg10:=condF hg10 hb9
  refine Gy hb9<|M<|Gy hb9<|M<|Gy hb9<|Ns<|Gy hb9<|Lh<|Gy hb9<|B hg10 fun s11 hs11 hg10=>Jb hs11<|Gy hb9<|B hg10 fun r12 hr12 hg10=>W.call S rfl (zIB S.holds s11 hr12) ?_
  rintro v13 w14 H15 hle16 S rfl
  refine Gy hb9<|No<|Pf hb9 ?_
  exact We ⟨(congrArg boo (oi hg10)),ag,⟨H15,hle16,S⟩⟩
 intro us w19 ⟨H18,hle20,S⟩
 refine We ?_
 rcases condE h with ⟨hc21,h⟩ | ⟨hc21,h⟩
 ·refine CT hc21<|Ws<|Wg<|A<|A<|We ?_
  obtain rfl:=oi h
  refine WP.ret (Out.two rfl S rfl rfl ?_)
  exact rfl
 refine CF hc21<|Wk<|Ws<|Wg<|M<|M<|Ns<|Lh<|B h fun s22 hs22 h=>Jb hs22<|A<|We<|Ws<|Wg<|A<|We<|Ws<|Ws<|Wg<|A<|We ?_
 have S:=S.addNil 5 1
 refine B h fun r39 hr40 h=>WP.cut (fun f w=>match r39 with | .inl out_32=>∃ (H31:Hp) (v33:Value),f 5=v33∧Sl (α:=UInt8) H31 v33 out_32∧St w0 H0 w H31 [.row v33 5 1 out_32.length] | .inr _=>False) ?_ ?_
 ·refine Wb ?_
  refine WP.loopM (zAh s22) (fun s f w=>match s with | (out_25,i_29)=>∃ (H23:Hp) (v26:Value),f 4=(str s22)∧f 5=v26∧f 6=(int i_29)∧Sl (α:=UInt8) H23 v26 out_25∧St w0 H0 w H23 [.row v26 5 1 out_25.length]) (([]:List UInt8),0) r39 hr40 ?_ ?_
  ·exact ⟨H18,.slice none 0 0,rfl,rfl,rfl,Sl.nil,S⟩
  intro s f w hI y36 hy37 hy38
  obtain ⟨out_25,i_29⟩:=s
  obtain ⟨H23,v26,h24,h28,h30,R27,S⟩:=hI
  refine Ws<|Ws<|Wg<|M' h30<|M' h24<|Ns<|La<|We ?_
  rcases condE hy37 with ⟨hc41,hy37⟩ | ⟨hc41,hy37⟩
  ·refine CT hc41<|Wk<|Ws<|Wb<|Ws<|Ws<|Wg<|M' h24<|M' h30<|B hy37 fun c42 hc42 hy37=>Ja hc42<|We<|B hy37 fun j49 hj48 hy37=>WP.cut (fun f w=>match j49 with | .inl i_46=>∃ (H43:Hp),f 4=(str s22)∧f 5=v26∧f 6=(int i_46)∧Sl (α:=UInt8) H43 v26 out_25∧St w0 H0 w H43 [.row v26 5 1 out_25.length] | .inr _=>False) ?_ ?_
   ·refine Wb<|Ws<|Wg<|Me c42 34<|A<|We ?_
    rcases condE hj48 with ⟨hc50,hj48⟩ | ⟨hc50,hj48⟩
    ·refine CT hc50<|Ws<|Wg<|A<|A<|We ?_
     obtain rfl:=oi hj48
     obtain rfl:=oi hy37
     obtain rfl:=hy38
     obtain rfl:=oi h
     refine WP.ret (Out.two rfl S rfl rfl ?_)
     exact rfl
    refine CF hc50<|Ws<|Wg<|Me c42 92<|A<|We ?_
    rcases condE hj48 with ⟨hc51,hj48⟩ | ⟨hc51,hj48⟩
    ·refine CT hc51<|Ws<|Wg<|M' h30<|Lg<|A<|We<|Ws<|Wg<|M<|M' h24<|Ns ?_
     refine Le<|We ?_
     rcases condE hj48 with ⟨hc52,hj48⟩ | ⟨hc52,hj48⟩
     ·refine CT hc52<|Ws<|Wg<|A<|A<|We ?_
      obtain rfl:=oi hj48
      obtain rfl:=oi hy37
      obtain rfl:=hy38
      obtain rfl:=oi h
      refine WP.ret (Out.two rfl S rfl rfl ?_)
      exact rfl
     refine CF hc52<|Wk ?_
     obtain rfl:=oi hj48
     exact ⟨H23,h24,h28,rfl,R27,S⟩
    refine CF hc51<|Wk ?_
    obtain rfl:=oi hj48
    exact ⟨H23,h24,h28,h30,R27,S⟩
   intro f w hM
   rcases j49 with i_46 | e
   ·obtain ⟨H43,h44,h45,h47,R27,S⟩:=hM
    refine Wg<|M' h45<|M' h44<|M' h47<|B hy37 fun c53 hc53 hy37=>Ja hc53<|W.bslice (α:=UInt8) [(byt c53)] ([c53]:List UInt8) S el128 rfl rfl rfl (by decide) (Go.Eng.encS ⟨rfl,rfl⟩ enc0) ?_
    intro u54 w55 H56 hle57 R58 S
    have R27:=Sl.mono R27 hle57
    refine B hy37 fun l59 hl59 hy37=>W.app (α:=UInt8) (i:=1) S el128 rfl rfl rfl R27 R58 hl59 ?_
    intro v60 w61 H62 hle63 R64 S
    have R27:=Sl.mono R27 hle63
    refine A<|We<|Wg<|M' h47<|Lg<|A<|We ?_
    obtain rfl:=oi hy37
    exact ⟨rfl,⟨H62,v60,h44,rfl,rfl,R64,(S.drop _ (.cons _ (.cons_cons _ .slnil)))⟩⟩
   exact hM.elim
  refine CF hc41<|Wx ?_
  obtain rfl:=oi hy37
  obtain rfl:=hy38
  exact ⟨H23,v26,h28,R27,S⟩
 intro f w hM
 rcases r39 with out_32 | e
 ·obtain ⟨H31,v33,h35,R34,S⟩:=hM
  refine Ws<|Wg<|M' h35 ?_
  refine WL.w (R.strL S R34 rfl Tryz.underlying128 Tryz.underlying9 Tryz.underlying5)<|A<|A<|We ?_
  obtain rfl:=oi h
  refine WP.ret (Out.two rfl S rfl rfl ?_)
  exact rfl
 exact hM.elim
theorem zK9 {w0:World} {H0:Hp} (hw:Holds w0 H0) (p_s:Str) {r:(Str×Str×Bool)} (h:zHp p_s=some r) :
  Con Tryz.prog 242 [(str p_s)] w0 H0 (fun H' v=>v=(.tuple ⟨[(str r.1),(str r.2.1),(boo r.2.2)]⟩)):=by
 refine Con.mk (N:=33) Tryz.func242 rfl rfl kr rfl ?_
 have S:=St.start hw
 refine Ws<|Wg<|A<|A<|A<|We<|Ws<|Wg<|M<|B h fun r1 hr1 h=>W.call S rfl (zHN S.holds p_s [61] hr1) ?_
 rintro v2 w3 H4 hle5 S rfl
 refine M ?_
 refine Ex ?_
 refine Ex ?_
 refine Ex<|A<|A<|A<|We<|Ws<|Ws<|Wg<|M ?_
 refine No<|M<|B h fun b13 hg7 h=>WL.grpw 4 [17,18,19] 20 (boo b13) (fun w=>∃ H':Hp,H4.le H'∧St w0 H0 w H' []) ?_ ?_
 ·rcases boolE (!r1.2.2) with hb6 | hb6
  ·replace hg7:=condT hg7 hb6
   refine Gn hb6<|Gn hb6<|Gn hb6<|Pt hb6 ?_
   exact We ⟨(congrArg boo (oi hg7)),ag,⟨H4,(Hp.le.refl _),S⟩⟩
  replace hg7:=condF hg7 hb6
  refine Gy hb6<|M<|Gy hb6<|B hg7 fun r8 hr8 hg7=>W.call S rfl (zAv S.holds r1.1 hr8) ?_
  rintro v9 w10 H11 hle12 S rfl
  refine Gy hb6<|No<|Pf hb6 ?_
  exact We ⟨(congrArg boo (oi hg7)),ag,⟨H11,hle12,S⟩⟩
 intro us w15 ⟨H14,hle16,S⟩
 refine We ?_
 rcases condE h with ⟨hc17,h⟩ | ⟨hc17,h⟩
 ·refine CT hc17<|Ws<|Wg<|A<|A<|A<|We ?_
  obtain rfl:=oi h
  refine WP.ret (Out.three rfl S rfl rfl rfl ?_)
  exact rfl
 refine CF hc17<|Wk<|Ws<|Ws<|Wg<|M<|B h fun r18 hr18 h=>W.call S rfl (zAv S.holds r1.2.1 hr18) ?_
 rintro v19 w20 H21 hle22 S rfl
 refine No<|We ?_
 obtain ⟨⟨value_25,ok_27⟩,hj29,h⟩:=bindE h
 refine WP.cut (fun f w=>∃ (H23:Hp),f 5=(str r1.1)∧f 6=(str value_25)∧f 7=(boo ok_27)∧St w0 H0 w H23 []) ?_ ?_
 ·rcases condE hj29 with ⟨hc31,hj29⟩ | ⟨hc31,hj29⟩
  ·refine CT hc31<|Wg<|M<|B hj29 fun r32 hr32 hj29=>W.call S rfl (zIn S.holds r1.2.1 hr32) ?_
   rintro v33 w34 H35 hle36 S rfl
   refine M ?_
   refine Ex ?_
   refine Ex<|A<|A<|We ?_
   cases oi hj29
   exact ⟨H35,rfl,rfl,rfl,S⟩
  refine CF hc31<|Wk ?_
  cases oi hj29
  exact ⟨H21,rfl,rfl,rfl,S⟩
 rintro f w ⟨H23,h24,h26,h28,S⟩
 refine Ws<|Wg<|M' h24<|B h fun r37 hr37 h=>W.call S rfl (zAe S.holds r1.1 hr37) ?_
 rintro v38 w39 H40 hle41 S rfl
 refine M' h26<|M' h28<|A<|A<|A<|We ?_
 obtain rfl:=oi h
 refine WP.ret (Out.three rfl S rfl rfl rfl ?_)
 exact rfl
theorem zHO {w0:World} {H0:Hp} (hw:Holds w0 H0) (p_s:Str) {r:(Str×(List GParam)×Bool)} (h:zFL p_s=some r) :
  Con Tryz.prog 215 [(str p_s)] w0 H0 (fun H' v=>∃ u1:Value,v=(.tuple ⟨[(str r.1),u1,(boo r.2.2)]⟩)∧Sl (α:=GParam) H' u1 r.2.1):=by
 refine Con.mk (N:=49) Tryz.func215 rfl rfl kr rfl ?_
 have S:=St.start hw
 refine Ws<|Wg<|A<|A<|A<|We<|Ws<|Wg<|M<|B h fun r1 hr1 h=>W.call S rfl (zK7 S.holds p_s hr1) ?_
 rintro v2 w3 H4 hle5 S R6
 refine A<|We<|Ws<|Wg<|M<|B h fun x7 hx7 h=>W.idx (α:=Str) R6 rfl rfl el34 hx7 ?_
 rintro a8 _ hA9 rfl
 refine Lq S hA9<|B h fun r10 hr10 h=>W.call S rfl (zEt S.holds x7 hr10) ?_
 rintro v11 w12 H13 hle14 S rfl
 have R6:=Sl.mono R6 hle14
 refine A<|We<|Ws<|Ws<|Wg<|M<|Na<|We ?_
 rcases condE h with ⟨hc15,h⟩ | ⟨hc15,h⟩
 ·refine CT hc15<|Ws<|Wg<|A<|A<|A<|We ?_
  obtain rfl:=oi h
  refine WP.ret (Out.three rfl S rfl rfl rfl ?_)
  exact ⟨_,rfl,Sl.nil⟩
 refine CF hc15<|Wk<|Ws<|Wg<|A<|We<|Ws<|Ws<|Wg<|M<|B h fun l16 hl16 h=>W.subLo (α:=Str) R6 rfl rfl el34 hl16 ?_
 intro v17 R18
 refine Nq R18<|M<|We ?_
 have S:=S.addNil 161 2
 refine B h fun r38 hr39 h=>WP.cut (fun f w=>match r38 with | .inl l_31=>∃ (H29:Hp) (v32:Value),f 6=(str r10)∧f 7=v32∧Sl (α:=GParam) H29 v32 l_31∧St w0 H0 w H29 [.row v32 161 2 l_31.length] | .inr _=>False) ?_ ?_
 ·refine Wb ?_
  refine WP.loopM (zDN l16) (fun s f w=>match s with | (l_21,y_27)=>∃ (H19:Hp) (v22:Value),f 6=(str r10)∧f 7=v22∧f 22=v17∧f 23=(int (l16.length:Int))∧f 24=(int y_27)∧Sl (α:=GParam) H19 v22 l_21∧Sl (α:=Str) H19 v17 l16∧St w0 H0 w H19 [.row v22 161 2 l_21.length]) (([]:List GParam),0) r38 hr39 ?_ ?_
  ·exact ⟨H13,.slice none 0 0,rfl,rfl,rfl,rfl,rfl,Sl.nil,R18,S⟩
  intro s f w hI y35 hy36 hy37
  obtain ⟨l_21,y_27⟩:=s
  obtain ⟨H19,v22,h20,h24,h25,h26,h28,R23,R18,S⟩:=hI
  refine Ws<|Wg<|La' h28 h26<|We<|Ws ?_
  rcases condE hy36 with ⟨hc40,hy36⟩ | ⟨hc40,hy36⟩
  ·refine CT hc40<|Wk<|Ws<|Wb<|Ws<|Wg<|B hy36 fun x41 hx41 hy36=>W.idx (α:=Str) R18 h25 h28 el34 hx41 ?_
   rintro a42 _ hA43 rfl
   refine Lq S hA43<|A<|We<|Ws<|Wg<|M<|B hy36 fun r44 hr44 hy36=>W.call S rfl (zEt S.holds x41 hr44) ?_
   rintro v45 w46 H47 hle48 S rfl
   have R23:=Sl.mono R23 hle48
   have R18:=Sl.mono R18 hle48
   refine A<|We<|Ws<|Ws<|Wg<|M<|Na<|We ?_
   rcases condE hy36 with ⟨hc49,hy36⟩ | ⟨hc49,hy36⟩
   ·refine CT hc49<|Wx<|Wg<|Lg' h28 rfl<|M<|We ?_
    obtain rfl:=oi hy36
    exact ⟨rfl,⟨H47,v22,h20,h24,h25,h26,rfl,R23,R18,S⟩⟩
   refine CF hc49<|Wk<|Ws<|Wg<|M<|B hy36 fun r50 hr50 hy36=>W.call S rfl (zK9 S.holds r44 hr50) ?_
   rintro v51 w52 H53 hle54 S rfl
   have R23:=Sl.mono R23 hle54
   have R18:=Sl.mono R18 hle54
   refine M ?_
   refine Ex ?_
   refine Ex ?_
   refine Ex<|A<|A<|A<|We<|Ws<|Ws<|Wg<|M ?_
   refine No<|We ?_
   rcases condE hy36 with ⟨hc55,hy36⟩ | ⟨hc55,hy36⟩
   ·refine CT hc55<|Ws<|Wg<|A<|A<|A<|We ?_
    obtain rfl:=oi hy36
    obtain rfl:=hy37
    obtain rfl:=oi h
    refine WP.ret (Out.three rfl S rfl rfl rfl ?_)
    exact ⟨_,rfl,Sl.nil⟩
   refine CF hc55<|Wk<|Wg<|M' h24<|M<|M ?_
   refine WL.w (R.build [(0,(str r50.1)),(1,(str r50.2.1))] [(str r50.1),(str r50.2.1)] bp161 zJr rfl rfl)<|W.bslice (α:=GParam) [(agg [(str r50.1),(str r50.2.1)])] ([(⟨r50.1,r50.2.1⟩:GParam)]:List GParam) S el156 rfl rfl rfl (by decide) (Go.Eng.encS ⟨rfl,rfl⟩ enc0) ?_
   intro u56 w57 H58 hle59 R60 S
   have R23:=Sl.mono R23 hle59
   have R18:=Sl.mono R18 hle59
   refine B hy36 fun l61 hl61 hy36=>W.app (α:=GParam) (i:=1) S el156 rfl rfl rfl R23 R60 hl61 ?_
   intro v62 w63 H64 hle65 R66 S
   have R23:=Sl.mono R23 hle65
   have R18:=Sl.mono R18 hle65
   refine A<|We<|Wg<|Lg' h28 rfl<|M<|We ?_
   obtain rfl:=oi hy36
   exact ⟨rfl,⟨H64,v62,h20,rfl,h25,h26,rfl,R66,R18,(S.drop _ (.cons _ (.cons_cons _ .slnil)))⟩⟩
  refine CF hc40<|Wx ?_
  obtain rfl:=oi hy36
  obtain rfl:=hy37
  exact ⟨H19,v22,h20,h24,R23,S⟩
 intro f w hM
 rcases r38 with l_31 | e
 ·obtain ⟨H29,v32,h30,h34,R33,S⟩:=hM
  refine Ws<|Wg<|M' h30<|M' h34<|A<|A<|A<|We ?_
  obtain rfl:=oi h
  refine WP.ret (Out.three rfl S rfl rfl rfl ?_)
  exact ⟨_,rfl,R33⟩
 exact hM.elim
theorem zB9 {w0:World} {H0:Hp} (hw:Holds w0 H0) (p_s:Str) {r:(GMediaType×Bool)} (h:zA3 p_s=some r) :
  Con Tryz.prog 244 [(str p_s)] w0 H0 (fun H' v=>∃ u1:Value,v=(.tuple ⟨[(agg [(str r.1.fType),(str r.1.fSub),u1]),(boo r.2)]⟩)∧Sl (α:=GParam) H' u1 r.1.fParams):=by
 refine Con.mk (N:=48) Tryz.func244 rfl rfl kr rfl ?_
 have S:=St.start hw
 refine Ws<|Wg ?_
 refine W.alloc [(str []),(str []),(.slice none 0 0)] S zC7 ?_
 intro b1 w2 S
 refine A<|We<|Ws<|Wg<|M<|B h fun r3 hr3 h=>W.call S rfl (zHO S.holds p_s hr3) ?_
 rintro v4 w5 H6 hle7 S ⟨u8,rfl,R9⟩
 refine M ?_
 refine Ex ?_
 refine Ex ?_
 refine Ex<|A<|A<|A<|We<|Ws<|Ws<|Wg<|M ?_
 refine No<|We ?_
 rcases condE h with ⟨hc10,h⟩ | ⟨hc10,h⟩
 ·refine CT hc10<|Ws<|Wg ?_
  refine WL.w (R.build [] [(str []),(str []),(.slice none 0 0)] bp158 zC7 rfl rfl) ?_
  refine W.store (i:=0) [(str []),(str []),(.slice none 0 0)] S rfl rfl rfl zAw rfl (AllOne.all (l:=[(str []),(str []),(.slice none 0 0)]) (.cons rfl (.cons rfl (.cons rfl .nil)))) (Nat.le_of_ble_eq_true rfl) rfl ?_
  intro w11 S
  refine A<|We ?_
  obtain rfl:=oi h
  refine WP.ret (Out.two rfl S (Res.cellB (i:=0) (cs:=[(str []),(str []),(.slice none 0 0)]) S rfl rfl zAw rfl rfl) rfl ?_)
  exact ⟨_,rfl,Sl.nil⟩
 refine CF hc10<|Wk<|Ws<|Wg<|M<|B h fun r12 hr12 h=>W.call S rfl (zHN S.holds r3.1 [47] hr12) ?_
 rintro v13 w14 H15 hle16 S rfl
 have R9:=Sl.mono R9 hle16
 refine M ?_
 refine Ex ?_
 refine Ex ?_
 refine Ex<|A<|A<|A<|We<|Ws<|Ws<|Wg<|M<|B h fun r17 hr17 h=>W.call S rfl (zAv S.holds r12.1 hr17) ?_
 rintro v18 w19 H20 hle21 S rfl
 have R9:=Sl.mono R9 hle21
 refine No<|M<|B h fun b29 hg23 h=>WL.grpw 4 [29,30,31] 32 (boo b29) (fun w=>∃ H':Hp,H20.le H'∧St w0 H0 w H' [.box b1 158 [(str []),(str []),(.slice none 0 0)]]) ?_ ?_
 ·rcases boolE (!r17) with hb22 | hb22
  ·replace hg23:=condT hg23 hb22
   refine Gn hb22<|Gn hb22<|Gn hb22<|Pt hb22 ?_
   exact We ⟨(congrArg boo (oi hg23)),ag,⟨H20,(Hp.le.refl _),S⟩⟩
  replace hg23:=condF hg23 hb22
  refine Gy hb22<|M<|Gy hb22<|B hg23 fun r24 hr24 hg23=>W.call S rfl (zAv S.holds r12.2.1 hr24) ?_
  rintro v25 w26 H27 hle28 S rfl
  have R9:=Sl.mono R9 hle28
  refine Gy hb22<|No<|Pf hb22 ?_
  exact We ⟨(congrArg boo (oi hg23)),ag,⟨H27,hle28,S⟩⟩
 intro us w31 ⟨H30,hle32,S⟩
 have R9:=Sl.mono R9 hle32
 refine M ?_
 refine WL.grp 7 [34,35,36,37,38,39] 40 (boo (b29||((r12.1==[42])&&(r12.2.1 !=[42])))) ?_ ?_
 ·rcases boolE b29 with hb33 | hb33
  ·refine Gn hb33<|Gn hb33<|Gn hb33<|WL.gund rfl rfl<|WL.gund rfl rfl<|Gn hb33<|Pt hb33 ?_
   exact We ⟨(orT hb33),ag,rfl⟩
  refine Gy hb33<|M<|Gy hb33<|Na<|Gy hb33<|M ?_
  refine WL.grp 3 [37,38] 39 (boo ((r12.1==[42])&&(r12.2.1 !=[42]))) ?_ ?_
  ·rcases boolE (r12.1==[42]) with hb35 | hb35
   ·refine Gy hb35<|M<|Gy hb35<|Nb<|Gy hb33<|Pt hb35 ?_
    exact We ⟨(andT hb35),ag,rfl⟩
   refine Gn hb35<|Gn hb35<|Gy hb33<|Pf hb35 ?_
   exact We ⟨(andF hb35),ag,rfl⟩
  intro us
  refine Pf hb33 ?_
  exact We ⟨(orF hb33),ag,rfl⟩
 intro us
 refine We ?_
 rcases condE h with ⟨hc37,h⟩ | ⟨hc37,h⟩
 ·refine CT hc37<|Ws<|Wg ?_
  refine WL.w (R.build [] [(str []),(str []),(.slice none 0 0)] bp158 zC7 rfl rfl) ?_
  refine W.store (i:=0) [(str []),(str []),(.slice none 0 0)] S rfl rfl rfl zAw rfl (AllOne.all (l:=[(str []),(str []),(.slice none 0 0)]) (.cons rfl (.cons rfl (.cons rfl .nil)))) (Nat.le_of_ble_eq_true rfl) rfl ?_
  intro w38 S
  refine A<|We ?_
  obtain rfl:=oi h
  refine WP.ret (Out.two rfl S (Res.cellB (i:=0) (cs:=[(str []),(str []),(.slice none 0 0)]) S rfl rfl zAw rfl rfl) rfl ?_)
  exact ⟨_,rfl,Sl.nil⟩
 refine CF hc37<|Wk<|Ws<|Wg<|M<|B h fun r39 hr39 h=>W.call S rfl (zAe S.holds r12.1 hr39) ?_
 rintro v40 w41 H42 hle43 S rfl
 have R9:=Sl.mono R9 hle43
 refine M<|B h fun r44 hr44 h=>W.call S rfl (zAe S.holds r12.2.1 hr44) ?_
 rintro v45 w46 H47 hle48 S rfl
 have R9:=Sl.mono R9 hle48
 refine M ?_
 refine WL.w (R.build [(0,(str r39)),(1,(str r44)),(2,u8)] [(str r39),(str r44),u8] bp158 zC7 rfl (by obtain ⟨_,_,rfl,_⟩:=R9; rfl)) ?_
 refine W.store (i:=0) [(str r39),(str r44),u8] S rfl rfl rfl zAw rfl (AllOne.all (l:=[(str r39),(str r44),u8]) (.cons rfl (.cons rfl (.cons (Sl.oneC R9) .nil)))) (Nat.le_of_ble_eq_true rfl) rfl ?_
 intro w49 S
 refine A<|We ?_
 obtain rfl:=oi h
 refine WP.ret (Out.two rfl S (Res.cellB (i:=0) (cs:=[(str r39),(str r44),u8]) S rfl rfl zAw rfl rfl) rfl ?_)
 exact ⟨_,rfl,R9⟩
theorem zFe {w0:World} {H0:Hp} (hw:Holds w0 H0) (p_s:Str) {r:(GMediaType×Bool)} (h:zCa p_s=some r) :
  Con Tryz.prog 249 [(str p_s)] w0 H0 (fun H' v=>∃ u1:Value,v=(.tuple ⟨[(agg [(str r.1.fType),(str r.1.fSub),u1]),(boo r.2)]⟩)∧Sl (α:=GParam) H' u1 r.1.fParams):=by
 refine Con.mk (N:=25) Tryz.func249 rfl rfl kr rfl ?_
 have S:=St.start hw
 refine Ws<|Wg ?_
 refine W.alloc [(str []),(str []),(.slice none 0 0)] S zC7 ?_
 intro b1 w2 S
 refine A<|We<|Ws<|Wg<|M<|B h fun r3 hr3 h=>W.call S rfl (zB9 S.holds p_s hr3) ?_
 rintro v4 w5 H6 hle7 S ⟨u8,rfl,R9⟩
 refine M ?_
 refine Ex ?_
 refine Ex ?_
 refine W.alloc [(str []),(str []),(.slice none 0 0)] S zC7 ?_
 intro b10 w11 S
 refine W.store (i:=0) [(str r3.1.fType),(str r3.1.fSub),u8] S rfl rfl rfl zAw rfl (AllOne.all (l:=[(str r3.1.fType),(str r3.1.fSub),u8]) (.cons rfl (.cons rfl (.cons (Sl.oneC R9) .nil)))) (Nat.le_of_ble_eq_true rfl) rfl ?_
 intro w12 S
 refine A<|We<|Ws<|Ws<|Wg<|M<|No<|M ?_
 refine WL.grp 4 [14,15,16] 17 (boo ((!r3.2)||(r3.1.fType==[42]))) ?_ ?_
 ·rcases boolE (!r3.2) with hb13 | hb13
  ·refine Gn hb13<|Gn hb13<|Gn hb13<|Pt hb13 ?_
   exact We ⟨(orT hb13),ag,rfl⟩
  refine Gy hb13<|Fb<|Gy hb13 ?_
  refine Lo 0 S<|Gy hb13<|Na<|Pf hb13 ?_
  exact We ⟨(orF hb13),ag,rfl⟩
 intro us
 refine M ?_
 refine WL.grp 4 [19,20,21] 22 (boo (((!r3.2)||(r3.1.fType==[42]))||(r3.1.fSub==[42]))) ?_ ?_
 ·rcases boolE ((!r3.2)||(r3.1.fType==[42])) with hb15 | hb15
  ·refine Gn hb15<|Gn hb15<|Gn hb15<|Pt hb15 ?_
   exact We ⟨(orT hb15),ag,rfl⟩
  refine Gy hb15<|Fb<|Gy hb15 ?_
  refine Lo 0 S<|Gy hb15<|Na<|Pf hb15 ?_
  exact We ⟨(orF hb15),ag,rfl⟩
 intro us
 refine We ?_
 rcases condE h with ⟨hc17,h⟩ | ⟨hc17,h⟩
 ·refine CT hc17<|Ws<|Wg ?_
  refine WL.w (R.build [] [(str []),(str []),(.slice none 0 0)] bp158 zC7 rfl rfl) ?_
  refine W.store (i:=1) [(str []),(str []),(.slice none 0 0)] S rfl rfl rfl zAw rfl (AllOne.all (l:=[(str []),(str []),(.slice none 0 0)]) (.cons rfl (.cons rfl (.cons rfl .nil)))) (Nat.le_of_ble_eq_true rfl) rfl ?_
  intro w18 S
  refine A<|We ?_
  obtain rfl:=oi h
  refine WP.ret (Out.two rfl S (Res.cellB (i:=1) (cs:=[(str []),(str []),(.slice none 0 0)]) S rfl rfl zAw rfl rfl) rfl ?_)
  exact ⟨_,rfl,Sl.nil⟩
 refine CF hc17<|Wk<|Ws<|Wg ?_
 refine WL.w (R.loadBN (i:=0) (vs:=[(str r3.1.fType),(str r3.1.fSub),u8]) S rfl rfl zAw rfl rfl) ?_
 refine W.store (i:=1) [(str r3.1.fType),(str r3.1.fSub),u8] S rfl rfl rfl zAw rfl (AllOne.all (l:=[(str r3.1.fType),(str r3.1.fSub),u8]) (.cons rfl (.cons rfl (.cons (Sl.oneC R9) .nil)))) (Nat.le_of_ble_eq_true rfl) rfl ?_
 intro w19 S
 refine A<|We ?_
 obtain rfl:=oi h
 refine WP.ret (Out.two rfl S (Res.cellB (i:=1) (cs:=[(str r3.1.fType),(str r3.1.fSub),u8]) S rfl rfl zAw rfl rfl) rfl ?_)
 exact ⟨_,rfl,R9⟩
theorem zFv {w0:World} {H0:Hp} (hw:Holds w0 H0) (p_x:GParam) (c_x0:GParam) {ac_x0:Addr} (Ac_x0:At H0 ac_x0 [(str c_x0.fName),(str c_x0.fValue)]) {r:Bool} (h:zBr p_x c_x0=some r) :
  Con Tryz.prog 290 [(agg [(str p_x.fName),(str p_x.fValue)]),(.pointer (some ac_x0))] w0 H0 (fun H' v=>v=(boo r)):=by
 refine Con.mk (N:=9) Tryz.func290 rfl rfl kr rfl ?_
 have S:=St.start hw
 refine Ws<|Wg ?_
 refine W.box [(str p_x.fName),(str p_x.fValue)] S rfl rfl ?_
 intro b1 w2 S
 refine A<|We<|Ws<|Wg<|Fb ?_
 refine Lo 0 S<|Fc ?_
 have hA3:=At.add Ac_x0 0 (by simp)
 refine Lq S hA3<|Na<|A<|We ?_
 obtain rfl:=oi h
 refine WP.ret (Out.one rfl S rfl ?_)
 exact rfl
theorem zBE {w0:World} {H0:Hp} (hw:Holds w0 H0) (p_s:(List GParam)) (p_f:(GParam→Option Bool)) {vp_s:Value} {kp_f:FuncId} {cp_f:List Value} (Rp_s:Sl (α:=GParam) H0 vp_s p_s) (Fp_f:∀ {w:World} {H:Hp},H0.le H→Holds w H→∀ (x0:GParam) (rr:Bool),p_f x0=some rr→Con Tryz.prog kp_f ([(agg [(str x0.fName),(str x0.fValue)])]++cp_f) w H (fun H' v=>v=(boo rr))) {r:Int} (h:zAS p_s p_f=some r) :
  Con Tryz.prog 216 [vp_s,(.func (.func kp_f) #[] cp_f.toArray)] w0 H0 (fun H' v=>v=(int r)):=by
 refine Con.mk (N:=19) Tryz.func216 rfl rfl kr rfl ?_
 have S:=St.start hw
 refine Ws<|Wg<|A<|We<|Ws<|Ws<|Wg<|M<|Nq Rp_s<|M<|We<|B h fun r11 hr12 h=>WP.cut (fun f w=>match r11 with | .inl _=>∃ (H7:Hp),St w0 H0 w H7 [] | .inr _=>False) ?_ ?_
 ·refine Wb ?_
  refine WP.loopM (zAL p_s p_f) (fun s f w=>match s with | y_5=>∃ (H1:Hp),f 0=vp_s∧f 1=(.func (.func kp_f) #[] cp_f.toArray)∧f 7=(int (p_s.length:Int))∧f 8=(int y_5)∧Sl (α:=GParam) H1 vp_s p_s∧St w0 H0 w H1 []) 0 r11 hr12 ?_ ?_
  ·exact ⟨H0,rfl,rfl,rfl,rfl,Rp_s,S⟩
  intro y_5 f w hI y8 hy9 hy10
  obtain ⟨H1,h2,h3,h4,h6,Rp_s,S⟩:=hI
  refine Ws<|Wg<|La' h6 h4<|We<|Ws ?_
  rcases condE hy9 with ⟨hc13,hy9⟩ | ⟨hc13,hy9⟩
  ·refine CT hc13<|Wk<|Ws<|Wb<|Ws<|Wg<|M' h6<|A<|We<|Ws<|Wg<|M' h3 ?_
   refine M' h2<|M<|B hy9 fun x14 hx14 hy9=>W.idx (α:=GParam) Rp_s rfl rfl el156 hx14 ?_
   rintro a15 _ hA16 rfl
   refine WL.w (R.loadHN (vs:=[(str x14.fName),(str x14.fValue)]) S rfl hA16 zGn rfl rfl)<|B hy9 fun r17 hr17 hy9=>W.callv S rfl rfl (Fp_f (S.post.le) S.holds x14 _ hr17) ?_
   rintro v18 w19 H20 hle21 S rfl
   have Rp_s:=Sl.mono Rp_s hle21
   refine We ?_
   rcases condE hy9 with ⟨hc22,hy9⟩ | ⟨hc22,hy9⟩
   ·refine CT hc22<|Ws<|Wg<|M<|A<|We ?_
    obtain rfl:=oi hy9
    obtain rfl:=hy10
    obtain rfl:=oi h
    refine WP.ret (Out.one rfl S rfl ?_)
    exact rfl
   refine CF hc22<|Wk<|Wg<|Lg' h6 rfl<|M<|We ?_
   obtain rfl:=oi hy9
   exact ⟨rfl,⟨H20,h2,h3,h4,rfl,Rp_s,S⟩⟩
  refine CF hc13<|Wx ?_
  obtain rfl:=oi hy9
  obtain rfl:=hy10
  exact ⟨H1,S⟩
 intro f w hM
 rcases r11 with _ | e
 ·obtain ⟨H7,S⟩:=hM
  refine Ws<|Wg<|A<|We ?_
  obtain rfl:=oi h
  refine WP.ret (Out.one rfl S rfl ?_)
  exact rfl
 exact hM.elim
theorem zCH {w0:World} {H0:Hp} (hw:Holds w0 H0) (p_s:(List GParam)) (p_f:(GParam→Option Bool)) {vp_s:Value} {kp_f:FuncId} {cp_f:List Value} (Rp_s:Sl (α:=GParam) H0 vp_s p_s) (Fp_f:∀ {w:World} {H:Hp},H0.le H→Holds w H→∀ (x0:GParam) (rr:Bool),p_f x0=some rr→Con Tryz.prog kp_f ([(agg [(str x0.fName),(str x0.fValue)])]++cp_f) w H (fun H' v=>v=(boo rr))) {r:Bool} (h:zAU p_s p_f=some r) :
  Con Tryz.prog 289 [vp_s,(.func (.func kp_f) #[] cp_f.toArray)] w0 H0 (fun H' v=>v=(boo r)):=by
 refine Con.mk (N:=9) Tryz.func289 rfl rfl kr rfl ?_
 have S:=St.start hw
 refine Ws<|Wg<|A<|We<|Ws<|Wg<|M<|M<|B h fun r1 hr1 h=>W.call S rfl (zBE S.holds p_s p_f Rp_s (fun hle=>Fp_f (Hp.le.trans S.post.le hle)) hr1) ?_
 rintro v2 w3 H4 hle5 S rfl
 refine Ld<|A<|We ?_
 obtain rfl:=oi h
 refine WP.ret (Out.one rfl S rfl ?_)
 exact rfl
theorem zGd {w0:World} {H0:Hp} (hw:Holds w0 H0) (p_x0:Unit) (p_s:Str) {r:(Str×Bool)} (h:zCE p_x0 p_s=some r) :
  Con Tryz.prog 288 [(agg []),(str p_s)] w0 H0 (fun H' v=>v=(.tuple ⟨[(str r.1),(boo r.2)]⟩)):=by
 refine Con.mk (N:=42) Tryz.func288 rfl rfl kr rfl ?_
 have S:=St.start hw
 refine Ws<|Wg ?_
 refine W.box [] S rfl rfl ?_
 intro b1 w2 S
 refine A<|A<|We<|Ws<|Wg<|M<|B h fun r3 hr3 h=>W.call S rfl (zFe S.holds p_s hr3) ?_
 rintro v4 w5 H6 hle7 S ⟨u8,rfl,R9⟩
 refine M ?_
 refine Ex ?_
 refine Ex ?_
 refine W.alloc [(str []),(str []),(.slice none 0 0)] S zC7 ?_
 intro b10 w11 S
 refine W.store (i:=0) [(str r3.1.fType),(str r3.1.fSub),u8] S rfl rfl rfl zAw rfl (AllOne.all (l:=[(str r3.1.fType),(str r3.1.fSub),u8]) (.cons rfl (.cons rfl (.cons (Sl.oneC R9) .nil)))) (Nat.le_of_ble_eq_true rfl) rfl ?_
 intro w12 S
 refine A<|We<|Ws<|Ws<|Wg<|Fb ?_
 refine Lo 0 S<|Nq R9<|M<|We<|B h fun ok_24 hr30 h=>WP.cut (fun f w=>∃ (H22:Hp),f 1=(str p_s)∧f 7=(boo ok_24)∧St w0 H0 w H22 []) ?_ ?_
 ·refine Wb ?_
  refine WP.loopM (zA6 r3) (fun s f w=>match s with | (ok_16,y_20)=>∃ (H13:Hp),f 1=(str p_s)∧f 6=(ptr b10 0)∧f 7=(boo ok_16)∧f 16=u8∧f 17=(int (r3.1.fParams.length:Int))∧f 18=(int y_20)∧Sl (α:=GParam) H13 u8 r3.1.fParams∧St w0 H0 w H13 [.box b10 158 [(str r3.1.fType),(str r3.1.fSub),u8]]) (r3.2,0) ok_24 hr30 ?_ ?_
  ·exact ⟨H6,rfl,rfl,rfl,rfl,rfl,rfl,R9,(S.drop _ (.cons_cons _ (.cons _ .slnil)))⟩
  intro s f w hI y26 hy27 hy28
  obtain ⟨ok_16,y_20⟩:=s
  obtain ⟨H13,h14,h15,h17,h18,h19,h21,R9,S⟩:=hI
  refine Ws<|Wg<|La' h21 h19<|We<|Ws ?_
  rcases condE hy27 with ⟨hc31,hy27⟩ | ⟨hc31,hy27⟩
  ·refine CT hc31<|Wk<|Ws<|Wb<|Ws<|Wg<|M' h21<|B hy27 fun x32 hx32 hy27=>W.idx (α:=GParam) R9 h18 h21 el156 hx32 ?_
   rintro a33 _ hA34 rfl
   refine WL.w (R.loadHN (vs:=[(str x32.fName),(str x32.fValue)]) S rfl hA34 zGn rfl rfl) ?_
   refine W.alloc [(str []),(str [])] S zJr ?_
   intro b35 w36 S
   refine A ?_
   refine W.store (i:=0) [(str x32.fName),(str x32.fValue)] S rfl rfl rfl zGn rfl rfl (Nat.le_of_ble_eq_true rfl) rfl ?_
   intro w37 S
   refine We<|Wg<|M' h17<|M ?_
   refine WL.grp 4 [25,26,27] 28 (boo (ok_16&&(x32.fName !=[113]))) ?_ ?_
   ·rcases boolE ok_16 with hb38 | hb38
    ·refine Gy hb38<|Fb<|Gy hb38 ?_
     refine Lo 0 S<|Gy hb38<|Nb<|Pt hb38 ?_
     exact We ⟨(andT hb38),ag,rfl⟩
    refine Gn hb38<|Gn hb38<|Gn hb38<|Pf hb38 ?_
    exact We ⟨(andF hb38),ag,rfl⟩
   intro us
   refine M ?_
   obtain ⟨H40,hle41,hs42,_,S⟩:=S.settle (i:=0) rfl
   replace S:St w0 H0 _ H40 [.box b10 158 [(str r3.1.fType),(str r3.1.fSub),u8]]:=S
   have hA43:At H40 ⟨b35,0,none⟩ [(str x32.fName),(str x32.fValue)]:=⟨_,_,rfl,hs42,[],by simp⟩
   have R9:=Sl.mono R9 hle41
   refine B hy27 fun b54 hg45 hy27=>WL.grpw 8 [30,31,32,33,34,35,36] 37 (boo b54) (fun w=>∃ H':Hp,H40.le H'∧St w0 H0 w H' [.box b10 158 [(str r3.1.fType),(str r3.1.fSub),u8]]) ?_ ?_
   ·rcases boolE (ok_16&&(x32.fName !=[113])) with hb44 | hb44
    ·replace hg45:=condT hg45 hb44
     refine Gy hb44<|Fb' h15<|Gy hb44 ?_
     refine Lo 0 S<|Gy hb44<|M<|Gy hb44<|B hg45 fun l46 hl46 hg45=>W.subHi (α:=GParam) R9 rfl rfl el156 hl46 ?_
     intro v47 R48
     refine Gy hb44 ?_
     refine WL.w (R.mkFunc (vs:=[(.pointer (some ⟨b35,0,none⟩))]) rfl)<|Gy hb44<|B hg45 fun r49 hr49 hg45=>W.call S rfl (zCH S.holds l46 (fun x0=>zBr x0 x32) R48 (fun hle hw x0 r h=>zFv hw x0 x32 (At.mono hA43 hle (by simp)) h) hr49) ?_
     rintro v50 w51 H52 hle53 S rfl
     have R9:=Sl.mono R9 hle53
     refine Gy hb44<|No<|Pt hb44 ?_
     exact We ⟨(congrArg boo (oi hg45)),ag,⟨H52,hle53,S⟩⟩
    replace hg45:=condF hg45 hb44
    refine Gn hb44<|Gn hb44<|Gn hb44<|Gn hb44<|Gn hb44<|Gn hb44<|Gn hb44<|Pf hb44 ?_
    exact We ⟨(congrArg boo (oi hg45)),ag,⟨H40,(Hp.le.refl _),S⟩⟩
   intro us w56 ⟨H55,hle57,S⟩
   have R9:=Sl.mono R9 hle57
   refine A<|We<|Wg<|Lg' h21 rfl<|M<|We ?_
   obtain rfl:=oi hy27
   exact ⟨rfl,⟨H55,h14,h15,rfl,h18,h19,rfl,R9,S⟩⟩
  refine CF hc31<|Wx ?_
  obtain rfl:=oi hy27
  obtain rfl:=hy28
  exact ⟨H13,h14,h17,(S.drop _ (.cons _ .slnil))⟩
 rintro f w ⟨H22,h23,h25,S⟩
 refine Ws<|Wg<|M' h23<|B h fun r58 hr58 h=>W.call S rfl (zAe S.holds p_s hr58) ?_
 rintro v59 w60 H61 hle62 S rfl
 refine M' h25<|A<|A<|We ?_
 obtain rfl:=oi h
 refine WP.ret (Out.two rfl S rfl rfl ?_)
 exact rfl
theorem zGZ {w0:World} {H0:Hp} (hw:Holds w0 H0) (p_s:Str) (p_substr:Str) {r:Int} (h:zDj p_s p_substr=some r) :
  Con Tryz.prog 157 [(str p_s),(str p_substr)] w0 H0 (fun H' v=>v=(int r)):=by
 refine Con.mk (N:=8) Tryz.func157 rfl rfl kr rfl ?_
 have S:=St.start hw
 refine Ws<|Wg<|A<|We<|Ws<|Wg<|M<|M<|B h fun r1 hr1 h=>W.call S rfl (zEk S.holds p_s p_substr hr1) ?_
 rintro v2 w3 H4 hle5 S rfl
 refine A<|We ?_
 obtain rfl:=oi h
 refine WP.ret (Out.one rfl S rfl ?_)
 exact rfl
theorem zGW {w0:World} {H0:Hp} (hw:Holds w0 H0) (p_s:Str) (p_substr:Str) {r:Int} (h:zCr p_s p_substr=some r) :
  Con Tryz.prog 261 [(str p_s),(str p_substr)] w0 H0 (fun H' v=>v=(int r)):=by
 refine Con.mk (N:=34) Tryz.func261 rfl rfl kr rfl ?_
 have S:=St.start hw
 refine Ws<|Wg<|A<|We<|Ws<|Ws<|Wg<|M<|Ns<|Le<|We ?_
 rcases condE h with ⟨hc1,h⟩ | ⟨hc1,h⟩
 ·refine CT hc1<|Ws<|Wg<|M ?_
  cases h
 refine CF hc1<|Wk<|Ws<|Ws<|Wg<|M<|Ns<|Le<|We ?_
 rcases condE h with ⟨hc2,h⟩ | ⟨hc2,h⟩
 ·refine CT hc2<|Ws<|Wg<|M<|M<|B h fun c3 hc3 h=>Ja hc3<|W.countString (s:=p_s) (c:=c3) Tryz.func270 rfl rfl kr kr rfl rfl<|A<|We ?_
  obtain rfl:=oi h
  refine WP.ret (Out.one rfl S rfl ?_)
  exact rfl
 refine CF hc2<|Wk<|Ws<|Wg<|A<|We<|B h fun r13 hr14 h=>WP.cut (fun _ _=>False) ?_ (fun _ _ h=>h.elim)
 refine Wb ?_
 refine WP.loopM (zGX p_substr) (fun s f w=>match s with | (s_5,n_8)=>∃ (H4:Hp),f 0=(str s_5)∧f 1=(str p_substr)∧f 5=(int n_8)∧St w0 H0 w H4 []) (p_s,0) r13 hr14 ?_ ?_
 ·exact ⟨H0,rfl,rfl,rfl,S⟩
 intro s f w hI y10 hy11 hy12
 obtain ⟨s_5,n_8⟩:=s
 obtain ⟨H4,h6,h7,h9,S⟩:=hI
 refine Wb<|Ws<|Wg<|M' h6<|M' h7<|B hy11 fun r15 hr15 hy11=>W.call S rfl (zGZ S.holds s_5 p_substr hr15) ?_
 rintro v16 w17 H18 hle19 S rfl
 refine A<|We<|Ws<|Ws<|Wg<|M<|Le<|We ?_
 rcases condE hy11 with ⟨hc20,hy11⟩ | ⟨hc20,hy11⟩
 ·refine CT hc20<|Ws<|Wg<|M' h9<|A<|We ?_
  obtain rfl:=oi hy11
  obtain rfl:=hy12
  obtain rfl:=oi h
  refine WP.ret (Out.one rfl S rfl ?_)
  exact rfl
 refine CF hc20<|Wk<|Ws<|Wg<|M' h9<|Lg<|A<|We<|Wg<|M' h6<|M<|M' h7 ?_
 refine Ns<|Lg<|B hy11 fun s21 hs21 hy11=>Jc hs21<|A<|We ?_
 obtain rfl:=oi hy11
 exact ⟨rfl,⟨H18,rfl,h7,rfl,S⟩⟩
end Go.Proofs

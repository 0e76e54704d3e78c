/- A part of the proof of laws of the seat: written by program over the translation. -/
import Derived.Test.YtipgfplekgdoiaaGreatDoorEng38
import Derived.Test.YtipgfplekgdoiaaGreatDoorEng32
import Derived.Test.YtipgfplekgdoiaaGreatDoorGenK17
namespace Go.Proofs
set_option maxHeartbeats 4000000
set_option maxRecDepth 10000
open Go.Eng Go.Eng.Pure
set_option linter.unusedVariables false
theorem zRA {w0:World} {H0:Hp} (hw:Holds w0 H0) (p_ppend:GTable) (p_x1:(List GField)) (p_x2:Bool) {vp_ppend0:Value} {vp_ppend1:Value} {vp_x1:Value} (Rp_ppend0:Sl (α:=GAxis) H0 vp_ppend0 p_ppend.fAxes) (Rp_ppend1:Sl (α:=GEntry) H0 vp_ppend1 p_ppend.fEntries) (Rp_x1:Sl (α:=GField) H0 vp_x1 p_x1) {r:Bool} (h:zQ9 p_ppend p_x1 p_x2=some r) :
  Con Tryz.prog 5 [(agg [vp_ppend0,vp_ppend1]),vp_x1,(boo p_x2)] w0 H0 (fun H' v=>v=(boo r)):=by
 refine Con.mk (N:=99) Tryz.func5 rfl rfl kr rfl ?_
 have S:=St.start hw
 refine Ws<|Wg ?_
 refine W.box [vp_ppend0,vp_ppend1] S rfl rfl ?_
 intro b1 w2 S
 refine A<|We<|Ws<|Ws<|Wg ?_
 refine WL.w (R.loadBN (i:=0) (vs:=[vp_ppend0,vp_ppend1]) S rfl rfl lay25 rfl rfl)<|B h fun r3 hr3 h=>W.call S rfl (zKJ S.holds p_ppend Rp_ppend0 Rp_ppend1 hr3) ?_
 rintro v4 w5 H6 hle7 S rfl
 have Rp_ppend0:=Sl.mono Rp_ppend0 hle7
 have Rp_ppend1:=Sl.mono Rp_ppend1 hle7
 have Rp_x1:=Sl.mono Rp_x1 hle7
 refine No<|M<|B h fun b15 hg9 h=>WL.grpw 4 [17,18,19] 20 (boo b15) (fun w=>∃ H':Hp,H6.le H'∧St w0 H0 w H' [.box b1 25 [vp_ppend0,vp_ppend1]]) ?_ ?_
 ·rcases boolE (!r3) with hb8 | hb8
  ·replace hg9:=condT hg9 hb8
   refine Gn hb8<|Gn hb8<|Gn hb8<|Pt hb8 ?_
   exact We ⟨(congrArg boo (oi hg9)),ag,⟨H6,(Hp.le.refl _),S⟩⟩
  replace hg9:=condF hg9 hb8
  refine Gy hb8<|M<|Gy hb8<|B hg9 fun r10 hr10 hg9=>W.call S rfl (zHP S.holds p_x1 Rp_x1 hr10) ?_
  rintro v11 w12 H13 hle14 S rfl
  have Rp_ppend0:=Sl.mono Rp_ppend0 hle14
  have Rp_ppend1:=Sl.mono Rp_ppend1 hle14
  have Rp_x1:=Sl.mono Rp_x1 hle14
  refine Gy hb8<|No<|Pf hb8 ?_
  exact We ⟨(congrArg boo (oi hg9)),ag,⟨H13,hle14,S⟩⟩
 intro us w17 ⟨H16,hle18,S⟩
 have Rp_ppend0:=Sl.mono Rp_ppend0 hle18
 have Rp_ppend1:=Sl.mono Rp_ppend1 hle18
 have Rp_x1:=Sl.mono Rp_x1 hle18
 refine We ?_
 rcases condE h with ⟨hc19,h⟩ | ⟨hc19,h⟩
 ·refine CT hc19<|Ws<|Wg<|A<|We ?_
  obtain rfl:=oi h
  refine WP.ret (Out.one rfl S rfl ?_)
  exact rfl
 refine CF hc19<|Wk<|Ws<|Wg ?_
 refine WL.w (R.loadBN (i:=0) (vs:=[vp_ppend0,vp_ppend1]) S rfl rfl lay25 rfl rfl)<|M<|M<|B h fun r20 hr20 h=>W.call S rfl (zHx S.holds p_ppend p_x1 p_x2 Rp_ppend0 Rp_ppend1 Rp_x1 hr20) ?_
 rintro v21 w22 H23 hle24 S rfl
 have Rp_ppend0:=Sl.mono Rp_ppend0 hle24
 have Rp_ppend1:=Sl.mono Rp_ppend1 hle24
 have Rp_x1:=Sl.mono Rp_x1 hle24
 refine M ?_
 refine Ex ?_
 refine Ex<|A<|A<|We<|Ws<|Ws<|Wg<|M<|La<|We ?_
 rcases condE h with ⟨hc25,h⟩ | ⟨hc25,h⟩
 ·refine CT hc25<|Ws<|Wg<|M<|Le<|M ?_
  refine WL.grp 8 [33,34,35,36,37,38,39] 40 (boo ((r20.1==(-1))&&(r20.2||(decide (0<(p_ppend.fAxes.length:Int)))))) ?_ ?_
  ·rcases boolE (r20.1==(-1)) with hb26 | hb26
   ·refine Gy hb26<|M<|Gy hb26<|M ?_
    refine WL.grp 5 [35,36,37,38] 39 (boo (r20.2||(decide (0<(p_ppend.fAxes.length:Int))))) ?_ ?_
    ·rcases boolE r20.2 with hb28 | hb28
     ·refine Gn hb28<|Gn hb28<|Gn hb28<|Gn hb28<|Gy hb26<|Pt hb28 ?_
      exact We ⟨(orT hb28),ag,rfl⟩
     refine Gy hb28<|Fb<|Gy hb28 ?_
     refine Lo 0 S<|Gy hb28<|Nq Rp_ppend0<|Gy hb28<|Lc<|Gy hb26<|Pf hb28 ?_
     exact We ⟨(orF hb28),ag,rfl⟩
    intro us
    refine Pt hb26 ?_
    exact We ⟨(andT hb26),ag,rfl⟩
   refine Gn hb26<|Gn hb26<|WL.gund rfl rfl<|WL.gund rfl rfl<|WL.gund rfl rfl<|WL.gund rfl rfl<|Gn hb26<|Pf hb26 ?_
   exact We ⟨(andF hb26),ag,rfl⟩
  intro us
  refine M<|B h fun b37 hg31 h=>WL.grpw 2 [42] 43 (boo b37) (fun w=>∃ H':Hp,H23.le H'∧St w0 H0 w H' [.box b1 25 [vp_ppend0,vp_ppend1]]) ?_ ?_
  ·rcases boolE ((r20.1==(-1))&&(r20.2||(decide (0<(p_ppend.fAxes.length:Int))))) with hb30 | hb30
   ·replace hg31:=condT hg31 hb30
    refine Gy hb30<|B hg31 fun r32 hr32 hg31=>W.call S rfl (zJi S.holds  hr32) ?_
    rintro v33 w34 H35 hle36 S rfl
    have Rp_ppend0:=Sl.mono Rp_ppend0 hle36
    have Rp_ppend1:=Sl.mono Rp_ppend1 hle36
    have Rp_x1:=Sl.mono Rp_x1 hle36
    refine Pt hb30 ?_
    exact We ⟨(congrArg boo (oi hg31)),ag,⟨H35,hle36,S⟩⟩
   replace hg31:=condF hg31 hb30
   refine Gn hb30<|Pf hb30 ?_
   exact We ⟨(congrArg boo (oi hg31)),ag,⟨H23,(Hp.le.refl _),S⟩⟩
  intro us w39 ⟨H38,hle40,S⟩
  have Rp_ppend0:=Sl.mono Rp_ppend0 hle40
  have Rp_ppend1:=Sl.mono Rp_ppend1 hle40
  have Rp_x1:=Sl.mono Rp_x1 hle40
  refine A<|We ?_
  obtain rfl:=oi h
  refine WP.ret (Out.one rfl S rfl ?_)
  exact rfl
 refine CF hc25<|Wk<|Ws<|Ws<|Wg<|M<|Fb ?_
 refine Lo 0 S<|Nq Rp_ppend1<|Ld<|M ?_
 refine WL.grp 3 [50,51] 52 (boo ((decide ((p_ppend.fEntries.length:Int)≤r20.1))||(!r20.2))) ?_ ?_
 ·rcases boolE (decide ((p_ppend.fEntries.length:Int)≤r20.1)) with hb41 | hb41
  ·refine Gn hb41<|Gn hb41<|Pt hb41 ?_
   exact We ⟨(orT hb41),ag,rfl⟩
  refine Gy hb41<|M<|Gy hb41<|No<|Pf hb41 ?_
  exact We ⟨(orF hb41),ag,rfl⟩
 intro us
 refine We ?_
 rcases condE h with ⟨hc43,h⟩ | ⟨hc43,h⟩
 ·refine CT hc43<|Ws<|Wg<|A<|We ?_
  obtain rfl:=oi h
  refine WP.ret (Out.one rfl S rfl ?_)
  exact rfl
 refine CF hc43<|Wk<|Ws<|Wg<|Fb ?_
 refine Lo 0 S<|M<|B h fun x44 hx44 h=>W.idx (α:=GEntry) Rp_ppend1 rfl rfl el23 hx44 ?_
 rintro a45 _ hA46 ⟨v47,v49,v51,v53,rfl,R48,R50,R52,R54⟩
 refine WL.w (R.loadHN (vs:=[v47,v49,v51,(str x44.fReason),v53,(str x44.fBody),(int x44.fRequested),(int x44.fReceived)]) S rfl hA46 lay36 rfl rfl) ?_
 refine W.alloc [(.slice none 0 0),(.slice none 0 0),(.slice none 0 0),(str []),(.slice none 0 0),(str []),(int 0),(int 0)] S zer36 ?_
 intro b55 w56 S
 refine W.store (i:=0) [v47,v49,v51,(str x44.fReason),v53,(str x44.fBody),(int x44.fRequested),(int x44.fReceived)] S rfl rfl rfl lay36 rfl (AllOne.all (l:=[v47,v49,v51,(str x44.fReason),v53,(str x44.fBody),(int x44.fRequested),(int x44.fReceived)]) (.cons (Sl.oneC R48) (.cons (Sl.oneC R50) (.cons (Sl.oneC R52) (.cons rfl (.cons (Sl.oneC R54) (.cons rfl (.cons rfl (.cons rfl .nil))))))))) (Nat.le_of_ble_eq_true rfl) rfl ?_
 intro w57 S
 refine We<|Ws<|Ws<|Wg<|Fb ?_
 refine Lo 1 S<|Nq Rp_ppend0<|Le<|We ?_
 rcases condE h with ⟨hc58,h⟩ | ⟨hc58,h⟩
 ·refine CT hc58<|Ws<|Wg<|Fb ?_
  refine Lo 0 S<|Fb ?_
  refine Lo 0 S<|M<|B h fun r59 hr59 h=>W.call S rfl (zHw S.holds x44.fVary x44.fSnapshot p_x1 R50 R52 Rp_x1 hr59) ?_
  rintro v60 w61 H62 hle63 S rfl
  have Rp_ppend0:=Sl.mono Rp_ppend0 hle63
  have Rp_ppend1:=Sl.mono Rp_ppend1 hle63
  have Rp_x1:=Sl.mono Rp_x1 hle63
  have R48:=Sl.mono R48 hle63
  have R50:=Sl.mono R50 hle63
  have R52:=Sl.mono R52 hle63
  have R54:=Sl.mono R54 hle63
  refine M<|B h fun b71 hg65 h=>WL.grpw 2 [69] 70 (boo b71) (fun w=>∃ H':Hp,H62.le H'∧St w0 H0 w H' [.box b55 36 [v47,v49,v51,(str x44.fReason),v53,(str x44.fBody),(int x44.fRequested),(int x44.fReceived)],.box b1 25 [vp_ppend0,vp_ppend1]]) ?_ ?_
  ·rcases boolE r59 with hb64 | hb64
   ·replace hg65:=condT hg65 hb64
    refine Gy hb64<|B hg65 fun r66 hr66 hg65=>W.call S rfl (zJi S.holds  hr66) ?_
    rintro v67 w68 H69 hle70 S rfl
    have Rp_ppend0:=Sl.mono Rp_ppend0 hle70
    have Rp_ppend1:=Sl.mono Rp_ppend1 hle70
    have Rp_x1:=Sl.mono Rp_x1 hle70
    have R48:=Sl.mono R48 hle70
    have R50:=Sl.mono R50 hle70
    have R52:=Sl.mono R52 hle70
    have R54:=Sl.mono R54 hle70
    refine Pt hb64 ?_
    exact We ⟨(congrArg boo (oi hg65)),ag,⟨H69,hle70,S⟩⟩
   replace hg65:=condF hg65 hb64
   refine Gn hb64<|Pf hb64 ?_
   exact We ⟨(congrArg boo (oi hg65)),ag,⟨H62,(Hp.le.refl _),S⟩⟩
  intro us w73 ⟨H72,hle74,S⟩
  have Rp_ppend0:=Sl.mono Rp_ppend0 hle74
  have Rp_ppend1:=Sl.mono Rp_ppend1 hle74
  have Rp_x1:=Sl.mono Rp_x1 hle74
  have R48:=Sl.mono R48 hle74
  have R50:=Sl.mono R50 hle74
  have R52:=Sl.mono R52 hle74
  have R54:=Sl.mono R54 hle74
  refine A<|We ?_
  obtain rfl:=oi h
  refine WP.ret (Out.one rfl S rfl ?_)
  exact rfl
 refine CF hc58<|Wk<|Ws<|Wg<|Fb ?_
 refine Lo 1 S<|M<|M<|B h fun r75 hr75 h=>W.call S rfl (zKC S.holds p_ppend.fAxes p_x1 p_x2 Rp_ppend0 Rp_x1 hr75) ?_
 rintro v76 w77 H78 hle79 S ⟨u80,rfl,R81⟩
 have Rp_ppend0:=Sl.mono Rp_ppend0 hle79
 have Rp_ppend1:=Sl.mono Rp_ppend1 hle79
 have R48:=Sl.mono R48 hle79
 have R50:=Sl.mono R50 hle79
 have R52:=Sl.mono R52 hle79
 have R54:=Sl.mono R54 hle79
 refine M ?_
 refine Ex ?_
 refine Ex<|A<|A<|We<|Ws<|Ws<|Wg<|A<|We<|B h fun r93 hr94 h=>WP.cut (fun f w=>match r93 with | .inl _=>∃ (H89:Hp),St w0 H0 w H89 [] | .inr _=>False) ?_ ?_
 ·refine Wb ?_
  refine WP.loopM (zQ8 p_ppend x44 r75) (fun s f w=>match s with | y_87=>∃ (H82:Hp),f 3=(ptr b1 0)∧f 9=(ptr b55 0)∧f 10=u80∧f 11=(boo r75.2)∧f 12=(int y_87)∧Sl (α:=Str) H82 u80 r75.1∧Sl (α:=(List Str)) H82 v47 x44.fKeys∧Sl (α:=Str) H82 v49 x44.fVary∧Sl (α:=Str) H82 v51 x44.fSnapshot∧Sl (α:=GField) H82 v53 x44.fFields∧Sl (α:=GAxis) H82 vp_ppend0 p_ppend.fAxes∧Sl (α:=GEntry) H82 vp_ppend1 p_ppend.fEntries∧St w0 H0 w H82 [.box b55 36 [v47,v49,v51,(str x44.fReason),v53,(str x44.fBody),(int x44.fRequested),(int x44.fReceived)],.box b1 25 [vp_ppend0,vp_ppend1]]) 0 r93 hr94 ?_ ?_
  ·exact ⟨H78,rfl,rfl,rfl,rfl,rfl,R81,R48,R50,R52,R54,Rp_ppend0,Rp_ppend1,S⟩
  intro y_87 f w hI y90 hy91 hy92
  obtain ⟨H82,h83,h84,h85,h86,h88,R81,R48,R50,R52,R54,Rp_ppend0,Rp_ppend1,S⟩:=hI
  refine Ws<|Ws<|Wg<|M' h88<|Fb' h84 ?_
  refine Lo 0 S<|Nq R48<|La<|We ?_
  rcases condE hy91 with ⟨hc95,hy91⟩ | ⟨hc95,hy91⟩
  ·refine CT hc95<|Wk<|Ws<|Wb<|Ws<|WP.quiet S kr kr<|QM' h86<|QM<|B hy91 fun b111 hg100 hy91=>WQ.grp 10 [88,89,90,91,92,93,94,95,96] 97 (boo b111) ?_ ?_
   ·rcases boolE r75.2 with hb99 | hb99
    ·replace hg100:=condT hg100 hb99
     refine QGy hb99<|QFb' h83<|QGy hb99 ?_
     refine WQ.val (fun w hw=>by obtain ⟨_,hq,S⟩:=hw; exact (R.loadB (i:=1) (v:=vp_ppend0) S rfl rfl lay22 rfl))<|QGy hb99<|QFb' h84<|QGy hb99 ?_
     refine WQ.val (fun w hw=>by obtain ⟨_,hq,S⟩:=hw; exact (R.loadB (i:=0) (v:=v47) S rfl rfl lay33 rfl))<|QGy hb99<|QM' h88<|QGy hb99<|B hg100 fun x101 hx101 hg100=>WQ.idx (α:=(List Str)) R48 rfl rfl el33 hx101 ?_
     rintro a102 _ hA103 ⟨v104,rfl,R105⟩
     refine QGy hb99 ?_
     refine WQ.val (fun w hw=>by obtain ⟨_,hq,S⟩:=hw; exact (R.loadH (v:=v104) S rfl (At.mono hA103 hq (by simp)) lay34 rfl))<|QGy hb99<|QM' h85<|QGy hb99<|B hg100 fun r106 hr106 hg100=>WQ.call (v:=boo r106) rfl (fun w H' hq S=>zIg S.holds p_ppend.fAxes x101 r75.1 (Sl.mono Rp_ppend0 hq) (Sl.mono R105 hq) (Sl.mono R81 hq) hr106)<|QPt hb99 ?_
     exact WQ.nil ⟨(congrArg boo (oi hg100)),ag⟩
    replace hg100:=condF hg100 hb99
    refine QGn hb99<|QGn hb99<|QGn hb99<|QGn hb99<|QGn hb99<|QGn hb99<|QGn hb99<|QGn hb99<|QGn hb99<|QPf hb99 ?_
    exact WQ.nil ⟨(congrArg boo (oi hg100)),ag⟩
   intro us
   refine WQ.nil ?_
   intro w96 H97 hle98 S
   have R81:=Sl.mono R81 hle98
   have R48:=Sl.mono R48 hle98
   have R50:=Sl.mono R50 hle98
   have R52:=Sl.mono R52 hle98
   have R54:=Sl.mono R54 hle98
   have Rp_ppend0:=Sl.mono Rp_ppend0 hle98
   have Rp_ppend1:=Sl.mono Rp_ppend1 hle98
   rcases condE hy91 with ⟨hc112,hy91⟩ | ⟨hc112,hy91⟩
   ·refine CT hc112<|Ws<|Wg<|B hy91 fun r113 hr113 hy91=>W.call S rfl (zJi S.holds  hr113) ?_
    rintro v114 w115 H116 hle117 S rfl
    have R81:=Sl.mono R81 hle117
    have R48:=Sl.mono R48 hle117
    have R50:=Sl.mono R50 hle117
    have R52:=Sl.mono R52 hle117
    have R54:=Sl.mono R54 hle117
    have Rp_ppend0:=Sl.mono Rp_ppend0 hle117
    have Rp_ppend1:=Sl.mono Rp_ppend1 hle117
    refine A<|We ?_
    obtain rfl:=oi hy91
    obtain rfl:=hy92
    obtain rfl:=oi h
    refine WP.ret (Out.one rfl S rfl ?_)
    exact rfl
   refine CF hc112<|Wk<|Wg<|M' h88<|Lg<|A<|We ?_
   obtain rfl:=oi hy91
   exact ⟨rfl,⟨H97,h83,h84,h85,h86,rfl,R81,R48,R50,R52,R54,Rp_ppend0,Rp_ppend1,S⟩⟩
  refine CF hc95<|Wx ?_
  obtain rfl:=oi hy91
  obtain rfl:=hy92
  exact ⟨H82,(S.drop _ (.cons _ (.cons _ .slnil)))⟩
 intro f w hM
 rcases r93 with _ | e
 ·obtain ⟨H89,S⟩:=hM
  refine Ws<|Wg<|A<|We ?_
  obtain rfl:=oi h
  refine WP.ret (Out.one rfl S rfl ?_)
  exact rfl
 exact hM.elim
end Go.Proofs

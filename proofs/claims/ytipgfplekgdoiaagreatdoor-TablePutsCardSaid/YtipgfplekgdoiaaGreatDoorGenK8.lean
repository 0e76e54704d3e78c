/- A part of the proof of laws of the seat: written by program over the translation. -/
import Derived.Test.YtipgfplekgdoiaaGreatDoorEng38
import Derived.Test.YtipgfplekgdoiaaGreatDoorEng32
import Derived.Test.YtipgfplekgdoiaaGreatDoorGenK7
namespace Go.Proofs
set_option maxHeartbeats 4000000
set_option maxRecDepth 10000
open Go.Eng Go.Eng.Pure
set_option linter.unusedVariables false
theorem zBU {w0:World} {H0:Hp} (hw:Holds w0 H0) (p_s:Str) {r:Str} (h:zBN p_s=some r) :
  Con Tryz.prog 115 [(str p_s)] w0 H0 (fun H' v=>v=(str r)):=by
 refine Con.mk (N:=33) Tryz.func115 rfl rfl kr rfl ?_
 have S:=St.start hw
 refine Ws<|Wg<|A<|We<|Ws<|Wg<|M<|W.bytes (s:=p_s) S rfl Tryz.underlying9 Tryz.underlying128 Tryz.underlying5 ?_
 intro b1 c2 w3 hc2 S
 refine A<|We<|Ws<|Ws<|Wg<|A<|We<|B h fun m12 hr18 h=>WP.cut (fun f w=>∃ (H10:Hp),f 3=(.slice (some ⟨b1,0,none⟩) p_s.length c2)∧m12.length=p_s.length∧St w0 H0 w H10 [.box b1 5 (m12.map byt)]) ?_ ?_
 ·refine Wb ?_
  refine WP.loopM (zDE p_s) (fun s f w=>match s with | (i_6,m8)=>∃ (H4:Hp),f 3=(.slice (some ⟨b1,0,none⟩) p_s.length c2)∧f 4=(int i_6)∧m8.length=p_s.length∧St w0 H0 w H4 [.box b1 5 (m8.map byt)]) (0,p_s) m12 hr18 ?_ ?_
  ·exact ⟨H0,rfl,rfl,rfl,S⟩
  intro s f w hI y14 hy15 hy16
  obtain ⟨i_6,m8⟩:=s
  obtain ⟨H4,h5,h7,hL9,S⟩:=hI
  refine Ws<|Ws<|Wg<|M' h7<|M' h5<|Nv<|La<|We ?_
  rcases condE hy15 with ⟨hc19,hy15⟩ | ⟨hc19,hy15⟩
  ·refine CT hc19<|Wk<|Ws<|Wb<|Ws<|Wg<|M' h5<|M' h7<|B hy15 fun c20 hc20 hy15=>?_
   have hq21:=(zAm hc20).2
   refine WL.w (R.idxB rfl rfl el128 (by have:=(zAm hc20).2; have hl:m8.length=p_s.length:=hL9; omega))<|B hy15 fun c22 hc22 hy15=>?_
   refine WL.w (R.loadB (i:=0) S rfl rfl lay5 (zAm hc22).1)<|Md c22 65<|M<|B hy15 fun b28 hg24 hy15=>WL.grp 6 [19,20,21,22,23] 24 (boo b28) ?_ ?_
   ·rcases boolE (decide (65≤c22)) with hb23 | hb23
    ·replace hg24:=condT hg24 hb23
     refine Gy hb23<|M' h5<|Gy hb23<|M' h7<|Gy hb23<|B hg24 fun c25 hc25 hg24=>?_
     have hq26:=(zAm hc25).2
     refine WL.w (R.idxB rfl rfl el128 (by have:=(zAm hc25).2; have hl:m8.length=p_s.length:=hL9; omega))<|Gy hb23<|B hg24 fun c27 hc27 hg24=>?_
     refine WL.w (R.loadB (i:=0) S rfl rfl lay5 (zAm hc27).1)<|Gy hb23<|Mb c27 90<|Pt hb23 ?_
     exact We ⟨(congrArg boo (oi hg24)),ag,rfl⟩
    replace hg24:=condF hg24 hb23
    refine Gn hb23<|Gn hb23<|Gn hb23<|Gn hb23<|Gn hb23<|Pf hb23 ?_
    exact We ⟨(congrArg boo (oi hg24)),ag,rfl⟩
   intro us
   refine We ?_
   rcases condE hy15 with ⟨hc29,hy15⟩ | ⟨hc29,hy15⟩
   ·refine CT hc29<|Wg<|M' h5<|M' h7<|B hy15 fun c30 hc30 hy15=>?_
    have hq31:=(zAm hc30).2
    refine WL.w (R.idxB rfl rfl el128 (by have:=(zAm hc30).2; have hl:m8.length=p_s.length:=hL9; omega))<|B hy15 fun c32 hc32 hy15=>?_
    refine WL.w (R.loadB (i:=0) S rfl rfl lay5 (zAm hc32).1)<|Mg c32 32<|B hy15 fun c33 hc33 hy15=>?_
    have hq34:=(zAm hc33).2
    refine WL.w (R.idxB rfl rfl el128 (by have:=(zAm hc33).2; have hl:m8.length=p_s.length:=hL9; omega)) ?_
    refine W.store (i:=0) ((m8.set i_6.toNat (c32+32)).map byt) S rfl rfl rfl lay5 rfl rfl (by rw [List.length_map]; omega) (zJv _ _ _ (by omega)) ?_
    intro w35 S
    refine We<|Wg<|M' h7<|Lg<|A<|We ?_
    obtain rfl:=oi hy15
    exact ⟨rfl,⟨H4,h5,rfl,(List.length_set.trans hL9),S⟩⟩
   refine CF hc29<|Wk<|Wg<|M' h7<|Lg<|A<|We ?_
   obtain rfl:=oi hy15
   exact ⟨rfl,⟨H4,h5,rfl,hL9,S⟩⟩
  refine CF hc19<|Wx ?_
  obtain rfl:=oi hy15
  obtain rfl:=hy16
  exact ⟨H4,h5,hL9,S⟩
 rintro f w ⟨H10,h11,hL13,S⟩
 refine Ws<|Wg<|M' h11 ?_
 refine WL.w (R.strB (i:=0) (s:=m12) S (by rw [show m12.length=p_s.length from hL13]; exact rfl) rfl Tryz.underlying128 Tryz.underlying9 Tryz.underlying5)<|A<|We ?_
 obtain rfl:=oi h
 refine WP.ret (Out.one rfl S rfl ?_)
 exact rfl
theorem zB8 {w0:World} {H0:Hp} (hw:Holds w0 H0) (p_kind:Int) {r:Str} (h:zBW p_kind=some r) :
  Con Tryz.prog 119 [(int p_kind)] w0 H0 (fun H' v=>v=(str r)):=by
 refine Con.mk (N:=12) Tryz.func119 rfl rfl kr rfl ?_
 have S:=St.start hw
 refine Ws<|Wg<|A<|We<|Ws<|Ws<|Wg<|M<|We<|Wb<|Ws<|Wg ?_
 refine Le<|A<|We ?_
 rcases condE h with ⟨hc1,h⟩ | ⟨hc1,h⟩
 ·refine CT hc1<|Ws<|Wg<|A<|We ?_
  obtain rfl:=oi h
  refine WP.ret (Out.one rfl S rfl ?_)
  exact rfl
 refine CF hc1<|Ws<|Wg<|Le<|A<|We ?_
 rcases condE h with ⟨hc2,h⟩ | ⟨hc2,h⟩
 ·refine CT hc2<|Ws<|Wg<|A<|We ?_
  obtain rfl:=oi h
  refine WP.ret (Out.one rfl S rfl ?_)
  exact rfl
 refine CF hc2<|Ws<|Wg<|Le<|A<|We ?_
 rcases condE h with ⟨hc3,h⟩ | ⟨hc3,h⟩
 ·refine CT hc3<|Ws<|Wg<|A<|We ?_
  obtain rfl:=oi h
  refine WP.ret (Out.one rfl S rfl ?_)
  exact rfl
 refine CF hc3<|Ws<|Wg<|Le<|A<|We ?_
 rcases condE h with ⟨hc4,h⟩ | ⟨hc4,h⟩
 ·refine CT hc4<|Ws<|Wg<|A<|We ?_
  obtain rfl:=oi h
  refine WP.ret (Out.one rfl S rfl ?_)
  exact rfl
 refine CF hc4<|Wk<|Ws<|Wg<|A<|We ?_
 obtain rfl:=oi h
 refine WP.ret (Out.one rfl S rfl ?_)
 exact rfl
theorem zBS {w0:World} {H0:Hp} (hw:Holds w0 H0) (p_a:Str) (p_b:Str) {r:Bool} (h:zBi p_a p_b=some r) :
  Con Tryz.prog 90 [(str p_a),(str p_b)] w0 H0 (fun H' v=>v=(boo r)):=by
 refine Con.mk (N:=17) Tryz.func90 rfl rfl kr rfl ?_
 have S:=St.start hw
 refine Ws<|Wg<|A<|We<|Ws<|Wg<|M<|Ns<|M<|Ns<|Le<|M<|B h fun b13 hg2 h=>WL.grpw 6 [11,12,13,14,15] 16 (boo b13) (fun w=>∃ H':Hp,H0.le H'∧St w0 H0 w H' []) ?_ ?_
 ·rcases boolE ((p_a.length:Int)==(p_b.length:Int)) with hb1 | hb1
  ·replace hg2:=condT hg2 hb1
   refine Gy hb1<|M<|Gy hb1<|B hg2 fun r3 hr3 hg2=>W.call S rfl (zBU S.holds p_a hr3) ?_
   rintro v4 w5 H6 hle7 S rfl
   refine Gy hb1<|M<|Gy hb1<|B hg2 fun r8 hr8 hg2=>W.call S rfl (zBU S.holds p_b hr8) ?_
   rintro v9 w10 H11 hle12 S rfl
   refine Gy hb1<|Na<|Pt hb1 ?_
   exact We ⟨(congrArg boo (oi hg2)),ag,⟨H11,(hle7.trans hle12),S⟩⟩
  replace hg2:=condF hg2 hb1
  refine Gn hb1<|Gn hb1<|Gn hb1<|Gn hb1<|Gn hb1<|Pf hb1 ?_
  exact We ⟨(congrArg boo (oi hg2)),ag,⟨H0,(Hp.le.refl _),S⟩⟩
 intro us w15 ⟨H14,hle16,S⟩
 refine A<|We ?_
 obtain rfl:=oi h
 refine WP.ret (Out.one rfl S rfl ?_)
 exact rfl
theorem zEx {w0:World} {H0:Hp} (hw:Holds w0 H0) (p_name:Str) {r:Int} (h:zD5 p_name=some r) :
  Con Tryz.prog 89 [(str p_name)] w0 H0 (fun H' v=>v=(int r)):=by
 refine Con.mk (N:=13) Tryz.func89 rfl rfl kr rfl ?_
 have S:=St.start hw
 refine Ws<|Wg<|A<|We<|Ws<|Ws<|Wg<|A<|We<|Wb<|WP.loopRd 5<|RD.succ ?_
 refine Ws<|Ws<|Wg<|M ?_
 refine WL.w (v:=boo true) (R.ofEq (R.leq rfl rfl) rfl)<|We<|WP.condT (b:=true) rfl rfl<|Wk<|Ws<|Wb<|Ws<|Wg ?_
 refine M<|M<|B h fun r1 hr1 h=>W.call S rfl (zB8 S.holds 1 hr1) ?_
 rintro v2 w3 H4 hle5 S rfl
 refine B h fun r6 hr6 h=>W.call S rfl (zBS S.holds p_name r1 hr6) ?_
 rintro v7 w8 H9 hle10 S rfl
 refine We ?_
 rcases condE h with ⟨hc11,h⟩ | ⟨hc11,h⟩
 ·refine CT hc11<|Ws<|Wg<|M<|A<|We ?_
  obtain rfl:=oi h
  refine WP.ret (Out.one rfl S rfl ?_)
  exact rfl
 refine CF hc11<|Wk<|Wg<|M ?_
 refine WL.w (v:=int 2) (R.ofEq (R.add rfl rfl) rfl)<|A<|We<|RD.succ<|Ws<|Ws<|Wg<|M ?_
 refine WL.w (v:=boo true) (R.ofEq (R.leq rfl rfl) rfl)<|We<|WP.condT (b:=true) rfl rfl<|Wk<|Ws<|Wb<|Ws<|Wg<|M<|M<|B h fun r12 hr12 h=>W.call S rfl (zB8 S.holds 2 hr12) ?_
 rintro v13 w14 H15 hle16 S rfl
 refine B h fun r17 hr17 h=>W.call S rfl (zBS S.holds p_name r12 hr17) ?_
 rintro v18 w19 H20 hle21 S rfl
 refine We ?_
 rcases condE h with ⟨hc22,h⟩ | ⟨hc22,h⟩
 ·refine CT hc22<|Ws<|Wg<|M<|A<|We ?_
  obtain rfl:=oi h
  refine WP.ret (Out.one rfl S rfl ?_)
  exact rfl
 refine CF hc22<|Wk<|Wg<|M ?_
 refine WL.w (v:=int 3) (R.ofEq (R.add rfl rfl) rfl)<|A<|We<|RD.succ<|Ws<|Ws<|Wg<|M ?_
 refine WL.w (v:=boo true) (R.ofEq (R.leq rfl rfl) rfl)<|We<|WP.condT (b:=true) rfl rfl<|Wk<|Ws<|Wb<|Ws<|Wg<|M<|M<|B h fun r23 hr23 h=>W.call S rfl (zB8 S.holds 3 hr23) ?_
 rintro v24 w25 H26 hle27 S rfl
 refine B h fun r28 hr28 h=>W.call S rfl (zBS S.holds p_name r23 hr28) ?_
 rintro v29 w30 H31 hle32 S rfl
 refine We ?_
 rcases condE h with ⟨hc33,h⟩ | ⟨hc33,h⟩
 ·refine CT hc33<|Ws<|Wg<|M<|A<|We ?_
  obtain rfl:=oi h
  refine WP.ret (Out.one rfl S rfl ?_)
  exact rfl
 refine CF hc33<|Wk<|Wg<|M ?_
 refine WL.w (v:=int 4) (R.ofEq (R.add rfl rfl) rfl)<|A<|We<|RD.succ<|Ws<|Ws<|Wg<|M ?_
 refine WL.w (v:=boo true) (R.ofEq (R.leq rfl rfl) rfl)<|We<|WP.condT (b:=true) rfl rfl<|Wk<|Ws<|Wb<|Ws<|Wg<|M<|M<|B h fun r34 hr34 h=>W.call S rfl (zB8 S.holds 4 hr34) ?_
 rintro v35 w36 H37 hle38 S rfl
 refine B h fun r39 hr39 h=>W.call S rfl (zBS S.holds p_name r34 hr39) ?_
 rintro v40 w41 H42 hle43 S rfl
 refine We ?_
 rcases condE h with ⟨hc44,h⟩ | ⟨hc44,h⟩
 ·refine CT hc44<|Ws<|Wg<|M<|A<|We ?_
  obtain rfl:=oi h
  refine WP.ret (Out.one rfl S rfl ?_)
  exact rfl
 refine CF hc44<|Wk<|Wg<|M ?_
 refine WL.w (v:=int 5) (R.ofEq (R.add rfl rfl) rfl)<|A<|We<|RD.succ<|Ws<|Ws<|Wg<|M ?_
 refine WL.w (v:=boo false) (R.ofEq (R.leq rfl rfl) rfl)<|We<|WP.condF (b:=false) rfl rfl<|Wx<|Ws<|Wg<|A<|We ?_
 obtain rfl:=oi h
 refine WP.ret (Out.one rfl S rfl ?_)
 exact rfl
end Go.Proofs

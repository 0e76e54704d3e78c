/- A part of the proof of laws of the seat: written by program over the translation. -/
import Derived.Test.YtipgfplekgdoiaaGreatDoorEng38
import Derived.Test.YtipgfplekgdoiaaGreatDoorEng32
import Derived.Test.YtipgfplekgdoiaaGreatDoorGenK15
namespace Go.Proofs
set_option maxHeartbeats 4000000
set_option maxRecDepth 10000
open Go.Eng Go.Eng.Pure
set_option linter.unusedVariables false
theorem zBK {w0:World} {H0:Hp} (hw:Holds w0 H0) (p_s1:(List GAxis)) (p_s2:(List GAxis)) (p_eq:(GAxis→GAxis→Option Bool)) {vp_s1:Value} {vp_s2:Value} {kp_eq:FuncId} {cp_eq:List Value} (Rp_s1:Sl (α:=GAxis) H0 vp_s1 p_s1) (Rp_s2:Sl (α:=GAxis) H0 vp_s2 p_s2) (Fp_eq:∀ {w:World} {H:Hp},H0.le H→Holds w H→∀ (x0:GAxis) (x1:GAxis),∀ {y0_1 y1_1:Value},Sl (α:=Str) H y0_1 x0.fValues→Sl (α:=Str) H y1_1 x1.fValues→∀ (rr:Bool),p_eq x0 x1=some rr→Con Tryz.prog kp_eq ([(agg [(str x0.fName),y0_1]),(agg [(str x1.fName),y1_1])]++cp_eq) w H (fun H' v=>v=(boo rr))) {r:Bool} (h:zAY p_s1 p_s2 p_eq=some r) :
  Con Tryz.prog 81 [vp_s1,vp_s2,(.func (.func kp_eq) #[] cp_eq.toArray)] w0 H0 (fun H' v=>v=(boo r)):=by
 refine Con.mk (N:=32) Tryz.func81 rfl rfl kr rfl ?_
 have S:=St.start hw
 refine Ws<|Wg<|A<|We<|Ws<|Ws<|Wg<|M<|Nq Rp_s1<|M<|Nq Rp_s2<|Lf ?_
 refine We ?_
 rcases condE h with ⟨hc1,h⟩ | ⟨hc1,h⟩
 ·refine CT hc1<|Ws<|Wg<|A<|We ?_
  obtain rfl:=oi h
  refine WP.ret (Out.one rfl S rfl ?_)
  exact rfl
 refine CF hc1<|Wk<|Ws<|Ws<|Wg<|M<|Nq Rp_s1<|M<|We<|B h fun r13 hr14 h=>WP.cut (fun f w=>match r13 with | .inl _=>∃ (H9:Hp),St w0 H0 w H9 [] | .inr _=>False) ?_ ?_
 ·refine Wb ?_
  refine WP.loopM (zAO p_s1 p_s2 p_eq) (fun s f w=>match s with | y_7=>∃ (H2:Hp),f 1=vp_s2∧f 2=(.func (.func kp_eq) #[] cp_eq.toArray)∧f 15=vp_s1∧f 16=(int (p_s1.length:Int))∧f 17=(int y_7)∧Sl (α:=GAxis) H2 vp_s2 p_s2∧Sl (α:=GAxis) H2 vp_s1 p_s1∧St w0 H0 w H2 []) 0 r13 hr14 ?_ ?_
  ·exact ⟨H0,rfl,rfl,rfl,rfl,rfl,Rp_s2,Rp_s1,S⟩
  intro y_7 f w hI y10 hy11 hy12
  obtain ⟨H2,h3,h4,h5,h6,h8,Rp_s2,Rp_s1,S⟩:=hI
  refine Ws<|Wg<|La' h8 h6<|We<|Ws ?_
  rcases condE hy11 with ⟨hc15,hy11⟩ | ⟨hc15,hy11⟩
  ·refine CT hc15<|Wk<|Ws<|Wb<|Ws<|Wg<|M' h8<|B hy11 fun x16 hx16 hy11=>W.idx (α:=GAxis) Rp_s1 h5 h8 el22 hx16 ?_
   rintro a17 _ hA18 ⟨v19,rfl,R20⟩
   refine WL.w (R.loadHN (vs:=[(str x16.fName),v19]) S rfl hA18 lay68 rfl rfl) ?_
   refine W.alloc [(str []),(.slice none 0 0)] S zer68 ?_
   intro b21 w22 S
   refine A ?_
   refine W.store (i:=0) [(str x16.fName),v19] S rfl rfl rfl lay68 rfl (AllOne.all (l:=[(str x16.fName),v19]) (.cons rfl (.cons (Sl.oneC R20) .nil))) (Nat.le_of_ble_eq_true rfl) rfl ?_
   intro w23 S
   refine We<|Ws<|Wg<|M' h3<|M<|B hy11 fun x24 hx24 hy11=>W.idx (α:=GAxis) Rp_s2 rfl rfl el22 hx24 ?_
   rintro a25 _ hA26 ⟨v27,rfl,R28⟩
   refine WL.w (R.loadHN (vs:=[(str x24.fName),v27]) S rfl hA26 lay68 rfl rfl) ?_
   refine W.alloc [(str []),(.slice none 0 0)] S zer68 ?_
   intro b29 w30 S
   refine W.store (i:=0) [(str x24.fName),v27] S rfl rfl rfl lay68 rfl (AllOne.all (l:=[(str x24.fName),v27]) (.cons rfl (.cons (Sl.oneC R28) .nil))) (Nat.le_of_ble_eq_true rfl) rfl ?_
   intro w31 S
   refine We<|Ws<|Wg<|M' h4 ?_
   refine WL.w (R.loadBN (i:=1) (vs:=[(str x16.fName),v19]) S rfl rfl lay68 rfl rfl) ?_
   refine WL.w (R.loadBN (i:=0) (vs:=[(str x24.fName),v27]) S rfl rfl lay68 rfl rfl)<|B hy11 fun r32 hr32 hy11=>W.callv S rfl rfl (Fp_eq (S.post.le) S.holds x16 x24 R20 R28 _ hr32) ?_
   rintro v33 w34 H35 hle36 S rfl
   have Rp_s2:=Sl.mono Rp_s2 hle36
   have Rp_s1:=Sl.mono Rp_s1 hle36
   refine No<|We ?_
   rcases condE hy11 with ⟨hc37,hy11⟩ | ⟨hc37,hy11⟩
   ·refine CT hc37<|Ws<|Wg<|A<|We ?_
    obtain rfl:=oi hy11
    obtain rfl:=hy12
    obtain rfl:=oi h
    refine WP.ret (Out.one rfl S rfl ?_)
    exact rfl
   refine CF hc37<|Wk<|Wg<|Lg' h8 rfl<|M<|We ?_
   obtain rfl:=oi hy11
   exact ⟨rfl,⟨H35,h3,h4,h5,h6,rfl,Rp_s2,Rp_s1,(S.drop _ (.cons _ (.cons _ .slnil)))⟩⟩
  refine CF hc15<|Wx ?_
  obtain rfl:=oi hy11
  obtain rfl:=hy12
  exact ⟨H2,S⟩
 intro f w hM
 rcases r13 with _ | e
 ·obtain ⟨H9,S⟩:=hM
  refine Ws<|Wg<|A<|We ?_
  obtain rfl:=oi h
  refine WP.ret (Out.one rfl S rfl ?_)
  exact rfl
 exact hM.elim
theorem zHT {w0:World} {H0:Hp} (hw:Holds w0 H0) (p_x:GAxis) (p_y:GAxis) {vp_x1:Value} {vp_y1:Value} (Rp_x1:Sl (α:=Str) H0 vp_x1 p_x.fValues) (Rp_y1:Sl (α:=Str) H0 vp_y1 p_y.fValues) {r:Bool} (h:zDT p_x p_y=some r) :
  Con Tryz.prog 82 [(agg [(str p_x.fName),vp_x1]),(agg [(str p_y.fName),vp_y1])] w0 H0 (fun H' v=>v=(boo r)):=by
 refine Con.mk (N:=17) Tryz.func82 rfl rfl kr rfl ?_
 have S:=St.start hw
 refine Ws<|Wg ?_
 refine W.box [(str p_x.fName),vp_x1] S rfl rfl ?_
 intro b1 w2 S
 refine W.box [(str p_y.fName),vp_y1] S rfl rfl ?_
 intro b3 w4 S
 refine A<|We<|Ws<|Wg<|Fb ?_
 refine Lo 1 S<|Fb ?_
 refine Lo 0 S<|Na<|M<|B h fun b12 hg6 h=>WL.grpw 6 [11,12,13,14,15] 16 (boo b12) (fun w=>∃ H':Hp,H0.le H'∧St w0 H0 w H' [.box b3 68 [(str p_y.fName),vp_y1],.box b1 68 [(str p_x.fName),vp_x1]]) ?_ ?_
 ·rcases boolE (p_x.fName==p_y.fName) with hb5 | hb5
  ·replace hg6:=condT hg6 hb5
   refine Gy hb5<|Fb<|Gy hb5 ?_
   refine Lo 1 S<|Gy hb5<|Fb<|Gy hb5 ?_
   refine Lo 0 S<|Gy hb5<|B hg6 fun r7 hr7 hg6=>W.call S rfl (zAr S.holds p_x.fValues p_y.fValues Rp_x1 Rp_y1 hr7) ?_
   rintro v8 w9 H10 hle11 S rfl
   refine Pt hb5 ?_
   exact We ⟨(congrArg boo (oi hg6)),ag,⟨H10,hle11,S⟩⟩
  replace hg6:=condF hg6 hb5
  refine Gn hb5<|Gn hb5<|Gn hb5<|Gn hb5<|Gn hb5<|Pf hb5 ?_
  exact We ⟨(congrArg boo (oi hg6)),ag,⟨H0,(Hp.le.refl _),S⟩⟩
 intro us w14 ⟨H13,hle15,S⟩
 refine A<|We ?_
 obtain rfl:=oi h
 refine WP.ret (Out.one rfl S rfl ?_)
 exact rfl
theorem zIN {w0:World} {H0:Hp} (hw:Holds w0 H0) (p_a:(List GAxis)) (p_b:(List GAxis)) {vp_a:Value} {vp_b:Value} (Rp_a:Sl (α:=GAxis) H0 vp_a p_a) (Rp_b:Sl (α:=GAxis) H0 vp_b p_b) {r:Bool} (h:zEO p_a p_b=some r) :
  Con Tryz.prog 45 [vp_a,vp_b] w0 H0 (fun H' v=>v=(boo r)):=by
 refine Con.mk (N:=8) Tryz.func45 rfl rfl kr rfl ?_
 have S:=St.start hw
 refine Ws<|Wg<|A<|We<|Ws<|Wg<|M<|M<|B h fun r1 hr1 h=>W.call S rfl (zBK S.holds p_a p_b zDT Rp_a Rp_b (fun hle hw x0 x1=>fun q0_1 q1_1 r h=>zHT hw x0 x1 q0_1 q1_1 h) hr1) ?_
 rintro v2 w3 H4 hle5 S rfl
 refine A<|We ?_
 obtain rfl:=oi h
 refine WP.ret (Out.one rfl S rfl ?_)
 exact rfl
theorem zHe {w0:World} {H0:Hp} (hw:Holds w0 H0) (p_k:(List Str)) (c_x0:(List GAxis)) (c_x1:GEntry) {vp_k:Value} {vc_x00:Value} {vc_x10:Value} {vc_x11:Value} {vc_x12:Value} {vc_x14:Value} {ac_x0:Addr} {ac_x1:Addr} (Rp_k:Sl (α:=Str) H0 vp_k p_k) (Ac_x0:At H0 ac_x0 [vc_x00]) (Rc_x00:Sl (α:=GAxis) H0 vc_x00 c_x0) (Ac_x1:At H0 ac_x1 [vc_x10,vc_x11,vc_x12,(str c_x1.fReason),vc_x14,(str c_x1.fBody),(int c_x1.fRequested),(int c_x1.fReceived)]) (Rc_x10:Sl (α:=(List Str)) H0 vc_x10 c_x1.fKeys) (Rc_x11:Sl (α:=Str) H0 vc_x11 c_x1.fVary) (Rc_x12:Sl (α:=Str) H0 vc_x12 c_x1.fSnapshot) (Rc_x14:Sl (α:=GField) H0 vc_x14 c_x1.fFields) {r:Bool} (h:zCG p_k c_x0 c_x1=some r) :
  Con Tryz.prog 85 [vp_k,(.pointer (some ac_x0)),(.pointer (some ac_x1))] w0 H0 (fun H' v=>v=(boo r)):=by
 refine Con.mk (N:=9) Tryz.func85 rfl rfl kr rfl ?_
 have S:=St.start hw
 refine Ws<|Wg<|A<|We<|Ws<|Wg ?_
 refine Lq S Ac_x0 ?_
 refine WL.w (R.loadHN (vs:=[vc_x10,vc_x11,vc_x12,(str c_x1.fReason),vc_x14,(str c_x1.fBody),(int c_x1.fRequested),(int c_x1.fReceived)]) S rfl Ac_x1 lay36 rfl rfl)<|M<|B h fun r1 hr1 h=>W.call S rfl (zIW S.holds c_x0 c_x1 p_k Rc_x00 Rc_x10 Rc_x11 Rc_x12 Rc_x14 Rp_k hr1) ?_
 rintro v2 w3 H4 hle5 S rfl
 refine A<|We ?_
 obtain rfl:=oi h
 refine WP.ret (Out.one rfl S rfl ?_)
 exact rfl
theorem zFo {w0:World} {H0:Hp} (hw:Holds w0 H0) (p_axes:(List GAxis)) (p_e:GEntry) (p_old:GEntry) {vp_axes:Value} {vp_e0:Value} {vp_e1:Value} {vp_e2:Value} {vp_e4:Value} {vp_old0:Value} {vp_old1:Value} {vp_old2:Value} {vp_old4:Value} (Rp_axes:Sl (α:=GAxis) H0 vp_axes p_axes) (Rp_e0:Sl (α:=(List Str)) H0 vp_e0 p_e.fKeys) (Rp_e1:Sl (α:=Str) H0 vp_e1 p_e.fVary) (Rp_e2:Sl (α:=Str) H0 vp_e2 p_e.fSnapshot) (Rp_e4:Sl (α:=GField) H0 vp_e4 p_e.fFields) (Rp_old0:Sl (α:=(List Str)) H0 vp_old0 p_old.fKeys) (Rp_old1:Sl (α:=Str) H0 vp_old1 p_old.fVary) (Rp_old2:Sl (α:=Str) H0 vp_old2 p_old.fSnapshot) (Rp_old4:Sl (α:=GField) H0 vp_old4 p_old.fFields) {r:Bool} (h:zDQ p_axes p_e p_old=some r) :
  Con Tryz.prog 49 [vp_axes,(agg [vp_e0,vp_e1,vp_e2,(str p_e.fReason),vp_e4,(str p_e.fBody),(int p_e.fRequested),(int p_e.fReceived)]),(agg [vp_old0,vp_old1,vp_old2,(str p_old.fReason),vp_old4,(str p_old.fBody),(int p_old.fRequested),(int p_old.fReceived)])] w0 H0 (fun H' v=>v=(boo r)):=by
 refine Con.mk (N:=26) Tryz.func49 rfl rfl kr rfl ?_
 have S:=St.start hw
 refine Ws<|Wg ?_
 refine W.box [vp_axes] S rfl (congrArg Array.toList (Sl.cellsOne Rp_axes)) ?_
 intro b1 w2 S
 refine W.box [vp_e0,vp_e1,vp_e2,(str p_e.fReason),vp_e4,(str p_e.fBody),(int p_e.fRequested),(int p_e.fReceived)] S rfl rfl ?_
 intro b3 w4 S
 refine W.box [vp_old0,vp_old1,vp_old2,(str p_old.fReason),vp_old4,(str p_old.fBody),(int p_old.fRequested),(int p_old.fReceived)] S rfl rfl ?_
 intro b5 w6 S
 refine A<|We<|Ws<|Ws<|Wg ?_
 refine Lo 2 S<|Nq Rp_axes<|Le<|We ?_
 rcases condE h with ⟨hc7,h⟩ | ⟨hc7,h⟩
 ·refine CT hc7<|Ws<|Wg<|Fb ?_
  refine Lo 1 S<|Fb ?_
  refine Lo 0 S<|B h fun r8 hr8 h=>W.call S rfl (zAr S.holds p_e.fVary p_old.fVary Rp_e1 Rp_old1 hr8) ?_
  rintro v9 w10 H11 hle12 S rfl
  have Rp_axes:=Sl.mono Rp_axes hle12
  have Rp_e0:=Sl.mono Rp_e0 hle12
  have Rp_e2:=Sl.mono Rp_e2 hle12
  have Rp_old0:=Sl.mono Rp_old0 hle12
  have Rp_old1:=Sl.mono Rp_old1 hle12
  have Rp_old2:=Sl.mono Rp_old2 hle12
  have Rp_old4:=Sl.mono Rp_old4 hle12
  refine M<|B h fun b20 hg14 h=>WL.grpw 6 [16,17,18,19,20] 21 (boo b20) (fun w=>∃ H':Hp,H11.le H'∧St w0 H0 w H' [.box b5 36 [vp_old0,vp_old1,vp_old2,(str p_old.fReason),vp_old4,(str p_old.fBody),(int p_old.fRequested),(int p_old.fReceived)],.box b3 36 [vp_e0,vp_e1,vp_e2,(str p_e.fReason),vp_e4,(str p_e.fBody),(int p_e.fRequested),(int p_e.fReceived)],.box b1 22 [vp_axes]]) ?_ ?_
  ·rcases boolE r8 with hb13 | hb13
   ·replace hg14:=condT hg14 hb13
    refine Gy hb13<|Fb<|Gy hb13 ?_
    refine Lo 1 S<|Gy hb13<|Fb<|Gy hb13 ?_
    refine Lo 0 S<|Gy hb13<|B hg14 fun r15 hr15 hg14=>W.call S rfl (zAr S.holds p_e.fSnapshot p_old.fSnapshot Rp_e2 Rp_old2 hr15) ?_
    rintro v16 w17 H18 hle19 S rfl
    have Rp_axes:=Sl.mono Rp_axes hle19
    have Rp_e0:=Sl.mono Rp_e0 hle19
    have Rp_old0:=Sl.mono Rp_old0 hle19
    have Rp_old1:=Sl.mono Rp_old1 hle19
    have Rp_old2:=Sl.mono Rp_old2 hle19
    have Rp_old4:=Sl.mono Rp_old4 hle19
    refine Pt hb13 ?_
    exact We ⟨(congrArg boo (oi hg14)),ag,⟨H18,hle19,S⟩⟩
   replace hg14:=condF hg14 hb13
   refine Gn hb13<|Gn hb13<|Gn hb13<|Gn hb13<|Gn hb13<|Pf hb13 ?_
   exact We ⟨(congrArg boo (oi hg14)),ag,⟨H11,(Hp.le.refl _),S⟩⟩
  intro us w22 ⟨H21,hle23,S⟩
  have Rp_axes:=Sl.mono Rp_axes hle23
  have Rp_e0:=Sl.mono Rp_e0 hle23
  have Rp_old0:=Sl.mono Rp_old0 hle23
  have Rp_old1:=Sl.mono Rp_old1 hle23
  have Rp_old2:=Sl.mono Rp_old2 hle23
  have Rp_old4:=Sl.mono Rp_old4 hle23
  refine A<|We ?_
  obtain rfl:=oi h
  refine WP.ret (Out.one rfl S rfl ?_)
  exact rfl
 refine CF hc7<|Wk<|Ws<|Wg<|Fb ?_
 refine Lo 1 S ?_
 obtain ⟨H24,hle25,hs26,_,S⟩:=S.settle (i:=2) rfl
 replace S:St w0 H0 _ H24 [.box b5 36 [vp_old0,vp_old1,vp_old2,(str p_old.fReason),vp_old4,(str p_old.fBody),(int p_old.fRequested),(int p_old.fReceived)],.box b3 36 [vp_e0,vp_e1,vp_e2,(str p_e.fReason),vp_e4,(str p_e.fBody),(int p_e.fRequested),(int p_e.fReceived)]]:=S
 have hA27:At H24 ⟨b1,0,none⟩ [vp_axes]:=⟨_,_,rfl,hs26,[],by simp⟩
 have Rp_axes:=Sl.mono Rp_axes hle25
 have Rp_e0:=Sl.mono Rp_e0 hle25
 have Rp_old0:=Sl.mono Rp_old0 hle25
 have Rp_old1:=Sl.mono Rp_old1 hle25
 have Rp_old2:=Sl.mono Rp_old2 hle25
 have Rp_old4:=Sl.mono Rp_old4 hle25
 obtain ⟨H28,hle29,hs30,_,S⟩:=S.settle (i:=0) rfl
 replace S:St w0 H0 _ H28 [.box b3 36 [vp_e0,vp_e1,vp_e2,(str p_e.fReason),vp_e4,(str p_e.fBody),(int p_e.fRequested),(int p_e.fReceived)]]:=S
 have hA31:At H28 ⟨b5,0,none⟩ [vp_old0,vp_old1,vp_old2,(str p_old.fReason),vp_old4,(str p_old.fBody),(int p_old.fRequested),(int p_old.fReceived)]:=⟨_,_,rfl,hs30,[],by simp⟩
 have Rp_axes:=Sl.mono Rp_axes hle29
 have Rp_e0:=Sl.mono Rp_e0 hle29
 have Rp_old0:=Sl.mono Rp_old0 hle29
 have Rp_old1:=Sl.mono Rp_old1 hle29
 have Rp_old2:=Sl.mono Rp_old2 hle29
 have Rp_old4:=Sl.mono Rp_old4 hle29
 have hA27:=At.mono hA27 hle29 (by simp)
 refine WL.w (R.mkFunc (vs:=[(.pointer (some ⟨b1,0,none⟩)),(.pointer (some ⟨b5,0,none⟩))]) rfl)<|B h fun r32 hr32 h=>W.call S rfl (zBG S.holds p_e.fKeys (fun x0=>zCG x0 p_axes p_old) Rp_e0 (fun hle hw x0=>fun q0 r h=>zHe hw x0 p_axes p_old q0 (At.mono hA27 hle (by simp)) (Sl.mono Rp_axes hle) (At.mono hA31 hle (by simp)) (Sl.mono Rp_old0 hle) (Sl.mono Rp_old1 hle) (Sl.mono Rp_old2 hle) (Sl.mono Rp_old4 hle) h) hr32) ?_
 rintro v33 w34 H35 hle36 S rfl
 refine A<|We ?_
 obtain rfl:=oi h
 refine WP.ret (Out.one rfl S rfl ?_)
 exact rfl
theorem zJe {w0:World} {H0:Hp} (hw:Holds w0 H0) (p_old:GEntry) (c_x0:(List GAxis)) (c_x1:GEntry) {vp_old0:Value} {vp_old1:Value} {vp_old2:Value} {vp_old4:Value} {vc_x00:Value} {vc_x10:Value} {vc_x11:Value} {vc_x12:Value} {vc_x14:Value} {ac_x0:Addr} {ac_x1:Addr} (Rp_old0:Sl (α:=(List Str)) H0 vp_old0 p_old.fKeys) (Rp_old1:Sl (α:=Str) H0 vp_old1 p_old.fVary) (Rp_old2:Sl (α:=Str) H0 vp_old2 p_old.fSnapshot) (Rp_old4:Sl (α:=GField) H0 vp_old4 p_old.fFields) (Ac_x0:At H0 ac_x0 [vc_x00]) (Rc_x00:Sl (α:=GAxis) H0 vc_x00 c_x0) (Ac_x1:At H0 ac_x1 [vc_x10,vc_x11,vc_x12,(str c_x1.fReason),vc_x14,(str c_x1.fBody),(int c_x1.fRequested),(int c_x1.fReceived)]) (Rc_x10:Sl (α:=(List Str)) H0 vc_x10 c_x1.fKeys) (Rc_x11:Sl (α:=Str) H0 vc_x11 c_x1.fVary) (Rc_x12:Sl (α:=Str) H0 vc_x12 c_x1.fSnapshot) (Rc_x14:Sl (α:=GField) H0 vc_x14 c_x1.fFields) {r:Bool} (h:zFG p_old c_x0 c_x1=some r) :
  Con Tryz.prog 48 [(agg [vp_old0,vp_old1,vp_old2,(str p_old.fReason),vp_old4,(str p_old.fBody),(int p_old.fRequested),(int p_old.fReceived)]),(.pointer (some ac_x0)),(.pointer (some ac_x1))] w0 H0 (fun H' v=>v=(boo r)):=by
 refine Con.mk (N:=9) Tryz.func48 rfl rfl kr rfl ?_
 have S:=St.start hw
 refine Ws<|Wg ?_
 refine W.box [vp_old0,vp_old1,vp_old2,(str p_old.fReason),vp_old4,(str p_old.fBody),(int p_old.fRequested),(int p_old.fReceived)] S rfl rfl ?_
 intro b1 w2 S
 refine A<|We<|Ws<|Wg ?_
 refine Lq S Ac_x0 ?_
 refine WL.w (R.loadHN (vs:=[vc_x10,vc_x11,vc_x12,(str c_x1.fReason),vc_x14,(str c_x1.fBody),(int c_x1.fRequested),(int c_x1.fReceived)]) S rfl Ac_x1 lay36 rfl rfl) ?_
 refine WL.w (R.loadBN (i:=0) (vs:=[vp_old0,vp_old1,vp_old2,(str p_old.fReason),vp_old4,(str p_old.fBody),(int p_old.fRequested),(int p_old.fReceived)]) S rfl rfl lay36 rfl rfl)<|B h fun r3 hr3 h=>W.call S rfl (zFo S.holds c_x0 c_x1 p_old Rc_x00 Rc_x10 Rc_x11 Rc_x12 Rc_x14 Rp_old0 Rp_old1 Rp_old2 Rp_old4 hr3) ?_
 rintro v4 w5 H6 hle7 S rfl
 refine A<|We ?_
 obtain rfl:=oi h
 refine WP.ret (Out.one rfl S rfl ?_)
 exact rfl
theorem zCZ {w0:World} {H0:Hp} (hw:Holds w0 H0) (p_s:(List GEntry)) (p_f:(GEntry→Option Bool)) {vp_s:Value} {kp_f:FuncId} {cp_f:List Value} (Rp_s:Sl (α:=GEntry) H0 vp_s p_s) (Fp_f:∀ {w:World} {H:Hp},H0.le H→Holds w H→∀ (x0:GEntry),∀ {y0_0 y0_1 y0_2 y0_4:Value},Sl (α:=(List Str)) H y0_0 x0.fKeys→Sl (α:=Str) H y0_1 x0.fVary→Sl (α:=Str) H y0_2 x0.fSnapshot→Sl (α:=GField) H y0_4 x0.fFields→∀ (rr:Bool),p_f x0=some rr→Con Tryz.prog kp_f ([(agg [y0_0,y0_1,y0_2,(str x0.fReason),y0_4,(str x0.fBody),(int x0.fRequested),(int x0.fReceived)])]++cp_f) w H (fun H' v=>v=(boo rr))) {r:Int} (h:zAl p_s p_f=some r) :
  Con Tryz.prog 84 [vp_s,(.func (.func kp_f) #[] cp_f.toArray)] w0 H0 (fun H' v=>v=(int r)):=by
 refine Con.mk (N:=19) Tryz.func84 rfl rfl kr rfl ?_
 have S:=St.start hw
 refine Ws<|Wg<|A<|We<|Ws<|Ws<|Wg<|M<|Nq Rp_s<|M<|We<|B h fun r11 hr12 h=>WP.cut (fun f w=>match r11 with | .inl _=>∃ (H7:Hp),St w0 H0 w H7 [] | .inr _=>False) ?_ ?_
 ·refine Wb ?_
  refine WP.loopM (zAP p_s p_f) (fun s f w=>match s with | y_5=>∃ (H1:Hp),f 0=vp_s∧f 1=(.func (.func kp_f) #[] cp_f.toArray)∧f 7=(int (p_s.length:Int))∧f 8=(int y_5)∧Sl (α:=GEntry) H1 vp_s p_s∧St w0 H0 w H1 []) 0 r11 hr12 ?_ ?_
  ·exact ⟨H0,rfl,rfl,rfl,rfl,Rp_s,S⟩
  intro y_5 f w hI y8 hy9 hy10
  obtain ⟨H1,h2,h3,h4,h6,Rp_s,S⟩:=hI
  refine Ws<|Wg<|La' h6 h4<|We<|Ws ?_
  rcases condE hy9 with ⟨hc13,hy9⟩ | ⟨hc13,hy9⟩
  ·refine CT hc13<|Wk<|Ws<|Wb<|Ws<|Wg<|M' h6<|A<|We<|Ws<|Wg<|M' h3 ?_
   refine M' h2<|M<|B hy9 fun x14 hx14 hy9=>W.idx (α:=GEntry) Rp_s rfl rfl el23 hx14 ?_
   rintro a15 _ hA16 ⟨v17,v19,v21,v23,rfl,R18,R20,R22,R24⟩
   refine WL.w (R.loadHN (vs:=[v17,v19,v21,(str x14.fReason),v23,(str x14.fBody),(int x14.fRequested),(int x14.fReceived)]) S rfl hA16 lay36 rfl rfl)<|B hy9 fun r25 hr25 hy9=>W.callv S rfl rfl (Fp_f (S.post.le) S.holds x14 R18 R20 R22 R24 _ hr25) ?_
   rintro v26 w27 H28 hle29 S rfl
   have Rp_s:=Sl.mono Rp_s hle29
   refine We ?_
   rcases condE hy9 with ⟨hc30,hy9⟩ | ⟨hc30,hy9⟩
   ·refine CT hc30<|Ws<|Wg<|M<|A<|We ?_
    obtain rfl:=oi hy9
    obtain rfl:=hy10
    obtain rfl:=oi h
    refine WP.ret (Out.one rfl S rfl ?_)
    exact rfl
   refine CF hc30<|Wk<|Wg<|Lg' h6 rfl<|M<|We ?_
   obtain rfl:=oi hy9
   exact ⟨rfl,⟨H28,h2,h3,h4,rfl,Rp_s,S⟩⟩
  refine CF hc13<|Wx ?_
  obtain rfl:=oi hy9
  obtain rfl:=hy10
  exact ⟨H1,S⟩
 intro f w hM
 rcases r11 with _ | e
 ·obtain ⟨H7,S⟩:=hM
  refine Ws<|Wg<|A<|We ?_
  obtain rfl:=oi h
  refine WP.ret (Out.one rfl S rfl ?_)
  exact rfl
 exact hM.elim
theorem zCS {w0 ws:World} {H0 Hs:Hp} {L2:List Ent} (p_s:(List GEntry)) (p_del:(GEntry→Option Bool)) {v:Value} {en:Ent} {kd:FuncId} {cd:List Value} (S:St w0 H0 ws Hs (en :: L2)) (RM:MR (α:=GEntry) Hs en 36 v p_s)
  (F:∀ {w:World} {H:Hp},Hs.le H→Holds w H→∀ (x0:GEntry),∀ {y0_0 y0_1 y0_2 y0_4:Value},Sl (α:=(List Str)) H y0_0 x0.fKeys→Sl (α:=Str) H y0_1 x0.fVary→Sl (α:=Str) H y0_2 x0.fSnapshot→Sl (α:=GField) H y0_4 x0.fFields→∀ (rr:Bool),p_del x0=some rr→Con Tryz.prog kd ([(agg [y0_0,y0_1,y0_2,(str x0.fReason),y0_4,(str x0.fBody),(int x0.fRequested),(int x0.fReceived)])]++cd) w H (fun H' v=>v=(boo rr)))
  {r:List GEntry} (h:zAQ p_s p_del=some r) :
  ConS Tryz.prog 47 [v,(.func (.func kd) #[] cd.toArray)] w0 H0 ws Hs L2 (fun H' v' L'=>∃ en',L'=[en']∧MR (α:=GEntry) H' en' 36 v' r):=by
 unfold zAQ at h
 refine ConS.mk (N:=42) Tryz.func47 rfl rfl kr rfl<|Ws<|Wg<|A<|We<|Ws<|Wg<|M<|M<|B h fun i hi h=>?_
 obtain ⟨H1,hle1,hw1,R1⟩:=S.view_ (i:=0) rfl RM
 refine W.callF S rfl (zCZ hw1 p_s p_del R1 (fun hle=>F (Hp.le.trans hle1 hle)) hi) ?_
 rintro _ w1 H2 rfl S
 refine A<|We<|Ws<|Ws<|Wg<|M<|Le<|We ?_
 unfold delR at h
 rcases condE h with ⟨hc,h⟩ | ⟨hc,h⟩
 ·refine CT hc<|Ws<|Wg<|M<|A<|We ?_
  obtain rfl:=oi h
  refine WP.ret (OutS.one (L':=[en]) rfl (Hp.le.refl _) S rfl ?_)
  exact ⟨en,rfl,RM⟩
 refine CF hc<|Wk ?_
 rcases condE h with ⟨hb,h⟩ | ⟨hb,h⟩
 case inr=>cases h
 have hb:=of_decide_eq_true hb
 obtain ⟨m0,rfl⟩:=Int.eq_ofNat_of_zero_le hb.1
 have hm0:m0<p_s.length:=by omega
 rcases RM with ⟨_,hnil,_⟩ | ⟨g,cap,cur0,cs0,rfl,rfl,hnc,hcm,hcs,htk,hC⟩
 ·subst hnil; exact absurd hm0 (Nat.not_lt_zero _)
 have D0:DelI Hs p_s cur0 (p_s.take m0) (m0+1):=DelI.start htk hC hm0
 have hmax:p_s.length≤9223372036854775807:=by simp only [maxLen] at hcm; omega
 have hl0:(p_s.take m0).length=m0:=by rw [List.length_take]; omega
 refine Ws<|Ws<|Wg<|M<|Lg<|A<|We ?_
 refine WP.cut (fun f w=>∃ (m:Nat) (cur:Array Value),f 0=.slice (some ⟨g,0,none⟩) p_s.length cap∧f 5=int r.length∧p_s.length≤m∧cur.size=cap*8∧DelI Hs p_s cur r m∧St w0 H0 w Hs (.obj g (.cells cur 36 (0,0)) :: L2)) ?_ ?_
 ·refine Wb ?_
  refine WP.loopM (delL p_s p_del) (fun s f w=>∃ (m:Nat) (cur:Array Value),s.2=m∧f 0=.slice (some ⟨g,0,none⟩) p_s.length cap∧f 1=.func (.func kd) #[] cd.toArray∧f 5=int s.1.length∧f 6=int m∧cur.size=cap*8∧DelI Hs p_s cur s.1 m∧St w0 H0 w Hs (.obj g (.cells cur 36 (0,0)) :: L2)) _ _ h ?_ ?_
  ·refine ⟨m0+1,cur0,rfl,rfl,rfl,?_,?_,hcs,D0,S⟩
   ·show int m0=int ((p_s.take (Int.toNat m0)).length:Nat)
    rw [Int.toNat_natCast,hl0]
   show int (wr ((m0:Int)+1))=int ((m0+1:Nat):Int)
   rw [wr_eq ⟨by omega,by omega⟩]; rfl
  rintro ⟨K,mi⟩ f w ⟨m,cur,rfl,h0,h1,h5,h6,hsz,D,S⟩ y hy hyr
  unfold delL at hy
  refine Ws<|Ws<|Wg<|M' h6<|M' h0<|Nv<|La<|We ?_
  rcases condE hy with ⟨hcm,hy⟩ | ⟨hcm,hy⟩
  ·refine CT hcm<|Wk ?_
   have hmn:m<p_s.length:=by have:=of_decide_eq_true hcm; omega
   refine B hy fun x hx hy=>?_
   obtain rfl:p_s[m]=x:=by
    unfold xnth at hx
    rw [if_pos (by omega)] at hx
    have:=(List.getElem?_eq_some_iff.1 hx).2
    exact this
   obtain ⟨_,hcs1,_,u1,u2,u3,u4,rfl,q1,q2,q3,q4⟩:=D.look hmn
   refine Ws<|Wb<|Ws<|Wg<|M' h0<|M' h6 ?_
   refine WL.w (R.idxN (m:=(m:Int)) rfl rfl el23 ⟨by omega,by omega⟩) ?_
   refine WL.w (R.loadO (i:=0) (o:=m*8) (vs:=[u1,u2,u3,(str p_s[m].fReason),u4,(str p_s[m].fBody),(int p_s[m].fRequested),(int p_s[m].fReceived)]) S rfl rfl lay36 rfl hcs1) ?_
   refine W.alloc _ S zer36 ?_
   intro b7 w8 S
   refine W.store (i:=0) [u1,u2,u3,(str p_s[m].fReason),u4,(str p_s[m].fBody),(int p_s[m].fRequested),(int p_s[m].fReceived)] S rfl rfl rfl lay36 rfl (AllOne.all (l:=[u1,u2,u3,(str p_s[m].fReason),u4,(str p_s[m].fBody),(int p_s[m].fRequested),(int p_s[m].fReceived)]) (.cons (Sl.oneC q1) (.cons (Sl.oneC q2) (.cons (Sl.oneC q3) (.cons rfl (.cons (Sl.oneC q4) (.cons rfl (.cons rfl (.cons rfl .nil))))))))) (Nat.le_of_ble_eq_true rfl) rfl ?_
   intro w9 S
   refine We<|Ws<|Wg<|M' h1 ?_
   refine WL.w (R.loadBN (i:=0) (vs:=[u1,u2,u3,(str p_s[m].fReason),u4,(str p_s[m].fBody),(int p_s[m].fRequested),(int p_s[m].fReceived)]) S rfl rfl lay36 rfl rfl)<|B hy fun bb hbb hy=>W.callvF S rfl rfl (F (Hp.le.refl _) S.holds p_s[m] q1 q2 q3 q4 bb hbb) ?_
   rintro _ w10 H10 rfl S
   refine No<|We ?_
   cases bb with
   | true =>
    refine CF rfl<|Wk<|Wg<|M' h6<|Lg<|A<|We ?_
    obtain rfl:=oi hy
    refine ⟨rfl,m+1,cur,rfl,h0,h1,h5,?_,hsz,D.skip hmn,S.drop _ (.cons _ (.refl _))⟩
    show int (wr ((m:Int)+1))=int ((m+1:Nat):Int)
    rw [wr_eq ⟨by omega,by omega⟩]; rfl
   | false =>
    refine CT rfl<|Ws<|Wg<|M' h0<|M' h5 ?_
    refine WL.w (R.loadBN (i:=0) (vs:=[u1,u2,u3,(str p_s[m].fReason),u4,(str p_s[m].fBody),(int p_s[m].fRequested),(int p_s[m].fReceived)]) S rfl rfl lay36 rfl rfl) ?_
    have hKm:K.length<m:=D.1
    refine WL.w (R.idxN (m:=(K.length:Int)) rfl rfl el23 ⟨by omega,by omega⟩) ?_
    refine W.storeO (i:=1) (o:=K.length*8) S rfl rfl rfl lay36 rfl (AllOne.all (l:=[u1,u2,u3,(str p_s[m].fReason),u4,(str p_s[m].fBody),(int p_s[m].fRequested),(int p_s[m].fReceived)]) (.cons (Sl.oneC q1) (.cons (Sl.oneC q2) (.cons (Sl.oneC q3) (.cons rfl (.cons (Sl.oneC q4) (.cons rfl (.cons rfl (.cons rfl .nil))))))))) (by omega) ?_
    intro w11 cur' hcur S
    have hcur:cur'.toList=cur.toList.take (K.length*8)++[u1,u2,u3,(str p_s[m].fReason),u4,(str p_s[m].fBody),(int p_s[m].fRequested),(int p_s[m].fReceived)]++cur.toList.drop (K.length*8+8):=hcur
    have D2:=D.keep hmn hcs1 hcur
    refine We<|Wg<|M' h5<|Lg<|A<|We<|Wg<|M' h6<|Lg<|A<|We ?_
    obtain rfl:=oi hy
    refine ⟨rfl,m+1,cur',rfl,h0,h1,?_,?_,?_,D2,S.drop _ (.cons _ (.refl _))⟩
    ·show int (wr ((K.length:Int)+1))=int (((K++[p_s[m]]).length:Nat):Int)
     rw [wr_eq ⟨by omega,by omega⟩,List.length_append]; rfl
    ·show int (wr ((m:Int)+1))=int ((m+1:Nat):Int)
     rw [wr_eq ⟨by omega,by omega⟩]; rfl
    rw [← Array.length_toList,hcur]
    simp only [List.length_append,List.length_take,List.length_drop,List.length_cons,List.length_nil]
    have hcl:cur.toList.length=cap*8:=hsz
    rw [hcl]
    omega
  refine CF hcm<|Wx ?_
  obtain rfl:=oi hy
  obtain rfl:=hyr
  have hcm:=of_decide_eq_false hcm
  exact ⟨m,cur,h0,h5,by omega,hsz,D,S⟩
 rintro f w ⟨m,cur,h0,h5,hm,hsz,D,S⟩
 have hKm:=D.1
 have hmp:=D.2.1
 obtain ⟨kc,hkc,hkC⟩:=D.front
 refine Ws<|Wg<|M' h0<|M' h5 ?_
 refine WL.w (R.sliceLo rfl rfl el23 (by omega) (by omega))<|W.clearO (α:=GEntry) (i:=0) S el23 (fun z hz=>by rw [zer36] at hz; obtain rfl:=oi hz; rfl) rfl rfl (by show r.length*8+(p_s.length - r.length)*8≤cur.size; omega) ?_
 intro w12 cur2 hsz2 htk2 S
 refine We<|Ws<|Wg<|M' h0<|M' h5 ?_
 refine WL.w (R.sliceHi rfl rfl el23 (by omega))<|A<|We ?_
 refine WP.ret (OutS.one (L':=[.obj g (.cells cur2 36 (0,0))]) rfl (Hp.le.refl _) S rfl ?_)
 exact ⟨_,rfl,.inr ⟨g,cap,cur2,kc,rfl,rfl,by omega,hcm,by rw [hsz2]; exact hsz,htk2.trans hkc,hkC⟩⟩
theorem zJa {w0 ws:World} {H0 Hs:Hp} {L2:List Ent} (p_t:GTable) {vp_t0:Value} {vp_t1:Value} (S:St w0 H0 ws Hs (L2)) (Rp_t0:Sl (α:=GAxis) Hs vp_t0 p_t.fAxes) (Rp_t1:Sl (α:=GEntry) Hs vp_t1 p_t.fEntries) {r:GTable} (h:zGK p_t=some r) :
  ConS Tryz.prog 44 [(agg [vp_t0,vp_t1])] w0 H0 ws Hs L2 (fun H' v L'=>∃ u1 u2:Value,∃ e1:Ent,L'=[e1]∧v=(agg [u1,u2])∧Sl (α:=GAxis) H' u1 r.fAxes∧MR (α:=GEntry) H' e1 36 u2 r.fEntries):=by
 refine ConS.mk (N:=26) Tryz.func44 rfl rfl kr rfl<|Ws<|Wg ?_
 refine W.box [vp_t0,vp_t1] S rfl rfl ?_
 intro b1 w2 S
 refine W.alloc [(.slice none 0 0),(.slice none 0 0)] S zer25 ?_
 intro b3 w4 S
 refine We<|Ws<|Wg<|Fb ?_
 refine Lo 1 S<|B h fun r5 hr5 h=>W.call S rfl (zH3 S.holds p_t.fAxes Rp_t0 hr5) ?_
 rintro v6 w7 H8 hle9 S R10
 have Rp_t1:=Sl.mono Rp_t1 hle9
 refine WL.w (R.build [(0,v6)] [v6,(.slice none 0 0)] bp25 zer25 rfl (by obtain ⟨_,_,rfl,_⟩:=R10; rfl)) ?_
 refine W.alloc [(.slice none 0 0),(.slice none 0 0)] S zer25 ?_
 intro b11 w12 S
 refine W.store (i:=0) [v6,(.slice none 0 0)] S rfl rfl rfl lay25 rfl (AllOne.all (l:=[v6,(.slice none 0 0)]) (.cons (Sl.oneC R10) (.cons rfl .nil))) (Nat.le_of_ble_eq_true rfl) rfl ?_
 intro w13 S
 refine We<|Ws<|Ws<|Wg<|Fb ?_
 refine Lo 2 S<|Nq Rp_t1<|M<|We ?_
 obtain ⟨v14,hv15⟩:∃ v:Value,v=.slice none 0 0:=⟨_,rfl⟩
 have RM16:MR (α:=GEntry) H8 (.row v14 36 8 0) 36 v14 []:=by rw [hv15]; exact MR.nil
 replace S:=(show ∀ {w:World},St w0 H0 w H8 (.box b11 25 [v6,(.slice none 0 0)] :: .box b3 25 [(.slice none 0 0),(.slice none 0 0)] :: .box b1 25 [vp_t0,vp_t1] :: L2)→St w0 H0 w H8 (.box b11 25 [v6,v14] :: .box b3 25 [(.slice none 0 0),(.slice none 0 0)] :: .box b1 25 [vp_t0,vp_t1] :: L2) from fun S=>by rw [hv15]; exact S) S
 replace S:=St.addNilV hv15 S 36 8
 refine B h fun r46 hr47 h=>WP.cut (fun f w=>match r46 with | (m35,m38)=>∃ (H32:Hp) (v36:Value) (v39:Value) (en41:Ent),f 2=(ptr b3 0)∧f 3=(ptr b11 0)∧Sl (α:=GAxis) H32 v36 m35∧MR (α:=GEntry) H32 en41 36 v39 m38∧Hp.le Hs H32∧St w0 H0 w H32 (en41 :: .box b11 25 [v36,v39] :: .box b3 25 [(.slice none 0 0),(.slice none 0 0)] :: L2)) ?_ ?_
 ·refine Wb ?_
  refine WP.loopM (zDK p_t) (fun s f w=>match s with | (y_22,m24,m27)=>∃ (H17:Hp) (v25:Value) (v28:Value) (en30:Ent),f 2=(ptr b3 0)∧f 3=(ptr b11 0)∧f 11=vp_t1∧f 12=(int (p_t.fEntries.length:Int))∧f 13=(int y_22)∧Sl (α:=GEntry) H17 vp_t1 p_t.fEntries∧Sl (α:=GAxis) H17 v25 m24∧MR (α:=GEntry) H17 en30 36 v28 m27∧Hp.le Hs H17∧St w0 H0 w H17 (en30 :: .box b11 25 [v25,v28] :: .box b3 25 [(.slice none 0 0),(.slice none 0 0)] :: L2)) (0,r5,([]:List GEntry)) r46 hr47 ?_ ?_
  ·exact ⟨H8,v6,v14,(.row v14 36 8 0),rfl,rfl,rfl,rfl,rfl,Rp_t1,R10,RM16,hle9,(S.drop _ (.cons_cons _ (.cons_cons _ (.cons_cons _ (.cons _ (.refl _))))))⟩
  intro s f w hI y43 hy44 hy45
  obtain ⟨y_22,m24,m27⟩:=s
  obtain ⟨H17,v25,v28,en30,h18,h19,h20,h21,h23,Rp_t1,R26,RM29,hE31,S⟩:=hI
  refine Ws<|Wg<|La' h23 h21<|We<|Ws ?_
  rcases condE hy44 with ⟨hc48,hy44⟩ | ⟨hc48,hy44⟩
  ·refine CT hc48<|Wk<|Ws<|Wb<|Ws<|Wg<|B hy44 fun x49 hx49 hy44=>W.idx (α:=GEntry) Rp_t1 h20 h23 el23 hx49 ?_
   rintro a50 _ hA51 ⟨v52,v54,v56,v58,rfl,R53,R55,R57,R59⟩
   refine WL.w (R.loadHN (vs:=[v52,v54,v56,(str x49.fReason),v58,(str x49.fBody),(int x49.fRequested),(int x49.fReceived)]) S rfl hA51 lay36 rfl rfl) ?_
   refine W.alloc [(.slice none 0 0),(.slice none 0 0),(.slice none 0 0),(str []),(.slice none 0 0),(str []),(int 0),(int 0)] S zer36 ?_
   intro b60 w61 S
   refine W.store (i:=0) [v52,v54,v56,(str x49.fReason),v58,(str x49.fBody),(int x49.fRequested),(int x49.fReceived)] S rfl rfl rfl lay36 rfl (AllOne.all (l:=[v52,v54,v56,(str x49.fReason),v58,(str x49.fBody),(int x49.fRequested),(int x49.fReceived)]) (.cons (Sl.oneC R53) (.cons (Sl.oneC R55) (.cons (Sl.oneC R57) (.cons rfl (.cons (Sl.oneC R59) (.cons rfl (.cons rfl (.cons rfl .nil))))))))) (Nat.le_of_ble_eq_true rfl) rfl ?_
   intro w62 S
   refine We<|WP.draw kr 8 rfl (bm 8 0) rfl ?_
   have S:=S.drew
   refine WA.take (i:=0) (bm 8 1) rfl kr kr kr rfl (fun _=>(R.fieldB h19 zE9)) ?_
   refine WA.two (i:=1) (j:=2) (bm 8 3) (bm 8 5) rfl rfl kr rfl rfl ?_ ?_
   ·refine Lo 2 S<|We<|WA.one (i:=2) (bm 8 7) rfl kr rfl ?_
    refine WL.w (R.loadBN (i:=0) (vs:=[v52,v54,v56,(str x49.fReason),v58,(str x49.fBody),(int x49.fRequested),(int x49.fReceived)]) S rfl rfl lay36 rfl rfl)<|We<|WA.one (i:=3) (bm 8 15) rfl kr rfl<|B hy44 fun r63 hr63 hy44=>W.call S rfl (zCQ S.holds x49 R53 R55 R57 R59 hr63) ?_
    rintro v64 w65 H66 hle67 S ⟨u68,u70,u72,u74,rfl,R69,R71,R73,R75⟩
    have Rp_t1:=Sl.mono Rp_t1 hle67
    have R53:=Sl.mono R53 hle67
    have R55:=Sl.mono R55 hle67
    have R57:=Sl.mono R57 hle67
    have R59:=Sl.mono R59 hle67
    have RM29:=MR.mono RM29 hle67
    have R26:=Sl.mono R26 hle67
    refine We<|WA.one (i:=4) (bm 8 31) rfl kr rfl<|W.bslice (α:=GEntry) [(agg [u68,u70,u72,(str r63.fReason),u74,(str r63.fBody),(int r63.fRequested),(int r63.fReceived)])] ([r63]:List GEntry) S el23 rfl rfl rfl (by decide) (Go.Eng.encS ⟨rfl,_,_,_,_,rfl,R69,R71,R73,R75⟩ enc0) ?_
    intro u76 w77 H78 hle79 R80 S
    have Rp_t1:=Sl.mono Rp_t1 hle79
    have R53:=Sl.mono R53 hle79
    have R55:=Sl.mono R55 hle79
    have R57:=Sl.mono R57 hle79
    have R59:=Sl.mono R59 hle79
    have RM29:=MR.mono RM29 hle79
    have R69:=Sl.mono R69 hle79
    have R71:=Sl.mono R71 hle79
    have R73:=Sl.mono R73 hle79
    have R75:=Sl.mono R75 hle79
    have R26:=Sl.mono R26 hle79
    refine We<|WA.one (i:=5) (bm 8 63) rfl kr rfl<|B hy44 fun l81 hl81 hy44=>W.appM (α:=GEntry) (i:=2) S el23 rfl rfl rfl RM29 R80 hl81 ?_
    intro v82 en84 w83 RM85 S
    refine We ?_
    refine WA.take (i:=6) (bm 8 127) rfl kr kr kr rfl (fun _=>(R.fieldB h19 zE9))<|WA.one (i:=7) (bm 8 255) rfl kr rfl ?_
    refine W.storeMR (α:=GEntry) (i:=3) [v25,v82] S RM85 rfl rfl rfl lay23 (Nat.le_of_ble_eq_true rfl) rfl ?_
    intro w86 S
    refine We<|WA.done kr<|Wg<|Lg' h23 rfl<|M<|We ?_
    obtain rfl:=oi hy44
    exact ⟨rfl,⟨H78,v25,v82,(en84),h18,h19,h20,h21,rfl,Rp_t1,R26,RM85,((hE31.trans hle67).trans hle79),(S.drop _ (.cons _ (.cons _ (.cons_cons _ (.cons_cons _ (.cons_cons _ (.refl _)))))))⟩⟩
   refine WL.w (R.loadBN (i:=0) (vs:=[v52,v54,v56,(str x49.fReason),v58,(str x49.fBody),(int x49.fRequested),(int x49.fReceived)]) S rfl rfl lay36 rfl rfl)<|We ?_
   refine WA.two (i:=1) (j:=3) (bm 8 7) (bm 8 13) rfl rfl kr rfl rfl ?_ ?_
   ·refine Lo 2 S<|We<|WA.one (i:=3) (bm 8 15) rfl kr rfl<|B hy44 fun r63 hr63 hy44=>W.call S rfl (zCQ S.holds x49 R53 R55 R57 R59 hr63) ?_
    rintro v64 w65 H66 hle67 S ⟨u68,u70,u72,u74,rfl,R69,R71,R73,R75⟩
    have Rp_t1:=Sl.mono Rp_t1 hle67
    have R53:=Sl.mono R53 hle67
    have R55:=Sl.mono R55 hle67
    have R57:=Sl.mono R57 hle67
    have R59:=Sl.mono R59 hle67
    have RM29:=MR.mono RM29 hle67
    have R26:=Sl.mono R26 hle67
    refine We<|WA.one (i:=4) (bm 8 31) rfl kr rfl<|W.bslice (α:=GEntry) [(agg [u68,u70,u72,(str r63.fReason),u74,(str r63.fBody),(int r63.fRequested),(int r63.fReceived)])] ([r63]:List GEntry) S el23 rfl rfl rfl (by decide) (Go.Eng.encS ⟨rfl,_,_,_,_,rfl,R69,R71,R73,R75⟩ enc0) ?_
    intro u76 w77 H78 hle79 R80 S
    have Rp_t1:=Sl.mono Rp_t1 hle79
    have R53:=Sl.mono R53 hle79
    have R55:=Sl.mono R55 hle79
    have R57:=Sl.mono R57 hle79
    have R59:=Sl.mono R59 hle79
    have RM29:=MR.mono RM29 hle79
    have R69:=Sl.mono R69 hle79
    have R71:=Sl.mono R71 hle79
    have R73:=Sl.mono R73 hle79
    have R75:=Sl.mono R75 hle79
    have R26:=Sl.mono R26 hle79
    refine We<|WA.one (i:=5) (bm 8 63) rfl kr rfl<|B hy44 fun l81 hl81 hy44=>W.appM (α:=GEntry) (i:=2) S el23 rfl rfl rfl RM29 R80 hl81 ?_
    intro v82 en84 w83 RM85 S
    refine We ?_
    refine WA.take (i:=6) (bm 8 127) rfl kr kr kr rfl (fun _=>(R.fieldB h19 zE9))<|WA.one (i:=7) (bm 8 255) rfl kr rfl ?_
    refine W.storeMR (α:=GEntry) (i:=3) [v25,v82] S RM85 rfl rfl rfl lay23 (Nat.le_of_ble_eq_true rfl) rfl ?_
    intro w86 S
    refine We<|WA.done kr<|Wg<|Lg' h23 rfl<|M<|We ?_
    obtain rfl:=oi hy44
    exact ⟨rfl,⟨H78,v25,v82,(en84),h18,h19,h20,h21,rfl,Rp_t1,R26,RM85,((hE31.trans hle67).trans hle79),(S.drop _ (.cons _ (.cons _ (.cons_cons _ (.cons_cons _ (.cons_cons _ (.refl _)))))))⟩⟩
   refine B hy44 fun r63 hr63 hy44=>W.call S rfl (zCQ S.holds x49 R53 R55 R57 R59 hr63) ?_
   rintro v64 w65 H66 hle67 S ⟨u68,u70,u72,u74,rfl,R69,R71,R73,R75⟩
   have Rp_t1:=Sl.mono Rp_t1 hle67
   have R26:=Sl.mono R26 hle67
   have RM29:=MR.mono RM29 hle67
   refine We ?_
   refine WA.two (i:=1) (j:=4) (bm 8 15) (bm 8 29) rfl rfl kr rfl rfl ?_ ?_
   ·refine Lo 2 S<|We<|WA.one (i:=4) (bm 8 31) rfl kr rfl<|W.bslice (α:=GEntry) [(agg [u68,u70,u72,(str r63.fReason),u74,(str r63.fBody),(int r63.fRequested),(int r63.fReceived)])] ([r63]:List GEntry) S el23 rfl rfl rfl (by decide) (Go.Eng.encS ⟨rfl,_,_,_,_,rfl,R69,R71,R73,R75⟩ enc0) ?_
    intro u76 w77 H78 hle79 R80 S
    have Rp_t1:=Sl.mono Rp_t1 hle79
    have R69:=Sl.mono R69 hle79
    have R71:=Sl.mono R71 hle79
    have R73:=Sl.mono R73 hle79
    have R75:=Sl.mono R75 hle79
    have RM29:=MR.mono RM29 hle79
    have R26:=Sl.mono R26 hle79
    refine We<|WA.one (i:=5) (bm 8 63) rfl kr rfl<|B hy44 fun l81 hl81 hy44=>W.appM (α:=GEntry) (i:=2) S el23 rfl rfl rfl RM29 R80 hl81 ?_
    intro v82 en84 w83 RM85 S
    refine We ?_
    refine WA.take (i:=6) (bm 8 127) rfl kr kr kr rfl (fun _=>(R.fieldB h19 zE9))<|WA.one (i:=7) (bm 8 255) rfl kr rfl ?_
    refine W.storeMR (α:=GEntry) (i:=3) [v25,v82] S RM85 rfl rfl rfl lay23 (Nat.le_of_ble_eq_true rfl) rfl ?_
    intro w86 S
    refine We<|WA.done kr<|Wg<|Lg' h23 rfl<|M<|We ?_
    obtain rfl:=oi hy44
    exact ⟨rfl,⟨H78,v25,v82,(en84),h18,h19,h20,h21,rfl,Rp_t1,R26,RM85,((hE31.trans hle67).trans hle79),(S.drop _ (.cons _ (.cons _ (.cons_cons _ (.cons_cons _ (.cons_cons _ (.refl _)))))))⟩⟩
   refine W.bslice (α:=GEntry) [(agg [u68,u70,u72,(str r63.fReason),u74,(str r63.fBody),(int r63.fRequested),(int r63.fReceived)])] ([r63]:List GEntry) S el23 rfl rfl rfl (by decide) (Go.Eng.encS ⟨rfl,_,_,_,_,rfl,R69,R71,R73,R75⟩ enc0) ?_
   intro u76 w77 H78 hle79 R80 S
   have Rp_t1:=Sl.mono Rp_t1 hle79
   have R26:=Sl.mono R26 hle79
   have RM29:=MR.mono RM29 hle79
   refine We<|WA.one (i:=1) (bm 8 31) rfl kr rfl ?_
   refine Lo 3 S<|We<|WA.one (i:=5) (bm 8 63) rfl kr rfl<|B hy44 fun l81 hl81 hy44=>W.appM (α:=GEntry) (i:=2) S el23 rfl rfl rfl RM29 R80 hl81 ?_
   intro v82 en84 w83 RM85 S
   refine We ?_
   refine WA.take (i:=6) (bm 8 127) rfl kr kr kr rfl (fun _=>(R.fieldB h19 zE9))<|WA.one (i:=7) (bm 8 255) rfl kr rfl ?_
   refine W.storeMR (α:=GEntry) (i:=3) [v25,v82] S RM85 rfl rfl rfl lay23 (Nat.le_of_ble_eq_true rfl) rfl ?_
   intro w86 S
   refine We<|WA.done kr<|Wg<|Lg' h23 rfl<|M<|We ?_
   obtain rfl:=oi hy44
   exact ⟨rfl,⟨H78,v25,v82,(en84),h18,h19,h20,h21,rfl,Rp_t1,R26,RM85,((hE31.trans hle67).trans hle79),(S.drop _ (.cons _ (.cons _ (.cons_cons _ (.cons_cons _ (.cons_cons _ (.refl _)))))))⟩⟩
  refine CF hc48<|Wx ?_
  obtain rfl:=oi hy44
  obtain rfl:=hy45
  exact ⟨H17,v25,v28,(en30),h18,h19,R26,RM29,hE31,S⟩
 intro f w hM
 obtain ⟨m35,m38⟩:=r46
 obtain ⟨H32,v36,v39,en41,h33,h34,R37,RM40,hE42,S⟩:=hM
 refine Ws<|Wg ?_
 refine WL.w (R.loadBN (i:=1) (vs:=[v36,v39]) S h34 rfl lay25 rfl rfl) ?_
 refine W.store (i:=2) [v36,v39] S h33 rfl rfl lay25 rfl (AllOne.all (l:=[v36,v39]) (.cons (Sl.oneC R37) (.cons (MR.oneC RM40) .nil))) (Nat.le_of_ble_eq_true rfl) rfl ?_
 intro w87 S
 refine We ?_
 obtain rfl:=oi h
 have S3:=S
 have S3:=S3.front 0 rfl
 replace S3:St w0 H0 _ H32 (en41 :: .box b11 25 [v36,v39] :: .box b3 25 [v36,v39] :: L2):=S3
 replace S3:St w0 H0 _ H32 (en41 :: L2):=S3.drop _ (.cons_cons _ (.cons _ (.cons _ (.refl _))))
 refine WP.ret (OutS.one (L':=[en41]) rfl hE42 S3 (Res.cellB (i:=2) (cs:=[v36,v39]) S h33 rfl lay25 rfl rfl) ?_)
 exact ⟨_,_,_,rfl,rfl,R37,RM40⟩
end Go.Proofs

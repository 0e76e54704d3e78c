/- A part of the proof of laws of the seat: written by program over the translation. -/
import Derived.Test.YtipgfplekgdoiaaGreatDoorEng38
import Derived.Test.YtipgfplekgdoiaaGreatDoorEng32
import Derived.Test.YtipgfplekgdoiaaGreatDoorGenK5
namespace Go.Proofs
set_option maxHeartbeats 4000000
set_option maxRecDepth 10000
open Go.Eng Go.Eng.Pure
set_option linter.unusedVariables false
theorem zGp {w0:World} {H0:Hp} (hw:Holds w0 H0) (p_l:(List GParam)) (p_p:GParam) {vp_l:Value} (Rp_l:Sl (α:=GParam) H0 vp_l p_l) {r:Bool} (h:zCU p_l p_p=some r) :
  Con Tryz.prog 259 [vp_l,(agg [(str p_p.fName),(str p_p.fValue)])] w0 H0 (fun H' v=>v=(boo r)):=by
 refine Con.mk (N:=26) Tryz.func259 rfl rfl kr rfl ?_
 have S:=St.start hw
 refine Ws<|Wg ?_
 refine W.box [(str p_p.fName),(str p_p.fValue)] S rfl rfl ?_
 intro b1 w2 S
 refine A<|We<|Ws<|Ws<|Wg<|M<|Nq Rp_l<|M<|We<|B h fun r13 hr14 h=>WP.cut (fun f w=>match r13 with | .inl _=>∃ (H9:Hp),St w0 H0 w H9 [] | .inr _=>False) ?_ ?_
 ·refine Wb ?_
  refine WP.loopM (zBD p_l p_p) (fun s f w=>match s with | y_7=>∃ (H3:Hp),f 3=(ptr b1 0)∧f 7=vp_l∧f 8=(int (p_l.length:Int))∧f 9=(int y_7)∧Sl (α:=GParam) H3 vp_l p_l∧St w0 H0 w H3 [.box b1 161 [(str p_p.fName),(str p_p.fValue)]]) 0 r13 hr14 ?_ ?_
  ·exact ⟨H0,rfl,rfl,rfl,rfl,Rp_l,S⟩
  intro y_7 f w hI y10 hy11 hy12
  obtain ⟨H3,h4,h5,h6,h8,Rp_l,S⟩:=hI
  refine Ws<|Wg<|La' h8 h6<|We<|Ws ?_
  rcases condE hy11 with ⟨hc15,hy11⟩ | ⟨hc15,hy11⟩
  ·refine CT hc15<|Wk<|Ws<|Wb<|Ws<|Wg<|B hy11 fun x16 hx16 hy11=>W.idx (α:=GParam) Rp_l h5 h8 el156 hx16 ?_
   rintro a17 _ hA18 rfl
   refine WL.w (R.loadHN (vs:=[(str x16.fName),(str x16.fValue)]) S rfl hA18 zGn rfl rfl) ?_
   refine W.alloc [(str []),(str [])] S zJr ?_
   intro b19 w20 S
   refine W.store (i:=0) [(str x16.fName),(str x16.fValue)] S rfl rfl rfl zGn rfl rfl (Nat.le_of_ble_eq_true rfl) rfl ?_
   intro w21 S
   refine We<|Ws<|Wg<|Fb ?_
   refine Lo 0 S<|Fb' h4 ?_
   refine Lo 1 S<|Na<|M<|B hy11 fun b29 hg23 hy11=>WL.grpw 6 [19,20,21,22,23] 24 (boo b29) (fun w=>∃ H':Hp,H3.le H'∧St w0 H0 w H' [.box b19 161 [(str x16.fName),(str x16.fValue)],.box b1 161 [(str p_p.fName),(str p_p.fValue)]]) ?_ ?_
   ·rcases boolE (x16.fName==p_p.fName) with hb22 | hb22
    ·replace hg23:=condT hg23 hb22
     refine Gy hb22<|Fb<|Gy hb22 ?_
     refine Lo 0 S<|Gy hb22<|Fb' h4<|Gy hb22 ?_
     refine Lo 1 S<|Gy hb22<|B hg23 fun r24 hr24 hg23=>W.call S rfl (zC2 S.holds x16.fValue p_p.fValue hr24) ?_
     rintro v25 w26 H27 hle28 S rfl
     have Rp_l:=Sl.mono Rp_l hle28
     refine Pt hb22 ?_
     exact We ⟨(congrArg boo (oi hg23)),ag,⟨H27,hle28,S⟩⟩
    replace hg23:=condF hg23 hb22
    refine Gn hb22<|Gn hb22<|Gn hb22<|Gn hb22<|Gn hb22<|Pf hb22 ?_
    exact We ⟨(congrArg boo (oi hg23)),ag,⟨H3,(Hp.le.refl _),S⟩⟩
   intro us w31 ⟨H30,hle32,S⟩
   have Rp_l:=Sl.mono Rp_l hle32
   refine We ?_
   rcases condE hy11 with ⟨hc33,hy11⟩ | ⟨hc33,hy11⟩
   ·refine CT hc33<|Ws<|Wg<|A<|We ?_
    obtain rfl:=oi hy11
    obtain rfl:=hy12
    obtain rfl:=oi h
    refine WP.ret (Out.one rfl S rfl ?_)
    exact rfl
   refine CF hc33<|Wk<|Wg<|Lg' h8 rfl<|M<|We ?_
   obtain rfl:=oi hy11
   exact ⟨rfl,⟨H30,h4,h5,h6,rfl,Rp_l,(S.drop _ (.cons _ (.cons_cons _ .slnil)))⟩⟩
  refine CF hc15<|Wx ?_
  obtain rfl:=oi hy11
  obtain rfl:=hy12
  exact ⟨H3,(S.drop _ (.cons _ .slnil))⟩
 intro f w hM
 rcases r13 with _ | e
 ·obtain ⟨H9,S⟩:=hM
  refine Ws<|Wg<|A<|We ?_
  obtain rfl:=oi h
  refine WP.ret (Out.one rfl S rfl ?_)
  exact rfl
 exact hM.elim
theorem zHg {w0:World} {H0:Hp} (hw:Holds w0 H0) (p_r:GMediaType) (p_t:GMediaType) {vp_r2:Value} {vp_t2:Value} (Rp_r2:Sl (α:=GParam) H0 vp_r2 p_r.fParams) (Rp_t2:Sl (α:=GParam) H0 vp_t2 p_t.fParams) {r:Int} (h:zDm p_r p_t=some r) :
  Con Tryz.prog 250 [(agg [(str p_r.fType),(str p_r.fSub),vp_r2]),(agg [(str p_t.fType),(str p_t.fSub),vp_t2])] w0 H0 (fun H' v=>v=(int r)):=by
 refine Con.mk (N:=57) Tryz.func250 rfl rfl kr rfl ?_
 have S:=St.start hw
 refine Ws<|Wg ?_
 refine W.box [(str p_r.fType),(str p_r.fSub),vp_r2] S rfl rfl ?_
 intro b1 w2 S
 refine W.box [(str p_t.fType),(str p_t.fSub),vp_t2] S rfl rfl ?_
 intro b3 w4 S
 refine A<|We<|Ws<|Wb<|Ws<|Wg<|Fb ?_
 refine Lo 1 S<|Na<|M ?_
 refine WL.grp 4 [12,13,14] 15 (boo ((p_r.fType==[42])&&(p_r.fSub==[42]))) ?_ ?_
 ·rcases boolE (p_r.fType==[42]) with hb5 | hb5
  ·refine Gy hb5<|Fb<|Gy hb5 ?_
   refine Lo 1 S<|Gy hb5<|Na<|Pt hb5 ?_
   exact We ⟨(andT hb5),ag,rfl⟩
  refine Gn hb5<|Gn hb5<|Gn hb5<|Pf hb5 ?_
  exact We ⟨(andF hb5),ag,rfl⟩
 intro us
 refine A<|We ?_
 rcases condE h with ⟨hc7,h⟩ | ⟨hc7,h⟩
 ·refine CT hc7<|Ws<|Wg<|A<|We ?_
  obtain rfl:=oi h
  refine WP.ret (Out.one rfl S rfl ?_)
  exact rfl
 refine CF hc7<|Ws<|Wg<|Fb ?_
 refine Lo 1 S<|Na<|M ?_
 refine WL.grp 6 [21,22,23,24,25] 26 (boo ((p_r.fSub==[42])&&(p_r.fType==p_t.fType))) ?_ ?_
 ·rcases boolE (p_r.fSub==[42]) with hb8 | hb8
  ·refine Gy hb8<|Fb<|Gy hb8 ?_
   refine Lo 1 S<|Gy hb8<|Fb<|Gy hb8 ?_
   refine Lo 0 S<|Gy hb8<|Na<|Pt hb8 ?_
   exact We ⟨(andT hb8),ag,rfl⟩
  refine Gn hb8<|Gn hb8<|Gn hb8<|Gn hb8<|Gn hb8<|Pf hb8 ?_
  exact We ⟨(andF hb8),ag,rfl⟩
 intro us
 refine A<|We ?_
 rcases condE h with ⟨hc10,h⟩ | ⟨hc10,h⟩
 ·refine CT hc10<|Ws<|Wg<|A<|We ?_
  obtain rfl:=oi h
  refine WP.ret (Out.one rfl S rfl ?_)
  exact rfl
 refine CF hc10<|Ws<|Wg<|Fb ?_
 refine Lo 1 S<|Fb ?_
 refine Lo 0 S<|Nb<|M ?_
 refine WL.grp 6 [34,35,36,37,38] 39 (boo ((p_r.fType !=p_t.fType)||(p_r.fSub !=p_t.fSub))) ?_ ?_
 ·rcases boolE (p_r.fType !=p_t.fType) with hb11 | hb11
  ·refine Gn hb11<|Gn hb11<|Gn hb11<|Gn hb11<|Gn hb11<|Pt hb11 ?_
   exact We ⟨(orT hb11),ag,rfl⟩
  refine Gy hb11<|Fb<|Gy hb11 ?_
  refine Lo 1 S<|Gy hb11<|Fb<|Gy hb11 ?_
  refine Lo 0 S<|Gy hb11<|Nb<|Pf hb11 ?_
  exact We ⟨(orF hb11),ag,rfl⟩
 intro us
 refine A<|We ?_
 rcases condE h with ⟨hc13,h⟩ | ⟨hc13,h⟩
 ·refine CT hc13<|Ws<|Wg<|A<|We ?_
  obtain rfl:=oi h
  refine WP.ret (Out.one rfl S rfl ?_)
  exact rfl
 refine CF hc13<|Wk<|Ws<|Ws<|Wg<|Fb ?_
 refine Lo 1 S<|Nq Rp_r2<|M<|We<|B h fun r26 hr27 h=>WP.cut (fun f w=>match r26 with | .inl _=>∃ (H21:Hp),f 2=(ptr b1 0)∧Sl (α:=GParam) H21 vp_r2 p_r.fParams∧St w0 H0 w H21 [.box b1 158 [(str p_r.fType),(str p_r.fSub),vp_r2]] | .inr _=>False) ?_ ?_
 ·refine Wb ?_
  refine WP.loopM (zBp p_r p_t) (fun s f w=>match s with | y_19=>∃ (H14:Hp),f 2=(ptr b1 0)∧f 3=(ptr b3 0)∧f 41=vp_r2∧f 42=(int (p_r.fParams.length:Int))∧f 43=(int y_19)∧Sl (α:=GParam) H14 vp_r2 p_r.fParams∧Sl (α:=GParam) H14 vp_t2 p_t.fParams∧St w0 H0 w H14 [.box b3 158 [(str p_t.fType),(str p_t.fSub),vp_t2],.box b1 158 [(str p_r.fType),(str p_r.fSub),vp_r2]]) 0 r26 hr27 ?_ ?_
  ·exact ⟨H0,rfl,rfl,rfl,rfl,rfl,Rp_r2,Rp_t2,S⟩
  intro y_19 f w hI y23 hy24 hy25
  obtain ⟨H14,h15,h16,h17,h18,h20,Rp_r2,Rp_t2,S⟩:=hI
  refine Ws<|Wg<|La' h20 h18<|We<|Ws ?_
  rcases condE hy24 with ⟨hc28,hy24⟩ | ⟨hc28,hy24⟩
  ·refine CT hc28<|Wk<|Ws<|Wb<|Ws<|Wg<|B hy24 fun x29 hx29 hy24=>W.idx (α:=GParam) Rp_r2 h17 h20 el156 hx29 ?_
   rintro a30 _ hA31 rfl
   refine WL.w (R.loadHN (vs:=[(str x29.fName),(str x29.fValue)]) S rfl hA31 zGn rfl rfl) ?_
   refine W.alloc [(str []),(str [])] S zJr ?_
   intro b32 w33 S
   refine W.store (i:=0) [(str x29.fName),(str x29.fValue)] S rfl rfl rfl zGn rfl rfl (Nat.le_of_ble_eq_true rfl) rfl ?_
   intro w34 S
   refine We<|Ws<|Wg<|Fb' h16 ?_
   refine Lo 1 S ?_
   refine WL.w (R.loadBN (i:=0) (vs:=[(str x29.fName),(str x29.fValue)]) S rfl rfl zGn rfl rfl)<|B hy24 fun r35 hr35 hy24=>W.call S rfl (zGp S.holds p_t.fParams x29 Rp_t2 hr35) ?_
   rintro v36 w37 H38 hle39 S rfl
   have Rp_r2:=Sl.mono Rp_r2 hle39
   have Rp_t2:=Sl.mono Rp_t2 hle39
   refine No<|We ?_
   rcases condE hy24 with ⟨hc40,hy24⟩ | ⟨hc40,hy24⟩
   ·refine CT hc40<|Ws<|Wg<|A<|We ?_
    obtain rfl:=oi hy24
    obtain rfl:=hy25
    obtain rfl:=oi h
    refine WP.ret (Out.one rfl S rfl ?_)
    exact rfl
   refine CF hc40<|Wk<|Wg<|Lg' h20 rfl<|M<|We ?_
   obtain rfl:=oi hy24
   exact ⟨rfl,⟨H38,h15,h16,h17,h18,rfl,Rp_r2,Rp_t2,(S.drop _ (.cons _ (.cons_cons _ (.cons_cons _ .slnil))))⟩⟩
  refine CF hc28<|Wx ?_
  obtain rfl:=oi hy24
  obtain rfl:=hy25
  exact ⟨H14,h15,Rp_r2,(S.drop _ (.cons _ (.cons_cons _ .slnil)))⟩
 intro f w hM
 rcases r26 with _ | e
 ·obtain ⟨H21,h22,Rp_r2,S⟩:=hM
  refine Ws<|Wg<|Fb' h22 ?_
  refine Lo 0 S<|Nq Rp_r2<|Lg<|A<|We ?_
  obtain rfl:=oi h
  refine WP.ret (Out.one rfl S rfl ?_)
  exact rfl
 exact hM.elim
theorem zF5 {w0:World} {H0:Hp} (hw:Holds w0 H0) (p_s:Str) (p_prefix:Str) {r:Bool} (h:zBj p_s p_prefix=some r) :
  Con Tryz.prog 268 [(str p_s),(str p_prefix)] w0 H0 (fun H' v=>v=(boo r)):=by
 refine Con.mk (N:=18) Tryz.func268 rfl rfl kr rfl ?_
 have S:=St.start hw
 refine Ws<|Wg<|A<|We<|Ws<|Wg<|M<|Ns<|M<|Ns<|Ld<|M<|B h fun b4 hg2 h=>WL.grp 7 [11,12,13,14,15,16] 17 (boo b4) ?_ ?_
 ·rcases boolE (decide ((p_prefix.length:Int)≤(p_s.length:Int))) with hb1 | hb1
  ·replace hg2:=condT hg2 hb1
   refine Gy hb1<|M<|Gy hb1<|M<|Gy hb1<|Ns<|Gy hb1<|B hg2 fun s3 hs3 hg2=>Jd hs3<|Gy hb1<|M<|Gy hb1<|Na<|Pt hb1 ?_
   exact We ⟨(congrArg boo (oi hg2)),ag,rfl⟩
  replace hg2:=condF hg2 hb1
  refine Gn hb1<|Gn hb1<|Gn hb1<|Gn hb1<|Gn hb1<|Gn hb1<|Pf hb1 ?_
  exact We ⟨(congrArg boo (oi hg2)),ag,rfl⟩
 intro us
 refine A<|We ?_
 obtain rfl:=oi h
 refine WP.ret (Out.one rfl S rfl ?_)
 exact rfl
theorem zHF {w0:World} {H0:Hp} (hw:Holds w0 H0) (p_s:Str) (p_prefix:Str) {r:Bool} (h:zEE p_s p_prefix=some r) :
  Con Tryz.prog 260 [(str p_s),(str p_prefix)] w0 H0 (fun H' v=>v=(boo r)):=by
 refine Con.mk (N:=8) Tryz.func260 rfl rfl kr rfl ?_
 have S:=St.start hw
 refine Ws<|Wg<|A<|We<|Ws<|Wg<|M<|M<|B h fun r1 hr1 h=>W.call S rfl (zF5 S.holds p_s p_prefix hr1) ?_
 rintro v2 w3 H4 hle5 S rfl
 refine A<|We ?_
 obtain rfl:=oi h
 refine WP.ret (Out.one rfl S rfl ?_)
 exact rfl
theorem zIQ {w0:World} {H0:Hp} (hw:Holds w0 H0) (p_r:Str) (p_tag:Str) {r:Int} (h:zEH p_r p_tag=some r) :
  Con Tryz.prog 251 [(str p_r),(str p_tag)] w0 H0 (fun H' v=>v=(int r)):=by
 refine Con.mk (N:=26) Tryz.func251 rfl rfl kr rfl ?_
 have S:=St.start hw
 refine Ws<|Wg<|A<|We<|Ws<|Ws<|Wg<|M<|B h fun r1 hr1 h=>W.call S rfl (zF0 S.holds p_r hr1) ?_
 rintro v2 w3 H4 hle5 S rfl
 refine No<|M<|B h fun b13 hg7 h=>WL.grpw 4 [9,10,11] 12 (boo b13) (fun w=>∃ H':Hp,H4.le H'∧St w0 H0 w H' []) ?_ ?_
 ·rcases boolE (!r1) with hb6 | hb6
  ·replace hg7:=condT hg7 hb6
   refine Gn hb6<|Gn hb6<|Gn hb6<|Pt hb6 ?_
   exact We ⟨(congrArg boo (oi hg7)),ag,⟨H4,(Hp.le.refl _),S⟩⟩
  replace hg7:=condF hg7 hb6
  refine Gy hb6<|M<|Gy hb6<|B hg7 fun r8 hr8 hg7=>W.call S rfl (zFH S.holds p_tag hr8) ?_
  rintro v9 w10 H11 hle12 S rfl
  refine Gy hb6<|No<|Pf hb6 ?_
  exact We ⟨(congrArg boo (oi hg7)),ag,⟨H11,hle12,S⟩⟩
 intro us w15 ⟨H14,hle16,S⟩
 refine We ?_
 rcases condE h with ⟨hc17,h⟩ | ⟨hc17,h⟩
 ·refine CT hc17<|Ws<|Wg<|A<|We ?_
  obtain rfl:=oi h
  refine WP.ret (Out.one rfl S rfl ?_)
  exact rfl
 refine CF hc17<|Wk<|Ws<|Ws<|Wg<|M<|Na<|We ?_
 rcases condE h with ⟨hc18,h⟩ | ⟨hc18,h⟩
 ·refine CT hc18<|Ws<|Wg<|A<|We ?_
  obtain rfl:=oi h
  refine WP.ret (Out.one rfl S rfl ?_)
  exact rfl
 refine CF hc18<|Wk<|Ws<|Ws<|Wg<|M<|B h fun r19 hr19 h=>W.call S rfl (zAe S.holds p_tag hr19) ?_
 rintro v20 w21 H22 hle23 S rfl
 refine B h fun s24 hs24 h=>Je hs24<|M<|B h fun r25 hr25 h=>W.call S rfl (zAe S.holds p_r hr25) ?_
 rintro v26 w27 H28 hle29 S rfl
 refine B h fun s30 hs30 h=>Je hs30<|B h fun r31 hr31 h=>W.call S rfl (zHF S.holds s24 s30 hr31) ?_
 rintro v32 w33 H34 hle35 S rfl
 refine No<|We ?_
 rcases condE h with ⟨hc36,h⟩ | ⟨hc36,h⟩
 ·refine CT hc36<|Ws<|Wg<|A<|We ?_
  obtain rfl:=oi h
  refine WP.ret (Out.one rfl S rfl ?_)
  exact rfl
 refine CF hc36<|Wk<|Ws<|Wg<|M<|B h fun r37 hr37 h=>W.call S rfl (zGW S.holds p_r [45] hr37) ?_
 rintro v38 w39 H40 hle41 S rfl
 refine Lg<|A<|We ?_
 obtain rfl:=oi h
 refine WP.ret (Out.one rfl S rfl ?_)
 exact rfl
theorem zJM {w0:World} {H0:Hp} (hw:Holds w0 H0) (p_kind:Int) (p_r:Str) (p_value:Str) {r:Int} (h:zFd p_kind p_r p_value=some r) :
  Con Tryz.prog 252 [(int p_kind),(str p_r),(str p_value)] w0 H0 (fun H' v=>v=(int r)):=by
 refine Con.mk (N:=18) Tryz.func252 rfl rfl kr rfl ?_
 have S:=St.start hw
 refine Ws<|Wg<|A<|We<|Ws<|Wb<|Ws<|Wg<|M<|Na<|A<|We ?_
 rcases condE h with ⟨hc1,h⟩ | ⟨hc1,h⟩
 ·refine CT hc1<|Ws<|Wg<|A<|We ?_
  obtain rfl:=oi h
  refine WP.ret (Out.one rfl S rfl ?_)
  exact rfl
 refine CF hc1<|Ws<|Wg<|M<|M<|B h fun r2 hr2 h=>W.call S rfl (zBe S.holds p_kind p_r hr2) ?_
 rintro v3 w4 H5 hle6 S rfl
 refine M<|M<|B h fun r7 hr7 h=>W.call S rfl (zBe S.holds p_kind p_value hr7) ?_
 rintro v8 w9 H10 hle11 S rfl
 refine Na<|A<|We ?_
 rcases condE h with ⟨hc12,h⟩ | ⟨hc12,h⟩
 ·refine CT hc12<|Ws<|Wg<|A<|We ?_
  obtain rfl:=oi h
  refine WP.ret (Out.one rfl S rfl ?_)
  exact rfl
 refine CF hc12<|Wk<|Ws<|Wg<|A<|We ?_
 obtain rfl:=oi h
 refine WP.ret (Out.one rfl S rfl ?_)
 exact rfl
theorem zJZ {w0:World} {H0:Hp} (hw:Holds w0 H0) (p_kind:Int) (p_r:Str) (p_value:Str) {r:Int} (h:zFW p_kind p_r p_value=some r) :
  Con Tryz.prog 220 [(int p_kind),(str p_r),(str p_value)] w0 H0 (fun H' v=>v=(int r)):=by
 refine Con.mk (N:=57) Tryz.func220 rfl rfl kr rfl ?_
 have S:=St.start hw
 refine Ws<|Wg<|A<|We<|Ws<|Ws<|Wg<|M<|We<|B h fun j3 hj2 h=>WP.cut (fun f w=>match j3 with | .inl _=>∃ (H1:Hp),St w0 H0 w H1 [] | .inr _=>False) ?_ ?_
 ·refine Wb<|Ws<|Wg<|Le<|A<|We ?_
  rcases condE hj2 with ⟨hc4,hj2⟩ | ⟨hc4,hj2⟩
  ·refine CT hc4<|Ws<|Wg<|M<|B hj2 fun r5 hr5 hj2=>W.call S rfl (zB9 S.holds p_r hr5) ?_
   rintro v6 w7 H8 hle9 S ⟨u10,rfl,R11⟩
   refine M ?_
   refine Ex ?_
   refine Ex ?_
   refine W.alloc [(str []),(str []),(.slice none 0 0)] S zC7 ?_
   intro b12 w13 S
   refine W.store (i:=0) [(str r5.1.fType),(str r5.1.fSub),u10] S rfl rfl rfl zAw rfl (AllOne.all (l:=[(str r5.1.fType),(str r5.1.fSub),u10]) (.cons rfl (.cons rfl (.cons (Sl.oneC R11) .nil)))) (Nat.le_of_ble_eq_true rfl) rfl ?_
   intro w14 S
   refine A<|We<|Ws<|Wg<|M<|B hj2 fun r15 hr15 hj2=>W.call S rfl (zFe S.holds p_value hr15) ?_
   rintro v16 w17 H18 hle19 S ⟨u20,rfl,R21⟩
   have R11:=Sl.mono R11 hle19
   refine M ?_
   refine Ex ?_
   refine Ex ?_
   refine W.alloc [(str []),(str []),(.slice none 0 0)] S zC7 ?_
   intro b22 w23 S
   refine W.store (i:=0) [(str r15.1.fType),(str r15.1.fSub),u20] S rfl rfl rfl zAw rfl (AllOne.all (l:=[(str r15.1.fType),(str r15.1.fSub),u20]) (.cons rfl (.cons rfl (.cons (Sl.oneC R21) .nil)))) (Nat.le_of_ble_eq_true rfl) rfl ?_
   intro w24 S
   refine A<|We<|Ws<|Ws<|Wg<|M<|No<|M ?_
   refine WL.grp 3 [27,28] 29 (boo ((!r5.2)||(!r15.2))) ?_ ?_
   ·rcases boolE (!r5.2) with hb25 | hb25
    ·refine Gn hb25<|Gn hb25<|Pt hb25 ?_
     exact We ⟨(orT hb25),ag,rfl⟩
    refine Gy hb25<|M<|Gy hb25<|No<|Pf hb25 ?_
    exact We ⟨(orF hb25),ag,rfl⟩
   intro us
   refine We ?_
   rcases condE hj2 with ⟨hc27,hj2⟩ | ⟨hc27,hj2⟩
   ·refine CT hc27<|Ws<|Wg<|A<|We ?_
    obtain rfl:=oi hj2
    obtain rfl:=oi h
    refine WP.ret (Out.one rfl S rfl ?_)
    exact rfl
   refine CF hc27<|Wk<|Ws<|Wg ?_
   refine WL.w (R.loadBN (i:=1) (vs:=[(str r5.1.fType),(str r5.1.fSub),u10]) S rfl rfl zAw rfl rfl) ?_
   refine WL.w (R.loadBN (i:=0) (vs:=[(str r15.1.fType),(str r15.1.fSub),u20]) S rfl rfl zAw rfl rfl)<|B hj2 fun r28 hr28 hj2=>W.call S rfl (zHg S.holds r5.1 r15.1 R11 R21 hr28) ?_
   rintro v29 w30 H31 hle32 S rfl
   refine A<|We ?_
   obtain rfl:=oi hj2
   obtain rfl:=oi h
   refine WP.ret (Out.one rfl S rfl ?_)
   exact rfl
  refine CF hc4<|Ws<|Wg<|Le<|A<|We ?_
  rcases condE hj2 with ⟨hc33,hj2⟩ | ⟨hc33,hj2⟩
  ·refine CT hc33<|Ws<|Wg<|M<|M<|B hj2 fun r34 hr34 hj2=>W.call S rfl (zIQ S.holds p_r p_value hr34) ?_
   rintro v35 w36 H37 hle38 S rfl
   refine A<|We ?_
   obtain rfl:=oi hj2
   obtain rfl:=oi h
   refine WP.ret (Out.one rfl S rfl ?_)
   exact rfl
  refine CF hc33<|Ws<|Ws<|Wg<|Le<|A<|We<|B hj2 fun y_43 hj45 hj2=>WP.cut (fun f w=>∃ (H39:Hp),f 0=(int p_kind)∧f 1=(str p_r)∧f 2=(str p_value)∧f 38=(boo y_43)∧St w0 H0 w H39 []) ?_ ?_
  ·rcases condE hj45 with ⟨hc47,hj45⟩ | ⟨hc47,hj45⟩
   ·refine CT hc47<|Wk ?_
    obtain rfl:=oi hj45
    exact ⟨H0,rfl,rfl,rfl,rfl,S⟩
   refine CF hc47<|Wg<|Le<|A<|We ?_
   obtain rfl:=oi hj45
   exact ⟨H0,rfl,rfl,rfl,rfl,S⟩
  rintro f w ⟨H39,h40,h41,h42,h44,S⟩
  rcases condE hj2 with ⟨hc48,hj2⟩ | ⟨hc48,hj2⟩
  ·refine WP.condT h44 hc48<|Ws<|Ws<|Wg<|M' h41<|B hj2 fun r49 hr49 hj2=>W.call S rfl (zAv S.holds p_r hr49) ?_
   rintro v50 w51 H52 hle53 S rfl
   refine No<|M<|B hj2 fun b61 hg55 hj2=>WL.grpw 4 [45,46,47] 48 (boo b61) (fun w=>∃ H':Hp,H52.le H'∧St w0 H0 w H' []) ?_ ?_
   ·rcases boolE (!r49) with hb54 | hb54
    ·replace hg55:=condT hg55 hb54
     refine Gn hb54<|Gn hb54<|Gn hb54<|Pt hb54 ?_
     exact We ⟨(congrArg boo (oi hg55)),ag,⟨H52,(Hp.le.refl _),S⟩⟩
    replace hg55:=condF hg55 hb54
    refine Gy hb54<|M' h42<|Gy hb54<|B hg55 fun r56 hr56 hg55=>W.call S rfl (zAv S.holds p_value hr56) ?_
    rintro v57 w58 H59 hle60 S rfl
    refine Gy hb54<|No<|Pf hb54 ?_
    exact We ⟨(congrArg boo (oi hg55)),ag,⟨H59,hle60,S⟩⟩
   intro us w63 ⟨H62,hle64,S⟩
   refine M ?_
   refine WL.grp 3 [50,51] 52 (boo (b61||(p_value==[42]))) ?_ ?_
   ·rcases boolE b61 with hb65 | hb65
    ·refine Gn hb65<|Gn hb65<|Pt hb65 ?_
     exact We ⟨(orT hb65),ag,rfl⟩
    refine Gy hb65<|M' h42<|Gy hb65<|Na<|Pf hb65 ?_
    exact We ⟨(orF hb65),ag,rfl⟩
   intro us
   refine We ?_
   rcases condE hj2 with ⟨hc67,hj2⟩ | ⟨hc67,hj2⟩
   ·refine CT hc67<|Ws<|Wg<|A<|We ?_
    obtain rfl:=oi hj2
    obtain rfl:=oi h
    refine WP.ret (Out.one rfl S rfl ?_)
    exact rfl
   refine CF hc67<|Wk<|Ws<|Wg<|M' h40<|M' h41<|M' h42<|B hj2 fun r68 hr68 hj2=>W.call S rfl (zJM S.holds p_kind p_r p_value hr68) ?_
   rintro v69 w70 H71 hle72 S rfl
   refine A<|We ?_
   obtain rfl:=oi hj2
   obtain rfl:=oi h
   refine WP.ret (Out.one rfl S rfl ?_)
   exact rfl
  refine WP.condF h44 hc48<|Wk ?_
  obtain rfl:=oi hj2
  exact ⟨H39,S⟩
 intro f w hM
 rcases j3 with _ | e
 ·obtain ⟨H1,S⟩:=hM
  refine Ws<|Wg<|A<|We ?_
  obtain rfl:=oi h
  refine WP.ret (Out.one rfl S rfl ?_)
  exact rfl
 exact hM.elim
theorem zJP {w0:World} {H0:Hp} (hw:Holds w0 H0) (p_kind:Int) (p_l:(List GPref)) (p_present:Bool) (p_value:Str) {vp_l:Value} (Rp_l:Sl (α:=GPref) H0 vp_l p_l) {r:Int} (h:zEX p_kind p_l p_present p_value=some r) :
  Con Tryz.prog 183 [(int p_kind),vp_l,(boo p_present),(str p_value)] w0 H0 (fun H' v=>v=(int r)):=by
 refine Con.mk (N:=45) Tryz.func183 rfl rfl kr rfl ?_
 have S:=St.start hw
 refine Ws<|Wg<|A<|We<|Ws<|Ws<|Wg<|M<|No<|We ?_
 rcases condE h with ⟨hc1,h⟩ | ⟨hc1,h⟩
 ·refine CT hc1<|Ws<|Wg<|A<|We ?_
  obtain rfl:=oi h
  refine WP.ret (Out.one rfl S rfl ?_)
  exact rfl
 refine CF hc1<|Wk<|Ws<|Wg<|A<|A<|We<|Ws<|Ws<|Wg<|M<|Nq Rp_l ?_
 refine M<|We<|B h fun r23 hr24 h=>WP.cut (fun f w=>match r23 with | (best_16,q_18)=>∃ (H13:Hp),f 0=(int p_kind)∧f 3=(str p_value)∧f 9=(int best_16)∧f 10=(int q_18)∧St w0 H0 w H13 []) ?_ ?_
 ·refine Wb ?_
  refine WP.loopM (zCk p_kind p_l p_value) (fun s f w=>match s with | (best_5,q_7,y_11)=>∃ (H2:Hp),f 0=(int p_kind)∧f 3=(str p_value)∧f 9=(int best_5)∧f 10=(int q_7)∧f 16=vp_l∧f 17=(int (p_l.length:Int))∧f 18=(int y_11)∧Sl (α:=GPref) H2 vp_l p_l∧St w0 H0 w H2 []) ((-1),0,0) r23 hr24 ?_ ?_
  ·exact ⟨H0,rfl,rfl,rfl,rfl,rfl,rfl,rfl,Rp_l,S⟩
  intro s f w hI y20 hy21 hy22
  obtain ⟨best_5,q_7,y_11⟩:=s
  obtain ⟨H2,h3,h4,h6,h8,h9,h10,h12,Rp_l,S⟩:=hI
  refine Ws<|Wg<|La' h12 h10<|We<|Ws ?_
  rcases condE hy21 with ⟨hc25,hy21⟩ | ⟨hc25,hy21⟩
  ·refine CT hc25<|Wk<|Ws<|Wb<|Ws<|Wg<|B hy21 fun x26 hx26 hy21=>W.idx (α:=GPref) Rp_l h9 h12 el122 hx26 ?_
   rintro a27 _ hA28 rfl
   refine WL.w (R.loadHN (vs:=[(str x26.fRange),(int x26.fQ)]) S rfl hA28 zDM rfl rfl) ?_
   refine W.alloc [(str []),(int 0)] S zGc ?_
   intro b29 w30 S
   refine W.store (i:=0) [(str x26.fRange),(int x26.fQ)] S rfl rfl rfl zDM rfl rfl (Nat.le_of_ble_eq_true rfl) rfl ?_
   intro w31 S
   refine We<|Ws<|Wg<|M' h3<|Fb ?_
   refine Lo 0 S<|M' h4<|B hy21 fun r32 hr32 hy21=>W.call S rfl (zJZ S.holds p_kind x26.fRange p_value hr32) ?_
   rintro v33 w34 H35 hle36 S rfl
   have Rp_l:=Sl.mono Rp_l hle36
   refine A<|We<|Ws<|Wg<|M<|M' h6<|Lc<|We ?_
   rcases condE hy21 with ⟨hc37,hy21⟩ | ⟨hc37,hy21⟩
   ·refine CT hc37<|WP.quiet S kr kr<|QM<|QFb ?_
    refine WQ.val (fun w hw=>by obtain ⟨_,hq,S⟩:=hw; exact (R.loadB (i:=0) (v:=int x26.fQ) S rfl rfl lay3 rfl))<|QA<|QA<|WQ.nil ?_
    intro w38 H39 hle40 S
    have Rp_l:=Sl.mono Rp_l hle40
    refine Wg<|Lg' h12 rfl<|M<|We ?_
    obtain rfl:=oi hy21
    exact ⟨rfl,⟨H39,h3,h4,rfl,rfl,h9,h10,rfl,Rp_l,(S.drop _ (.cons _ .slnil))⟩⟩
   refine CF hc37<|Wk<|Wg<|Lg' h12 rfl<|M<|We ?_
   obtain rfl:=oi hy21
   exact ⟨rfl,⟨H35,h3,h4,h6,h8,h9,h10,rfl,Rp_l,(S.drop _ (.cons _ .slnil))⟩⟩
  refine CF hc25<|Wx ?_
  obtain rfl:=oi hy21
  obtain rfl:=hy22
  exact ⟨H2,h3,h4,h6,h8,S⟩
 intro f w hM
 obtain ⟨best_16,q_18⟩:=r23
 obtain ⟨H13,h14,h15,h17,h19,S⟩:=hM
 refine Ws<|Ws<|Wg<|M' h17<|La<|M ?_
 refine WL.grp 3 [37,38] 39 (boo ((decide (best_16<0))&&(p_kind==4))) ?_ ?_
 ·rcases boolE (decide (best_16<0)) with hb41 | hb41
  ·refine Gy hb41<|M' h14<|Gy hb41<|Le<|Pt hb41 ?_
   exact We ⟨(andT hb41),ag,rfl⟩
  refine Gn hb41<|Gn hb41<|Pf hb41 ?_
  exact We ⟨(andF hb41),ag,rfl⟩
 intro us
 refine M<|B h fun b50 hg44 h=>WL.grpw 3 [41,42] 43 (boo b50) (fun w=>∃ H':Hp,H13.le H'∧St w0 H0 w H' []) ?_ ?_
 ·rcases boolE ((decide (best_16<0))&&(p_kind==4)) with hb43 | hb43
  ·replace hg44:=condT hg44 hb43
   refine Gy hb43<|M' h15<|Gy hb43<|B hg44 fun r45 hr45 hg44=>W.call S rfl (zC2 S.holds p_value [105,100,101,110,116,105,116,121] hr45) ?_
   rintro v46 w47 H48 hle49 S rfl
   refine Pt hb43 ?_
   exact We ⟨(congrArg boo (oi hg44)),ag,⟨H48,hle49,S⟩⟩
  replace hg44:=condF hg44 hb43
  refine Gn hb43<|Gn hb43<|Pf hb43 ?_
  exact We ⟨(congrArg boo (oi hg44)),ag,⟨H13,(Hp.le.refl _),S⟩⟩
 intro us w52 ⟨H51,hle53,S⟩
 refine We ?_
 rcases condE h with ⟨hc54,h⟩ | ⟨hc54,h⟩
 ·refine CT hc54<|Ws<|Wg<|A<|We ?_
  obtain rfl:=oi h
  refine WP.ret (Out.one rfl S rfl ?_)
  exact rfl
 refine CF hc54<|Wk<|Ws<|Wg<|M' h19<|A<|We ?_
 obtain rfl:=oi h
 refine WP.ret (Out.one rfl S rfl ?_)
 exact rfl
theorem zKx {w0:World} {H0:Hp} (hw:Holds w0 H0) (p_kind:Int) (p_l:(List GPref)) (p_present:Bool) (p_values:(List Str)) {vp_l:Value} {vp_values:Value} (Rp_l:Sl (α:=GPref) H0 vp_l p_l) (Rp_values:Sl (α:=Str) H0 vp_values p_values) {r:(List Str)} (h:zFs p_kind p_l p_present p_values=some r) :
  Con Tryz.prog 143 [(int p_kind),vp_l,(boo p_present),vp_values] w0 H0 (fun H' v=>Sl (α:=Str) H' v r):=by
 refine Con.mk (N:=55) Tryz.func143 rfl rfl kr rfl ?_
 have S:=St.start hw
 have Rp_l_0:=Rp_l
 have Rp_values_0:=Rp_values
 refine Ws<|Wg<|A<|We<|Ws<|Wg<|A<|We<|Ws<|Wg<|A<|We ?_
 refine Ws<|Ws<|Wg<|M<|Nq Rp_values<|M<|We ?_
 obtain ⟨v1,hv2⟩:∃ v:Value,v=.slice none 0 0:=⟨_,rfl⟩
 have R3:Sl (α:=Str) H0 v1 []:=by rw [hv2]; exact Sl.nil
 replace S:=St.addNilV hv2 S 9 1
 obtain ⟨v4,hv5⟩:∃ v:Value,v=.slice none 0 0:=⟨_,rfl⟩
 have R6:Sl (α:=Int) H0 v4 []:=by rw [hv5]; exact Sl.nil
 replace S:=St.addNilV hv5 S 3 1
 refine B h fun out_24 hr32 h=>WP.cut (fun f w=>∃ (H23:Hp) (v25:Value),f 9=v25∧Sl (α:=Str) H23 v25 out_24∧St w0 H0 w H23 [.row v25 9 1 out_24.length]) ?_ ?_
 ·refine Wb ?_
  refine WP.loopM (zB6 p_kind p_l p_present p_values) (fun s f w=>match s with | (out_11,qs_15,y_21)=>∃ (H7:Hp) (v12:Value) (v16:Value),f 0=(int p_kind)∧f 1=vp_l∧f 2=(boo p_present)∧f 9=v12∧f 10=v16∧f 15=vp_values∧f 16=(int (p_values.length:Int))∧f 17=(int y_21)∧Sl (α:=GPref) H7 vp_l p_l∧Sl (α:=Str) H7 v12 out_11∧Sl (α:=Int) H7 v16 qs_15∧Sl (α:=Str) H7 vp_values p_values∧St w0 H0 w H7 [.row v16 3 1 qs_15.length,.row v12 9 1 out_11.length]) (([]:List Str),([]:List Int),0) out_24 hr32 ?_ ?_
  ·exact ⟨H0,v1,v4,rfl,rfl,rfl,(Eq.trans (b:=.slice none 0 0) rfl hv2.symm),(Eq.trans (b:=.slice none 0 0) rfl hv5.symm),rfl,rfl,rfl,Rp_l,R3,R6,Rp_values,S⟩
  intro s f w hI y28 hy29 hy30
  obtain ⟨out_11,qs_15,y_21⟩:=s
  obtain ⟨H7,v12,v16,h8,h9,h10,h14,h18,h19,h20,h22,Rp_l,R13,R17,Rp_values,S⟩:=hI
  refine Ws<|Wg<|La' h22 h20<|We<|Ws ?_
  rcases condE hy29 with ⟨hc33,hy29⟩ | ⟨hc33,hy29⟩
  ·refine CT hc33<|Wk<|Ws<|Wb<|Ws<|Wg<|B hy29 fun x34 hx34 hy29=>W.idx (α:=Str) Rp_values h19 h22 el34 hx34 ?_
   rintro a35 _ hA36 rfl
   refine Lq S hA36<|A<|We<|Ws<|Wg<|M' h8<|M' h9<|M' h10<|M<|B hy29 fun r37 hr37 hy29=>W.call S rfl (zJP S.holds p_kind p_l p_present x34 Rp_l hr37) ?_
   rintro v38 w39 H40 hle41 S rfl
   have Rp_l:=Sl.mono Rp_l hle41
   have R13:=Sl.mono R13 hle41
   have R17:=Sl.mono R17 hle41
   have Rp_values:=Sl.mono Rp_values hle41
   refine A<|We<|Ws<|Ws<|Wg<|M<|Lb<|We ?_
   rcases condE hy29 with ⟨hc42,hy29⟩ | ⟨hc42,hy29⟩
   ·refine CT hc42<|Wx<|Wg<|Lg' h22 rfl<|M<|We ?_
    obtain rfl:=oi hy29
    exact ⟨rfl,⟨H40,v12,v16,h8,h9,h10,h14,h18,h19,h20,rfl,Rp_l,R13,R17,Rp_values,S⟩⟩
   refine CF hc42<|Wk<|Ws<|Wg<|M' h18<|Nq R17<|A<|We<|Ws<|B hy29 fun at_64 hr73 hy29=>WP.cut (fun f w=>∃ (H56:Hp),f 0=(int p_kind)∧f 1=vp_l∧f 2=(boo p_present)∧f 9=v12∧f 10=v16∧f 12=(str x34)∧f 13=(int r37)∧f 14=(int at_64)∧f 15=vp_values∧f 16=(int (p_values.length:Int))∧f 17=(int y_21)∧Sl (α:=GPref) H56 vp_l p_l∧Sl (α:=Str) H56 v12 out_11∧Sl (α:=Int) H56 v16 qs_15∧Sl (α:=Str) H56 vp_values p_values∧St w0 H0 w H56 [.row v16 3 1 qs_15.length,.row v12 9 1 out_11.length]) ?_ ?_
   ·refine Wb ?_
    refine WP.loopM (zDb qs_15 r37) (fun s f w=>match s with | at_51=>∃ (H43:Hp),f 0=(int p_kind)∧f 1=vp_l∧f 2=(boo p_present)∧f 9=v12∧f 10=v16∧f 12=(str x34)∧f 13=(int r37)∧f 14=(int at_51)∧f 15=vp_values∧f 16=(int (p_values.length:Int))∧f 17=(int y_21)∧Sl (α:=GPref) H43 vp_l p_l∧Sl (α:=Str) H43 v12 out_11∧Sl (α:=Int) H43 v16 qs_15∧Sl (α:=Str) H43 vp_values p_values∧St w0 H0 w H43 [.row v16 3 1 qs_15.length,.row v12 9 1 out_11.length]) (qs_15.length:Int) at_64 hr73 ?_ ?_
    ·exact ⟨H40,h8,h9,h10,h14,h18,rfl,rfl,rfl,h19,h20,h22,Rp_l,R13,R17,Rp_values,S⟩
    intro at_51 f w hI y69 hy70 hy71
    obtain ⟨H43,h44,h45,h46,h47,h48,h49,h50,h52,h53,h54,h55,Rp_l,R13,R17,Rp_values,S⟩:=hI
    refine Ws<|Ws<|Wg<|M' h52<|Lc<|M<|B hy70 fun b79 hg75 hy70=>WL.grp 8 [33,34,35,36,37,38,39] 40 (boo b79) ?_ ?_
    ·rcases boolE (decide (0<at_51)) with hb74 | hb74
     ·replace hg75:=condT hg75 hb74
      refine Gy hb74<|M' h48<|Gy hb74<|M' h52<|Gy hb74<|Lh<|Gy hb74<|B hg75 fun x76 hx76 hg75=>W.idx (α:=Int) R17 rfl rfl el118 hx76 ?_
      rintro a77 _ hA78 rfl
      refine Gy hb74 ?_
      refine Lq S hA78<|Gy hb74<|M' h50<|Gy hb74<|La<|Pt hb74 ?_
      exact We ⟨(congrArg boo (oi hg75)),ag,rfl⟩
     replace hg75:=condF hg75 hb74
     refine Gn hb74<|Gn hb74<|Gn hb74<|Gn hb74<|Gn hb74<|Gn hb74<|Gn hb74<|Pf hb74 ?_
     exact We ⟨(congrArg boo (oi hg75)),ag,rfl⟩
    intro us
    refine We ?_
    rcases condE hy70 with ⟨hc80,hy70⟩ | ⟨hc80,hy70⟩
    ·refine CT hc80<|Wk<|Wb<|Wg<|M' h52<|Lh<|A<|We ?_
     obtain rfl:=oi hy70
     exact ⟨rfl,⟨H43,h44,h45,h46,h47,h48,h49,h50,rfl,h53,h54,h55,Rp_l,R13,R17,Rp_values,S⟩⟩
    refine CF hc80<|Wx ?_
    obtain rfl:=oi hy70
    obtain rfl:=hy71
    exact ⟨H43,h44,h45,h46,h47,h48,h49,h50,h52,h53,h54,h55,Rp_l,R13,R17,Rp_values,S⟩
   rintro f w ⟨H56,h57,h58,h59,h60,h61,h62,h63,h65,h66,h67,h68,Rp_l,R13,R17,Rp_values,S⟩
   refine Wg<|M' h60<|M' h65<|M' h62<|W.bslice (α:=Str) [(str x34)] ([x34]:List Str) S el34 rfl rfl rfl (by decide) (Go.Eng.encS ⟨rfl,rfl⟩ enc0) ?_
   intro u81 w82 H83 hle84 R85 S
   have Rp_l:=Sl.mono Rp_l hle84
   have R13:=Sl.mono R13 hle84
   have R17:=Sl.mono R17 hle84
   have Rp_values:=Sl.mono Rp_values hle84
   refine B hy29 fun l87 hl87 hy29=>W.insertRow (i:=2) (j:=0) zFq rfl (by decide) hw S (by decide) rfl rfl rfl rfl rfl R13 R85 hl87 ?_
   intro v88 w89 H90 hle91 hK86 R92 S
   have Rp_l:=Sl.mono Rp_l_0 hle91
   have R17:=hK86 (show (2:Nat)≠1 from by decide) rfl R17
   have Rp_values:=Sl.mono Rp_values_0 hle91
   have R85:=hK86 (show (2:Nat)≠0 from by decide) rfl R85
   refine M' h61<|M' h65<|M' h63<|W.bslice (α:=Int) [(int r37)] ([r37]:List Int) S el118 rfl rfl rfl (by decide) (Go.Eng.encS ⟨rfl,rfl⟩ enc0) ?_
   intro u93 w94 H95 hle96 R97 S
   have Rp_l:=Sl.mono Rp_l hle96
   have R17:=Sl.mono R17 hle96
   have Rp_values:=Sl.mono Rp_values hle96
   have R85:=Sl.mono R85 hle96
   have R92:=Sl.mono R92 hle96
   refine B hy29 fun l99 hl99 hy29=>W.insertRow (i:=2) (j:=0) zGw rfl (by decide) hw S (by decide) rfl rfl rfl rfl rfl R17 R97 hl99 ?_
   intro v100 w101 H102 hle103 hK98 R104 S
   have Rp_l:=Sl.mono Rp_l_0 hle103
   have Rp_values:=Sl.mono Rp_values_0 hle103
   have R85:=hK98 (show (2:Nat)≠1 from by decide) rfl R85
   have R92:=hK98 (show (2:Nat)≠3 from by decide) rfl R92
   have R97:=hK98 (show (2:Nat)≠0 from by decide) rfl R97
   refine A<|A<|We<|Wg<|Lg' h68 rfl<|M<|We ?_
   obtain rfl:=oi hy29
   exact ⟨rfl,⟨H102,v88,v100,h57,h58,h59,rfl,rfl,h66,h67,rfl,Rp_l,R92,R104,Rp_values,(S.drop _ (.cons _ (.cons _ (.cons_cons _ (.cons_cons _ .slnil)))))⟩⟩
  refine CF hc33<|Wx ?_
  obtain rfl:=oi hy29
  obtain rfl:=hy30
  exact ⟨H7,v12,h14,R13,(S.drop _ (.cons _ (.cons_cons _ .slnil)))⟩
 rintro f w ⟨H23,v25,h27,R26,S⟩
 refine Ws<|Wg<|M' h27<|A<|We ?_
 obtain rfl:=oi h
 refine WP.ret (Out.one rfl S rfl ?_)
 exact R26
theorem zEe {w0:World} {H0:Hp} (hw:Holds w0 H0) (p_s:(List Str)) (p_v:Str) {vp_s:Value} (Rp_s:Sl (α:=Str) H0 vp_s p_s) {r:Int} (h:zBg p_s p_v=some r) :
  Con Tryz.prog 122 [vp_s,(str p_v)] w0 H0 (fun H' v=>v=(int r)):=by
 refine Con.mk (N:=19) Tryz.func122 rfl rfl kr rfl ?_
 have S:=St.start hw
 refine Ws<|Wg<|A<|We<|Ws<|Ws<|Wg<|M<|Nq Rp_s<|M<|We<|B h fun r11 hr12 h=>WP.cut (fun f w=>match r11 with | .inl _=>∃ (H7:Hp),St w0 H0 w H7 [] | .inr _=>False) ?_ ?_
 ·refine Wb ?_
  refine WP.loopM (zAc p_s p_v) (fun s f w=>match s with | y_5=>∃ (H1:Hp),f 0=vp_s∧f 1=(str p_v)∧f 7=(int (p_s.length:Int))∧f 8=(int y_5)∧Sl (α:=Str) H1 vp_s p_s∧St w0 H0 w H1 []) 0 r11 hr12 ?_ ?_
  ·exact ⟨H0,rfl,rfl,rfl,rfl,Rp_s,S⟩
  intro y_5 f w hI y8 hy9 hy10
  obtain ⟨H1,h2,h3,h4,h6,Rp_s,S⟩:=hI
  refine Ws<|Wg<|La' h6 h4<|We<|Ws ?_
  rcases condE hy9 with ⟨hc13,hy9⟩ | ⟨hc13,hy9⟩
  ·refine CT hc13<|Wk<|Ws<|Wb<|Ws<|Wg<|M' h6<|A<|We<|Ws<|Wg<|M' h3 ?_
   refine M' h2<|M<|B hy9 fun x14 hx14 hy9=>W.idx (α:=Str) Rp_s rfl rfl el34 hx14 ?_
   rintro a15 _ hA16 rfl
   refine Lq S hA16<|Na<|We ?_
   rcases condE hy9 with ⟨hc17,hy9⟩ | ⟨hc17,hy9⟩
   ·refine CT hc17<|Ws<|Wg<|M<|A<|We ?_
    obtain rfl:=oi hy9
    obtain rfl:=hy10
    obtain rfl:=oi h
    refine WP.ret (Out.one rfl S rfl ?_)
    exact rfl
   refine CF hc17<|Wk<|Wg<|Lg' h6 rfl<|M<|We ?_
   obtain rfl:=oi hy9
   exact ⟨rfl,⟨H1,h2,h3,h4,rfl,Rp_s,S⟩⟩
  refine CF hc13<|Wx ?_
  obtain rfl:=oi hy9
  obtain rfl:=hy10
  exact ⟨H1,S⟩
 intro f w hM
 rcases r11 with _ | e
 ·obtain ⟨H7,S⟩:=hM
  refine Ws<|Wg<|A<|We ?_
  obtain rfl:=oi h
  refine WP.ret (Out.one rfl S rfl ?_)
  exact rfl
 exact hM.elim
theorem zBz {w0:World} {H0:Hp} (hw:Holds w0 H0) (p_s:(List Str)) (p_v:Str) {vp_s:Value} (Rp_s:Sl (α:=Str) H0 vp_s p_s) {r:Bool} (h:zAb p_s p_v=some r) :
  Con Tryz.prog 96 [vp_s,(str p_v)] w0 H0 (fun H' v=>v=(boo r)):=by
 refine Con.mk (N:=9) Tryz.func96 rfl rfl kr rfl ?_
 have S:=St.start hw
 refine Ws<|Wg<|A<|We<|Ws<|Wg<|M<|M<|B h fun r1 hr1 h=>W.call S rfl (zEe S.holds p_s p_v Rp_s hr1) ?_
 rintro v2 w3 H4 hle5 S rfl
 refine Ld<|A<|We ?_
 obtain rfl:=oi h
 refine WP.ret (Out.one rfl S rfl ?_)
 exact rfl
theorem zHY {w0:World} {H0:Hp} (hw:Holds w0 H0) (p_a:GAxis) (p_l:(List GField)) (p_strict:Bool) {vp_a1:Value} {vp_l:Value} (Rp_a1:Sl (α:=Str) H0 vp_a1 p_a.fValues) (Rp_l:Sl (α:=GField) H0 vp_l p_l) {r:(List Str)} (h:zDU p_a p_l p_strict=some r) :
  Con Tryz.prog 108 [(agg [(str p_a.fName),vp_a1]),vp_l,(boo p_strict)] w0 H0 (fun H' v=>Sl (α:=Str) H' v r):=by
 refine Con.mk (N:=57) Tryz.func108 rfl rfl kr rfl ?_
 have S:=St.start hw
 refine Ws<|Wg ?_
 refine W.box [(str p_a.fName),vp_a1] S rfl rfl ?_
 intro b1 w2 S
 refine A<|We<|Ws<|Ws<|Wg ?_
 refine WL.w (R.loadBN (i:=0) (vs:=[(str p_a.fName),vp_a1]) S rfl rfl lay68 rfl rfl)<|W.bslice (α:=GAxis) [(agg [(str p_a.fName),vp_a1])] ([p_a]:List GAxis) S el22 rfl rfl rfl (by decide) (Go.Eng.encS ⟨rfl,_,rfl,Rp_a1⟩ enc0) ?_
 intro u3 w4 H5 hle6 R7 S
 have Rp_a1:=Sl.mono Rp_a1 hle6
 have Rp_l:=Sl.mono Rp_l hle6
 refine B h fun r8 hr8 h=>W.call S rfl (zEG S.holds ([p_a]:List GAxis) R7 hr8) ?_
 rintro v9 w10 H11 hle12 S rfl
 have Rp_a1:=Sl.mono Rp_a1 hle12
 have Rp_l:=Sl.mono Rp_l hle12
 refine No<|We ?_
 rcases condE h with ⟨hc13,h⟩ | ⟨hc13,h⟩
 ·refine CT hc13<|Ws<|Wg<|A<|We ?_
  obtain rfl:=oi h
  refine WP.ret (Out.one rfl S rfl ?_)
  exact Sl.nil
 refine CF hc13<|Wk<|Ws<|Wg<|A<|We<|Ws<|Ws<|Wg<|Fb ?_
 refine Lo 1 S<|B h fun r14 hr14 h=>W.call S rfl (zFl S.holds p_a.fName hr14) ?_
 rintro v15 w16 H17 hle18 S rfl
 have Rp_a1:=Sl.mono Rp_a1 hle18
 have Rp_l:=Sl.mono Rp_l hle18
 refine A<|We<|Ws<|Wg<|M<|Lf<|We<|B h fun out_22 hj26 h=>WP.cut (fun f w=>∃ (H19:Hp) (v23:Value),f 2=(boo p_strict)∧f 3=(ptr b1 0)∧f 7=v23∧Sl (α:=Str) H19 v23 out_22∧Sl (α:=Str) H19 vp_a1 p_a.fValues∧St w0 H0 w H19 [.box b1 68 [(str p_a.fName),vp_a1]]) ?_ ?_
 ·rcases condE hj26 with ⟨hc28,hj26⟩ | ⟨hc28,hj26⟩
  ·refine CT hc28<|Ws<|Wg<|M<|M<|B hj26 fun r29 hr29 hj26=>W.call S rfl (zJL S.holds r14 p_l Rp_l hr29) ?_
   rintro v30 w31 H32 hle33 S ⟨u34,rfl,R35⟩
   have Rp_a1:=Sl.mono Rp_a1 hle33
   have Rp_l:=Sl.mono Rp_l hle33
   refine M ?_
   refine Ex ?_
   refine Ex<|A<|A<|We<|Wg<|M<|M<|M<|Fb ?_
   refine Lo 1 S<|B hj26 fun r36 hr36 hj26=>W.call S rfl (zKx S.holds r14 r29.1 r29.2 p_a.fValues R35 Rp_a1 hr36) ?_
   rintro v37 w38 H39 hle40 S R41
   have Rp_a1:=Sl.mono Rp_a1 hle40
   have Rp_l:=Sl.mono Rp_l hle40
   refine A<|We ?_
   obtain rfl:=oi hj26
   exact ⟨H39,v37,rfl,rfl,rfl,R41,Rp_a1,(S.drop _ (.cons _ (.cons_cons _ .slnil)))⟩
  refine CF hc28<|Ws<|Wg<|M<|Fb ?_
  refine Lo 1 S<|B hj26 fun r42 hr42 hj26=>W.call S rfl (zHd S.holds p_l p_a.fName Rp_l hr42) ?_
  rintro v43 w44 H45 hle46 S R47
  have Rp_a1:=Sl.mono Rp_a1 hle46
  refine B hj26 fun r48 hr48 hj26=>W.call S rfl (zIa S.holds r42 R47 hr48) ?_
  rintro v49 w50 H51 hle52 S rfl
  have Rp_a1:=Sl.mono Rp_a1 hle52
  refine A<|We<|Ws<|Wg<|Fb ?_
  refine Lo 1 S<|M<|B hj26 fun r53 hr53 hj26=>W.call S rfl (zBz S.holds p_a.fValues r48 Rp_a1 hr53) ?_
  rintro v54 w55 H56 hle57 S rfl
  have Rp_a1:=Sl.mono Rp_a1 hle57
  refine We ?_
  rcases condE hj26 with ⟨hc58,hj26⟩ | ⟨hc58,hj26⟩
  ·refine CT hc58<|Wg<|M<|W.bslice (α:=Str) [(str r48)] ([r48]:List Str) S el34 rfl rfl rfl (by decide) (Go.Eng.encS ⟨rfl,rfl⟩ enc0) ?_
   intro u59 w60 H61 hle62 R63 S
   have Rp_a1:=Sl.mono Rp_a1 hle62
   refine A<|We ?_
   obtain rfl:=oi hj26
   exact ⟨H61,u59,rfl,rfl,rfl,R63,Rp_a1,(S.drop _ (.cons _ (.cons _ (.cons_cons _ .slnil))))⟩
  refine CF hc58<|Wk ?_
  obtain rfl:=oi hj26
  exact ⟨H56,.slice none 0 0,rfl,rfl,rfl,Sl.nil,Rp_a1,(S.drop _ (.cons _ (.cons_cons _ .slnil)))⟩
 rintro f w ⟨H19,v23,h20,h21,h25,R24,Rp_a1,S⟩
 refine Ws<|Ws<|Wg<|M' h25<|Nq R24<|Le<|M ?_
 refine WL.grp 3 [48,49] 50 (boo (((out_22.length:Int)==0)&&(!p_strict))) ?_ ?_
 ·rcases boolE ((out_22.length:Int)==0) with hb64 | hb64
  ·refine Gy hb64<|M' h20<|Gy hb64<|No<|Pt hb64 ?_
   exact We ⟨(andT hb64),ag,rfl⟩
  refine Gn hb64<|Gn hb64<|Pf hb64 ?_
  exact We ⟨(andF hb64),ag,rfl⟩
 intro us
 refine We<|B h fun out_67 hj71 h=>WP.cut (fun f w=>∃ (H66:Hp) (v68:Value),f 7=v68∧Sl (α:=Str) H66 v68 out_67∧St w0 H0 w H66 []) ?_ ?_
 ·rcases condE hj71 with ⟨hc73,hj71⟩ | ⟨hc73,hj71⟩
  ·refine CT hc73<|Wg<|Fb' h21 ?_
   refine Lo 0 S<|B hj71 fun x74 hx74 hj71=>W.idx (α:=Str) Rp_a1 rfl rfl el34 hx74 ?_
   rintro a75 _ hA76 rfl
   refine Lq S hA76<|W.bslice (α:=Str) [(str x74)] ([x74]:List Str) S el34 rfl rfl rfl (by decide) (Go.Eng.encS ⟨rfl,rfl⟩ enc0) ?_
   intro u77 w78 H79 hle80 R81 S
   have R24:=Sl.mono R24 hle80
   refine A<|We ?_
   obtain rfl:=oi hj71
   exact ⟨H79,u77,rfl,R81,(S.drop _ (.cons _ (.cons _ .slnil)))⟩
  refine CF hc73<|Wk ?_
  obtain rfl:=oi hj71
  exact ⟨H19,v23,h25,R24,(S.drop _ (.cons _ .slnil))⟩
 rintro f w ⟨H66,v68,h70,R69,S⟩
 refine Ws<|Wg<|M' h70<|A<|We ?_
 obtain rfl:=oi h
 refine WP.ret (Out.one rfl S rfl ?_)
 exact R69
end Go.Proofs

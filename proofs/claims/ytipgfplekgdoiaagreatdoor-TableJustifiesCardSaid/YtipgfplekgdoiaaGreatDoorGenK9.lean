/- A part of the proof of laws of the seat: written by program over the translation. -/
import Derived.Test.YtipgfplekgdoiaaGreatDoorEng38
import Derived.Test.YtipgfplekgdoiaaGreatDoorEng32
import Derived.Test.YtipgfplekgdoiaaGreatDoorGenK8
namespace Go.Proofs
set_option maxHeartbeats 4000000
set_option maxRecDepth 10000
open Go.Eng Go.Eng.Pure
set_option linter.unusedVariables false
theorem zDY {w0:World} {H0:Hp} (hw:Holds w0 H0) (p_s:Str) {r:(GMediaType×Bool)} (h:zBL p_s=some r) :
  Con Tryz.prog 189 [(str p_s)] w0 H0 (fun H' v=>∃ u1:Value,v=(.tuple ⟨[(agg [(str r.1.fType),(str r.1.fSub),u1]),(boo r.2)]⟩)∧Sl (α:=GParam) H' u1 r.1.fParams):=by
 refine Con.mk (N:=61) Tryz.func189 rfl rfl kr rfl ?_
 have S:=St.start hw
 refine Ws<|Wg ?_
 refine W.alloc [(str []),(str []),(.slice none 0 0)] S zC7 ?_
 intro b1 w2 S
 refine A<|We<|Ws<|Wg<|M<|B h fun r3 hr3 h=>W.call S rfl (zEj S.holds p_s hr3) ?_
 rintro v4 w5 H6 hle7 S ⟨u8,rfl,R9⟩
 refine M ?_
 refine Ex ?_
 refine Ex ?_
 refine Ex<|A<|A<|A<|We<|Ws<|Ws<|Wg<|M ?_
 refine No<|We ?_
 rcases condE h with ⟨hc10,h⟩ | ⟨hc10,h⟩
 ·refine CT hc10<|Ws<|Wg ?_
  refine WL.w (R.build [] [(str []),(str []),(.slice none 0 0)] bp158 zC7 rfl rfl) ?_
  refine W.store (i:=0) [(str []),(str []),(.slice none 0 0)] S rfl rfl rfl zAw rfl (AllOne.all (l:=[(str []),(str []),(.slice none 0 0)]) (.cons rfl (.cons rfl (.cons rfl .nil)))) (Nat.le_of_ble_eq_true rfl) rfl ?_
  intro w11 S
  refine A<|We ?_
  obtain rfl:=oi h
  refine WP.ret (Out.two rfl S (Res.cellB (i:=0) (cs:=[(str []),(str []),(.slice none 0 0)]) S rfl rfl zAw rfl rfl) rfl ?_)
  exact ⟨_,rfl,Sl.nil⟩
 refine CF hc10<|Wk<|Ws<|Wg<|M<|B h fun r12 hr12 h=>W.call S rfl (zFj S.holds r3.1 47 0 hr12) ?_
 rintro v13 w14 H15 hle16 S rfl
 have R9:=Sl.mono R9 hle16
 refine A<|We<|Ws<|Ws<|Wg<|M<|La<|M<|B h fun b25 hg18 h=>WL.grpw 6 [22,23,24,25,26] 27 (boo b25) (fun w=>∃ H':Hp,H15.le H'∧St w0 H0 w H' [.box b1 158 [(str []),(str []),(.slice none 0 0)]]) ?_ ?_
 ·rcases boolE (decide (r12<0)) with hb17 | hb17
  ·replace hg18:=condT hg18 hb17
   refine Gn hb17<|Gn hb17<|Gn hb17<|Gn hb17<|Gn hb17<|Pt hb17 ?_
   exact We ⟨(congrArg boo (oi hg18)),ag,⟨H15,(Hp.le.refl _),S⟩⟩
  replace hg18:=condF hg18 hb17
  refine Gy hb17<|M<|Gy hb17<|M<|Gy hb17<|B hg18 fun s19 hs19 hg18=>Jd hs19<|Gy hb17<|B hg18 fun r20 hr20 hg18=>W.call S rfl (zAu S.holds s19 hr20) ?_
  rintro v21 w22 H23 hle24 S rfl
  have R9:=Sl.mono R9 hle24
  refine Gy hb17<|No<|Pf hb17 ?_
  exact We ⟨(congrArg boo (oi hg18)),ag,⟨H23,hle24,S⟩⟩
 intro us w27 ⟨H26,hle28,S⟩
 have R9:=Sl.mono R9 hle28
 refine M<|B h fun b37 hg30 h=>WL.grpw 7 [29,30,31,32,33,34] 35 (boo b37) (fun w=>∃ H':Hp,H26.le H'∧St w0 H0 w H' [.box b1 158 [(str []),(str []),(.slice none 0 0)]]) ?_ ?_
 ·rcases boolE b25 with hb29 | hb29
  ·replace hg30:=condT hg30 hb29
   refine Gn hb29<|Gn hb29<|Gn hb29<|Gn hb29<|Gn hb29<|Gn hb29<|Pt hb29 ?_
   exact We ⟨(congrArg boo (oi hg30)),ag,⟨H26,(Hp.le.refl _),S⟩⟩
  replace hg30:=condF hg30 hb29
  refine Gy hb29<|M<|Gy hb29<|M<|Gy hb29<|Lg<|Gy hb29<|B hg30 fun s31 hs31 hg30=>Jc hs31<|Gy hb29<|B hg30 fun r32 hr32 hg30=>W.call S rfl (zAu S.holds s31 hr32) ?_
  rintro v33 w34 H35 hle36 S rfl
  have R9:=Sl.mono R9 hle36
  refine Gy hb29<|No<|Pf hb29 ?_
  exact We ⟨(congrArg boo (oi hg30)),ag,⟨H35,hle36,S⟩⟩
 intro us w39 ⟨H38,hle40,S⟩
 have R9:=Sl.mono R9 hle40
 refine M<|B h fun b48 hg42 h=>WL.grp 12 [37,38,39,40,41,42,43,44,45,46,47] 48 (boo b48) ?_ ?_
 ·rcases boolE b37 with hb41 | hb41
  ·replace hg42:=condT hg42 hb41
   refine Gn hb41<|Gn hb41<|Gn hb41<|Gn hb41<|Gn hb41<|WL.gund rfl rfl<|WL.gund rfl rfl<|WL.gund rfl rfl<|WL.gund rfl rfl<|WL.gund rfl rfl<|Gn hb41<|Pt hb41 ?_
   exact We ⟨(congrArg boo (oi hg42)),ag,rfl⟩
  replace hg42:=condF hg42 hb41
  refine Gy hb41<|M<|Gy hb41<|M<|Gy hb41<|B hg42 fun s43 hs43 hg42=>Jd hs43<|Gy hb41<|Na<|Gy hb41<|M<|B hg42 fun b47 hg45 hg42=>WL.grp 6 [42,43,44,45,46] 47 (boo b47) ?_ ?_
  ·rcases boolE (s43==[42]) with hb44 | hb44
   ·replace hg45:=condT hg45 hb44
    refine Gy hb44<|M<|Gy hb44<|M<|Gy hb44<|Lg<|Gy hb44<|B hg45 fun s46 hs46 hg45=>Jc hs46<|Gy hb44<|Nb<|Gy hb41<|Pt hb44 ?_
    exact We ⟨(congrArg boo (oi hg45)),ag,rfl⟩
   replace hg45:=condF hg45 hb44
   refine Gn hb44<|Gn hb44<|Gn hb44<|Gn hb44<|Gn hb44<|Gy hb41<|Pf hb44 ?_
   exact We ⟨(congrArg boo (oi hg45)),ag,rfl⟩
  intro us
  refine Pf hb41 ?_
  exact We ⟨(congrArg boo (oi hg42)),ag,rfl⟩
 intro us
 refine We ?_
 rcases condE h with ⟨hc49,h⟩ | ⟨hc49,h⟩
 ·refine CT hc49<|Ws<|Wg ?_
  refine WL.w (R.build [] [(str []),(str []),(.slice none 0 0)] bp158 zC7 rfl rfl) ?_
  refine W.store (i:=0) [(str []),(str []),(.slice none 0 0)] S rfl rfl rfl zAw rfl (AllOne.all (l:=[(str []),(str []),(.slice none 0 0)]) (.cons rfl (.cons rfl (.cons rfl .nil)))) (Nat.le_of_ble_eq_true rfl) rfl ?_
  intro w50 S
  refine A<|We ?_
  obtain rfl:=oi h
  refine WP.ret (Out.two rfl S (Res.cellB (i:=0) (cs:=[(str []),(str []),(.slice none 0 0)]) S rfl rfl zAw rfl rfl) rfl ?_)
  exact ⟨_,rfl,Sl.nil⟩
 refine CF hc49<|Wk<|Ws<|WP.quietTail 11 S kr kr<|QM<|QM<|B h fun s54 hs54 h=>QJd hs54<|B h fun r55 hr55 h=>WQ.call (v:=str r55) rfl (fun w H' hq S=>zBU S.holds s54 hr55)<|QM<|QM<|QLg<|B h fun s60 hs60 h=>QJc hs60<|B h fun r61 hr61 h=>WQ.call (v:=str r61) rfl (fun w H' hq S=>zBU S.holds s60 hr61)<|QM ?_
 refine WQ.val (fun _ _=>(R.build [(0,(str r55)),(1,(str r61)),(2,u8)] [(str r55),(str r61),u8] bp158 zC7 rfl (by obtain ⟨_,_,rfl,_⟩:=R9; rfl)))<|WQ.nil ?_
 intro w51 H52 hle53 S
 have R9:=Sl.mono R9 hle53
 refine W.store (i:=0) [(str r55),(str r61),u8] S rfl rfl rfl zAw rfl (AllOne.all (l:=[(str r55),(str r61),u8]) (.cons rfl (.cons rfl (.cons (Sl.oneC R9) .nil)))) (Nat.le_of_ble_eq_true rfl) rfl ?_
 intro w66 S
 refine A<|We ?_
 obtain rfl:=oi h
 refine WP.ret (Out.two rfl S (Res.cellB (i:=0) (cs:=[(str r55),(str r61),u8]) S rfl rfl zAw rfl rfl) rfl ?_)
 exact ⟨_,rfl,R9⟩
theorem zFR {w0:World} {H0:Hp} (hw:Holds w0 H0) (p_s:Str) {r:(GMediaType×Bool)} (h:zCg p_s=some r) :
  Con Tryz.prog 149 [(str p_s)] w0 H0 (fun H' v=>∃ u1:Value,v=(.tuple ⟨[(agg [(str r.1.fType),(str r.1.fSub),u1]),(boo r.2)]⟩)∧Sl (α:=GParam) H' u1 r.1.fParams):=by
 refine Con.mk (N:=25) Tryz.func149 rfl rfl kr rfl ?_
 have S:=St.start hw
 refine Ws<|Wg ?_
 refine W.alloc [(str []),(str []),(.slice none 0 0)] S zC7 ?_
 intro b1 w2 S
 refine A<|We<|Ws<|Wg<|M<|B h fun r3 hr3 h=>W.call S rfl (zDY S.holds p_s hr3) ?_
 rintro v4 w5 H6 hle7 S ⟨u8,rfl,R9⟩
 refine M ?_
 refine Ex ?_
 refine Ex ?_
 refine W.alloc [(str []),(str []),(.slice none 0 0)] S zC7 ?_
 intro b10 w11 S
 refine W.store (i:=0) [(str r3.1.fType),(str r3.1.fSub),u8] S rfl rfl rfl zAw rfl (AllOne.all (l:=[(str r3.1.fType),(str r3.1.fSub),u8]) (.cons rfl (.cons rfl (.cons (Sl.oneC R9) .nil)))) (Nat.le_of_ble_eq_true rfl) rfl ?_
 intro w12 S
 refine A<|We<|Ws<|Ws<|Wg<|M<|No<|M ?_
 refine WL.grp 4 [14,15,16] 17 (boo ((!r3.2)||(r3.1.fType==[42]))) ?_ ?_
 ·rcases boolE (!r3.2) with hb13 | hb13
  ·refine Gn hb13<|Gn hb13<|Gn hb13<|Pt hb13 ?_
   exact We ⟨(orT hb13),ag,rfl⟩
  refine Gy hb13<|Fb<|Gy hb13 ?_
  refine Lo 0 S<|Gy hb13<|Na<|Pf hb13 ?_
  exact We ⟨(orF hb13),ag,rfl⟩
 intro us
 refine M ?_
 refine WL.grp 4 [19,20,21] 22 (boo (((!r3.2)||(r3.1.fType==[42]))||(r3.1.fSub==[42]))) ?_ ?_
 ·rcases boolE ((!r3.2)||(r3.1.fType==[42])) with hb15 | hb15
  ·refine Gn hb15<|Gn hb15<|Gn hb15<|Pt hb15 ?_
   exact We ⟨(orT hb15),ag,rfl⟩
  refine Gy hb15<|Fb<|Gy hb15 ?_
  refine Lo 0 S<|Gy hb15<|Na<|Pf hb15 ?_
  exact We ⟨(orF hb15),ag,rfl⟩
 intro us
 refine We ?_
 rcases condE h with ⟨hc17,h⟩ | ⟨hc17,h⟩
 ·refine CT hc17<|Ws<|Wg ?_
  refine WL.w (R.build [] [(str []),(str []),(.slice none 0 0)] bp158 zC7 rfl rfl) ?_
  refine W.store (i:=1) [(str []),(str []),(.slice none 0 0)] S rfl rfl rfl zAw rfl (AllOne.all (l:=[(str []),(str []),(.slice none 0 0)]) (.cons rfl (.cons rfl (.cons rfl .nil)))) (Nat.le_of_ble_eq_true rfl) rfl ?_
  intro w18 S
  refine A<|We ?_
  obtain rfl:=oi h
  refine WP.ret (Out.two rfl S (Res.cellB (i:=1) (cs:=[(str []),(str []),(.slice none 0 0)]) S rfl rfl zAw rfl rfl) rfl ?_)
  exact ⟨_,rfl,Sl.nil⟩
 refine CF hc17<|Wk<|Ws<|Wg ?_
 refine WL.w (R.loadBN (i:=0) (vs:=[(str r3.1.fType),(str r3.1.fSub),u8]) S rfl rfl zAw rfl rfl) ?_
 refine W.store (i:=1) [(str r3.1.fType),(str r3.1.fSub),u8] S rfl rfl rfl zAw rfl (AllOne.all (l:=[(str r3.1.fType),(str r3.1.fSub),u8]) (.cons rfl (.cons rfl (.cons (Sl.oneC R9) .nil)))) (Nat.le_of_ble_eq_true rfl) rfl ?_
 intro w19 S
 refine A<|We ?_
 obtain rfl:=oi h
 refine WP.ret (Out.two rfl S (Res.cellB (i:=1) (cs:=[(str r3.1.fType),(str r3.1.fSub),u8]) S rfl rfl zAw rfl rfl) rfl ?_)
 exact ⟨_,rfl,R9⟩
theorem zEf {w0:World} {H0:Hp} (hw:Holds w0 H0) (p_s:Str) {r:(List Str)} (h:zC6 p_s=some r) :
  Con Tryz.prog 193 [(str p_s)] w0 H0 (fun H' v=>Sl (α:=Str) H' v r):=by
 refine Con.mk (N:=23) Tryz.func193 rfl rfl kr rfl ?_
 have S:=St.start hw
 refine Ws<|Wg<|A<|We<|Ws<|Wg<|A<|We ?_
 have S:=S.addNil 9 1
 refine B h fun r11 hr12 h=>WP.cut (fun _ _=>False) ?_ (fun _ _ h=>h.elim)
 refine Wb ?_
 refine WP.loopM (zBJ) (fun s f w=>match s with | (s_2,out_4)=>∃ (H1:Hp) (v5:Value),f 0=(str s_2)∧f 3=v5∧Sl (α:=Str) H1 v5 out_4∧St w0 H0 w H1 [.row v5 9 1 out_4.length]) (p_s,([]:List Str)) r11 hr12 ?_ ?_
 ·exact ⟨H0,.slice none 0 0,rfl,rfl,Sl.nil,S⟩
 intro s f w hI y8 hy9 hy10
 obtain ⟨s_2,out_4⟩:=s
 obtain ⟨H1,v5,h3,h7,R6,S⟩:=hI
 refine Wb<|Ws<|Wg<|M' h3<|B hy9 fun r13 hr13 hy9=>W.call S rfl (zFj S.holds s_2 45 0 hr13) ?_
 rintro v14 w15 H16 hle17 S rfl
 have R6:=Sl.mono R6 hle17
 refine A<|We<|Ws<|Ws<|Wg<|M<|La<|We ?_
 rcases condE hy9 with ⟨hc18,hy9⟩ | ⟨hc18,hy9⟩
 ·refine CT hc18<|Ws<|Wg<|M' h7<|M' h3<|W.bslice (α:=Str) [(str s_2)] ([s_2]:List Str) S el34 rfl rfl rfl (by decide) (Go.Eng.encS ⟨rfl,rfl⟩ enc0) ?_
  intro u19 w20 H21 hle22 R23 S
  have R6:=Sl.mono R6 hle22
  refine B hy9 fun l24 hl24 hy9=>W.app (α:=Str) (i:=1) S el34 rfl rfl rfl R6 R23 hl24 ?_
  intro v25 w26 H27 hle28 R29 S
  have R6:=Sl.mono R6 hle28
  refine A<|We ?_
  obtain rfl:=oi hy9
  obtain rfl:=hy10
  obtain rfl:=oi h
  refine WP.ret (Out.one rfl S rfl ?_)
  exact R29
 refine CF hc18<|Wk<|WP.draw kr 12 rfl (bm 12 0) rfl ?_
 have S:=S.drew
 refine WA.take (i:=0) (bm 12 1) rfl kr kr kr rfl (fun _=>(R.mv (v:=v5) h7)) ?_
 refine WA.take (i:=1) (bm 12 3) rfl kr kr kr rfl (fun _=>(R.mv (v:=str s_2) h3)) ?_
 refine WA.take (i:=2) (bm 12 7) rfl kr kr kr rfl (fun _=>(R.mv (v:=int r13) rfl))<|B hy9 fun s30 hs30 hy9=>?_
 refine WA.take (i:=3) (bm 12 15) rfl kr kr kr rfl (fun _=>(R.subShi rfl rfl Tryz.underlying9 hs30)) ?_
 refine WA.take (i:=6) (bm 12 79) rfl kr kr kr rfl (fun _=>(R.mv (v:=str s_2) h3)) ?_
 refine WA.take (i:=7) (bm 12 207) rfl kr kr kr rfl (fun _=>(R.mv (v:=int r13) rfl)) ?_
 refine WA.take (i:=8) (bm 12 463) rfl kr kr kr rfl (fun _=>(R.add rfl rfl))<|B hy9 fun s31 hs31 hy9=>?_
 refine WA.take (i:=9) (bm 12 975) rfl kr kr kr rfl (fun _=>(R.subSlo rfl rfl Tryz.underlying9 hs31))<|WA.one (i:=4) (bm 12 991) rfl kr rfl<|W.bslice (α:=Str) [(str s30)] ([s30]:List Str) S el34 rfl rfl rfl (by decide) (Go.Eng.encS ⟨rfl,rfl⟩ enc0) ?_
 intro u32 w33 H34 hle35 R36 S
 have R6:=Sl.mono R6 hle35
 refine We<|WA.one (i:=5) (bm 12 1023) rfl kr rfl<|B hy9 fun l37 hl37 hy9=>W.app (α:=Str) (i:=1) S el34 rfl rfl rfl R6 R36 hl37 ?_
 intro v38 w39 H40 hle41 R42 S
 refine We ?_
 refine WA.take (i:=10) (bm 12 2047) rfl kr kr kr rfl (fun _=>(R.as (v:=v38) rfl)) ?_
 refine WA.take (i:=11) (bm 12 4095) rfl kr kr kr rfl (fun _=>(R.as (v:=str s31) rfl))<|WA.done kr ?_
 obtain rfl:=oi hy9
 exact ⟨rfl,⟨H40,v38,rfl,rfl,R42,(S.drop _ (.cons _ (.cons_cons _ .slnil)))⟩⟩
theorem zHQ {w0:World} {H0:Hp} (hw:Holds w0 H0) (p_c:UInt8) {r:Bool} (h:zEB p_c=some r) :
  Con Tryz.prog 194 [(byt p_c)] w0 H0 (fun H' v=>v=(boo r)):=by
 refine Con.mk (N:=9) Tryz.func194 rfl rfl kr rfl ?_
 have S:=St.start hw
 refine Ws<|Wg<|A<|We<|Ws<|Wg<|M<|Md p_c 48<|M ?_
 refine WL.grp 3 [6,7] 8 (boo ((decide (48≤p_c))&&(decide (p_c≤57)))) ?_ ?_
 ·rcases boolE (decide (48≤p_c)) with hb1 | hb1
  ·refine Gy hb1<|M<|Gy hb1<|Mb p_c 57<|Pt hb1 ?_
   exact We ⟨(andT hb1),ag,rfl⟩
  refine Gn hb1<|Gn hb1<|Pf hb1 ?_
  exact We ⟨(andF hb1),ag,rfl⟩
 intro us
 refine A<|We ?_
 obtain rfl:=oi h
 refine WP.ret (Out.one rfl S rfl ?_)
 exact rfl
theorem zGx {w0:World} {H0:Hp} (hw:Holds w0 H0) (p_ppend:Str) {r:Bool} (h:zF4 p_ppend=some r) :
  Con Tryz.prog 150 [(str p_ppend)] w0 H0 (fun H' v=>v=(boo r)):=by
 refine Con.mk (N:=67) Tryz.func150 rfl rfl kr rfl ?_
 have S:=St.start hw
 refine Ws<|Wg<|A<|We<|Ws<|Wg<|M<|B h fun r1 hr1 h=>W.call S rfl (zEf S.holds p_ppend hr1) ?_
 rintro v2 w3 H4 hle5 S R6
 refine A<|We<|Ws<|Ws<|Wg<|A<|We<|B h fun r15 hr16 h=>WP.cut (fun f w=>match r15 with | .inl _=>∃ (H11:Hp),St w0 H0 w H11 [] | .inr _=>False) ?_ ?_
 ·refine Wb ?_
  refine WP.loopM (zEZ r1) (fun s f w=>match s with | y_9=>∃ (H7:Hp),f 3=v2∧f 4=(int y_9)∧Sl (α:=Str) H7 v2 r1∧St w0 H0 w H7 []) 0 r15 hr16 ?_ ?_
  ·exact ⟨H4,rfl,rfl,R6,S⟩
  intro y_9 f w hI y12 hy13 hy14
  obtain ⟨H7,h8,h10,R6,S⟩:=hI
  refine Ws<|Ws<|Wg<|M' h10<|M' h8<|Nq R6<|La<|We ?_
  rcases condE hy13 with ⟨hc17,hy13⟩ | ⟨hc17,hy13⟩
  ·refine CT hc17<|Wk<|Ws<|Wb<|Ws<|Ws<|Wg<|M' h8<|M' h10<|B hy13 fun x18 hx18 hy13=>W.idx (α:=Str) R6 rfl rfl el34 hx18 ?_
   rintro a19 _ hA20 rfl
   refine Lq S hA20<|Ns<|La<|M<|B hy13 fun b26 hg22 hy13=>WL.grp 7 [22,23,24,25,26,27] 28 (boo b26) ?_ ?_
   ·rcases boolE (decide ((x18.length:Int)<1)) with hb21 | hb21
    ·replace hg22:=condT hg22 hb21
     refine Gn hb21<|Gn hb21<|Gn hb21<|Gn hb21<|Gn hb21<|Gn hb21<|Pt hb21 ?_
     exact We ⟨(congrArg boo (oi hg22)),ag,rfl⟩
    replace hg22:=condF hg22 hb21
    refine Gy hb21<|M' h8<|Gy hb21<|M' h10<|Gy hb21<|B hg22 fun x23 hx23 hg22=>W.idx (α:=Str) R6 rfl rfl el34 hx23 ?_
    rintro a24 _ hA25 rfl
    refine Gy hb21 ?_
    refine Lq S hA25<|Gy hb21<|Ns<|Gy hb21<|Lc<|Pf hb21 ?_
    exact We ⟨(congrArg boo (oi hg22)),ag,rfl⟩
   intro us
   refine We ?_
   rcases condE hy13 with ⟨hc27,hy13⟩ | ⟨hc27,hy13⟩
   ·refine CT hc27<|Ws<|Wg<|A<|We ?_
    obtain rfl:=oi hy13
    obtain rfl:=hy14
    obtain rfl:=oi h
    refine WP.ret (Out.one rfl S rfl ?_)
    exact rfl
   refine CF hc27<|Wk<|Ws<|Wg<|A<|We<|B hy13 fun r39 hr40 hy13=>WP.cut (fun f w=>match r39 with | .inl _=>∃ (H33:Hp),f 3=v2∧f 4=(int y_9)∧Sl (α:=Str) H33 v2 r1∧St w0 H0 w H33 [] | .inr _=>False) ?_ ?_
   ·refine Wb ?_
    refine WP.loopM (zEU r1 y_9) (fun s f w=>match s with | y_31=>∃ (H28:Hp),f 3=v2∧f 4=(int y_9)∧f 5=(int y_31)∧Sl (α:=Str) H28 v2 r1∧St w0 H0 w H28 []) 0 r39 hr40 ?_ ?_
    ·exact ⟨H7,h8,h10,rfl,R6,S⟩
    intro y_31 f w hI y36 hy37 hy38
    obtain ⟨H28,h29,h30,h32,R6,S⟩:=hI
    refine Ws<|Ws<|Wg<|M' h32<|M' h29<|M' h30<|B hy37 fun x41 hx41 hy37=>W.idx (α:=Str) R6 rfl rfl el34 hx41 ?_
    rintro a42 _ hA43 rfl
    refine Lq S hA43<|Ns<|La<|We ?_
    rcases condE hy37 with ⟨hc44,hy37⟩ | ⟨hc44,hy37⟩
    ·refine CT hc44<|Wk<|Ws<|Wb<|Ws<|Wg<|M' h29<|M' h30<|B hy37 fun x45 hx45 hy37=>W.idx (α:=Str) R6 rfl rfl el34 hx45 ?_
     rintro a46 _ hA47 rfl
     refine Lq S hA47<|M' h32<|B hy37 fun c48 hc48 hy37=>Ja hc48<|A<|We<|Ws<|Wg<|M<|Md c48 97<|M ?_
     refine WL.grp 3 [47,48] 49 (boo ((decide (97≤c48))&&(decide (c48≤122)))) ?_ ?_
     ·rcases boolE (decide (97≤c48)) with hb49 | hb49
      ·refine Gy hb49<|M<|Gy hb49<|Mb c48 122<|Pt hb49 ?_
       exact We ⟨(andT hb49),ag,rfl⟩
      refine Gn hb49<|Gn hb49<|Pf hb49 ?_
      exact We ⟨(andF hb49),ag,rfl⟩
     intro us
     refine M ?_
     refine WL.grp 7 [51,52,53,54,55,56] 57 (boo (((decide (97≤c48))&&(decide (c48≤122)))||((decide (65≤c48))&&(decide (c48≤90))))) ?_ ?_
     ·rcases boolE ((decide (97≤c48))&&(decide (c48≤122))) with hb51 | hb51
      ·refine Gn hb51<|Gn hb51<|Gn hb51<|WL.gund rfl rfl<|WL.gund rfl rfl<|Gn hb51<|Pt hb51 ?_
       exact We ⟨(orT hb51),ag,rfl⟩
      refine Gy hb51<|M<|Gy hb51<|Md c48 65<|Gy hb51<|M ?_
      refine WL.grp 3 [54,55] 56 (boo ((decide (65≤c48))&&(decide (c48≤90)))) ?_ ?_
      ·rcases boolE (decide (65≤c48)) with hb53 | hb53
       ·refine Gy hb53<|M<|Gy hb53<|Mb c48 90<|Gy hb51<|Pt hb53 ?_
        exact We ⟨(andT hb53),ag,rfl⟩
       refine Gn hb53<|Gn hb53<|Gy hb51<|Pf hb53 ?_
       exact We ⟨(andF hb53),ag,rfl⟩
      intro us
      refine Pf hb51 ?_
      exact We ⟨(orF hb51),ag,rfl⟩
     intro us
     refine M<|B hy37 fun b68 hg56 hy37=>WL.grpw 7 [59,60,61,62,63,64] 65 (boo b68) (fun w=>∃ H':Hp,H28.le H'∧St w0 H0 w H' []) ?_ ?_
     ·rcases boolE (((decide (97≤c48))&&(decide (c48≤122)))||((decide (65≤c48))&&(decide (c48≤90)))) with hb55 | hb55
      ·replace hg56:=condT hg56 hb55
       refine Gn hb55<|Gn hb55<|Gn hb55<|WL.gund rfl rfl<|WL.gund rfl rfl<|Gn hb55<|Pt hb55 ?_
       exact We ⟨(congrArg boo (oi hg56)),ag,⟨H28,(Hp.le.refl _),S⟩⟩
      replace hg56:=condF hg56 hb55
      refine Gy hb55<|M' h30<|Gy hb55<|Lc<|Gy hb55<|M<|B hg56 fun b64 hg58 hg56=>WL.grpw 3 [62,63] 64 (boo b64) (fun w=>∃ H':Hp,H28.le H'∧St w0 H0 w H' []) ?_ ?_
      ·rcases boolE (decide (0<y_9)) with hb57 | hb57
       ·replace hg58:=condT hg58 hb57
        refine Gy hb57<|M<|Gy hb57<|B hg58 fun r59 hr59 hg58=>W.call S rfl (zHQ S.holds c48 hr59) ?_
        rintro v60 w61 H62 hle63 S rfl
        have R6:=Sl.mono R6 hle63
        refine Gy hb55<|Pt hb57 ?_
        exact We ⟨(congrArg boo (oi hg58)),ag,⟨H62,hle63,S⟩⟩
       replace hg58:=condF hg58 hb57
       refine Gn hb57<|Gn hb57<|Gy hb55<|Pf hb57 ?_
       exact We ⟨(congrArg boo (oi hg58)),ag,⟨H28,(Hp.le.refl _),S⟩⟩
      intro us w66 ⟨H65,hle67,S⟩
      have R6:=Sl.mono R6 hle67
      refine Pf hb55 ?_
      exact We ⟨(congrArg boo (oi hg56)),ag,⟨H65,hle67,S⟩⟩
     intro us w70 ⟨H69,hle71,S⟩
     have R6:=Sl.mono R6 hle71
     refine No<|We ?_
     rcases condE hy37 with ⟨hc72,hy37⟩ | ⟨hc72,hy37⟩
     ·refine CT hc72<|Ws<|Wg<|A<|We ?_
      obtain rfl:=oi hy37
      obtain rfl:=hy38
      obtain rfl:=oi hy13
      obtain rfl:=hy14
      obtain rfl:=oi h
      refine WP.ret (Out.one rfl S rfl ?_)
      exact rfl
     refine CF hc72<|Wk<|Wg<|M' h32<|Lg<|A<|We ?_
     obtain rfl:=oi hy37
     exact ⟨rfl,⟨H69,h29,h30,rfl,R6,S⟩⟩
    refine CF hc44<|Wx ?_
    obtain rfl:=oi hy37
    obtain rfl:=hy38
    exact ⟨H28,h29,h30,R6,S⟩
   intro f w hM
   rcases r39 with _ | e
   ·obtain ⟨H33,h34,h35,R6,S⟩:=hM
    refine Wg<|M' h35<|Lg<|A<|We ?_
    obtain rfl:=oi hy13
    exact ⟨rfl,⟨H33,h34,rfl,R6,S⟩⟩
   exact hM.elim
  refine CF hc17<|Wx ?_
  obtain rfl:=oi hy13
  obtain rfl:=hy14
  exact ⟨H7,S⟩
 intro f w hM
 rcases r15 with _ | e
 ·obtain ⟨H11,S⟩:=hM
  refine Ws<|Wg<|A<|We ?_
  obtain rfl:=oi h
  refine WP.ret (Out.one rfl S rfl ?_)
  exact rfl
 exact hM.elim
theorem zKa {w0:World} {H0:Hp} (hw:Holds w0 H0) (p_s:Str) {r:Bool} (h:zHA p_s=some r) :
  Con Tryz.prog 151 [(str p_s)] w0 H0 (fun H' v=>v=(boo r)):=by
 refine Con.mk (N:=15) Tryz.func151 rfl rfl kr rfl ?_
 have S:=St.start hw
 refine Ws<|Wg<|A<|We<|Ws<|Ws<|Wg<|A<|We<|B h fun r9 hr10 h=>WP.cut (fun f w=>match r9 with | .inl _=>∃ (H5:Hp),St w0 H0 w H5 [] | .inr _=>False) ?_ ?_
 ·refine Wb ?_
  refine WP.loopM (zDi p_s) (fun s f w=>match s with | i_3=>∃ (H1:Hp),f 0=(str p_s)∧f 3=(int i_3)∧St w0 H0 w H1 []) 0 r9 hr10 ?_ ?_
  ·exact ⟨H0,rfl,rfl,S⟩
  intro i_3 f w hI y6 hy7 hy8
  obtain ⟨H1,h2,h4,S⟩:=hI
  refine Ws<|Ws<|Wg<|M' h4<|M' h2<|Ns<|La<|We ?_
  rcases condE hy7 with ⟨hc11,hy7⟩ | ⟨hc11,hy7⟩
  ·refine CT hc11<|Wk<|Ws<|Wb<|Ws<|Wg<|M' h2<|M' h4<|B hy7 fun c12 hc12 hy7=>Ja hc12<|B hy7 fun r13 hr13 hy7=>W.call S rfl (zF2 S.holds c12 hr13) ?_
   rintro v14 w15 H16 hle17 S rfl
   refine No<|We ?_
   rcases condE hy7 with ⟨hc18,hy7⟩ | ⟨hc18,hy7⟩
   ·refine CT hc18<|Ws<|Wg<|A<|We ?_
    obtain rfl:=oi hy7
    obtain rfl:=hy8
    obtain rfl:=oi h
    refine WP.ret (Out.one rfl S rfl ?_)
    exact rfl
   refine CF hc18<|Wk<|Wg<|M' h4<|Lg<|A<|We ?_
   obtain rfl:=oi hy7
   exact ⟨rfl,⟨H16,h2,rfl,S⟩⟩
  refine CF hc11<|Wx ?_
  obtain rfl:=oi hy7
  obtain rfl:=hy8
  exact ⟨H1,S⟩
 intro f w hM
 rcases r9 with _ | e
 ·obtain ⟨H5,S⟩:=hM
  refine Ws<|Wg<|A<|We ?_
  obtain rfl:=oi h
  refine WP.ret (Out.one rfl S rfl ?_)
  exact rfl
 exact hM.elim
theorem zJp {w0:World} {H0:Hp} (hw:Holds w0 H0) (p_ppend:Str) (p_x1:Str) {r:Bool} (h:zGO p_ppend p_x1=some r) :
  Con Tryz.prog 124 [(str p_ppend),(str p_x1)] w0 H0 (fun H' v=>v=(boo r)):=by
 refine Con.mk (N:=88) Tryz.func124 rfl rfl kr rfl ?_
 have S:=St.start hw
 refine Ws<|Wg<|A<|We<|Ws<|Ws<|Wg<|M<|B h fun r1 hr1 h=>W.call S rfl (zEx S.holds p_ppend hr1) ?_
 rintro v2 w3 H4 hle5 S rfl
 refine We<|B h fun j9 hj8 h=>WP.cut (fun f w=>match j9 with | .inl _=>∃ (H6:Hp),f 1=(str p_x1)∧St w0 H0 w H6 [] | .inr _=>False) ?_ ?_
 ·refine Wb<|Ws<|Wg<|Le<|A<|We ?_
  rcases condE hj8 with ⟨hc10,hj8⟩ | ⟨hc10,hj8⟩
  ·refine CT hc10<|Ws<|Wg<|M<|B hj8 fun r11 hr11 hj8=>W.call S rfl (zFR S.holds p_x1 hr11) ?_
   rintro v12 w13 H14 hle15 S ⟨u16,rfl,R17⟩
   refine M ?_
   refine Ex ?_
   refine Ex ?_
   refine W.alloc [(str []),(str []),(.slice none 0 0)] S zC7 ?_
   intro b18 w19 S
   refine W.store (i:=0) [(str r11.1.fType),(str r11.1.fSub),u16] S rfl rfl rfl zAw rfl (AllOne.all (l:=[(str r11.1.fType),(str r11.1.fSub),u16]) (.cons rfl (.cons rfl (.cons (Sl.oneC R17) .nil)))) (Nat.le_of_ble_eq_true rfl) rfl ?_
   intro w20 S
   refine A<|We<|Ws<|Ws<|Wg<|A<|We<|B hj8 fun y_28 hr34 hj8=>WP.cut (fun f w=>∃ (H27:Hp),f 6=(boo y_28)∧St w0 H0 w H27 []) ?_ ?_
   ·refine Wb ?_
    refine WP.loopM (zCP r11) (fun s f w=>match s with | (y_23,y_25)=>∃ (H21:Hp),f 5=(ptr b18 0)∧f 6=(boo y_23)∧f 7=(int y_25)∧Sl (α:=GParam) H21 u16 r11.1.fParams∧St w0 H0 w H21 [.box b18 158 [(str r11.1.fType),(str r11.1.fSub),u16]]) (r11.2,0) y_28 hr34 ?_ ?_
    ·exact ⟨H14,rfl,rfl,rfl,R17,S⟩
    intro s f w hI y30 hy31 hy32
    obtain ⟨y_23,y_25⟩:=s
    obtain ⟨H21,h22,h24,h26,R17,S⟩:=hI
    refine Ws<|Ws<|Wg<|M' h26<|Fb' h22 ?_
    refine Lo 0 S<|Nq R17<|La<|We ?_
    rcases condE hy31 with ⟨hc35,hy31⟩ | ⟨hc35,hy31⟩
    ·refine CT hc35<|Wk<|Ws<|Wb<|Ws<|Ws<|Wg<|A<|We<|B hy31 fun y_45 hr52 hy31=>WP.cut (fun f w=>∃ (H43:Hp),f 5=(ptr b18 0)∧f 6=(boo y_45)∧f 7=(int y_25)∧Sl (α:=GParam) H43 u16 r11.1.fParams∧St w0 H0 w H43 [.box b18 158 [(str r11.1.fType),(str r11.1.fSub),u16]]) ?_ ?_
     ·refine Wb ?_
      refine WP.loopM (zBu r11 y_25) (fun s f w=>match s with | (y_38,y_41)=>∃ (H36:Hp),f 5=(ptr b18 0)∧f 6=(boo y_38)∧f 7=(int y_25)∧f 8=(int y_41)∧Sl (α:=GParam) H36 u16 r11.1.fParams∧St w0 H0 w H36 [.box b18 158 [(str r11.1.fType),(str r11.1.fSub),u16]]) (y_23,0) y_45 hr52 ?_ ?_
      ·exact ⟨H21,h22,h24,h26,rfl,R17,S⟩
      intro s f w hI y48 hy49 hy50
      obtain ⟨y_38,y_41⟩:=s
      obtain ⟨H36,h37,h39,h40,h42,R17,S⟩:=hI
      refine Ws<|Ws<|Wg<|M' h42<|M' h40<|La<|We ?_
      rcases condE hy49 with ⟨hc53,hy49⟩ | ⟨hc53,hy49⟩
      ·refine CT hc53<|Wk<|Ws<|Wb<|WP.quiet S kr kr<|QM' h39<|QM<|B hy49 fun b67 hg58 hy49=>WQ.grp 14 [32,33,34,35,36,37,38,39,40,41,42,43,44] 45 (boo b67) ?_ ?_
       ·rcases boolE y_38 with hb57 | hb57
        ·replace hg58:=condT hg58 hb57
         refine QGy hb57<|QFb' h37<|QGy hb57 ?_
         refine WQ.val (fun w hw=>by obtain ⟨_,hq,S⟩:=hw; exact (R.loadB (i:=0) (v:=u16) S rfl rfl zGh rfl))<|QGy hb57<|QM' h40<|QGy hb57<|B hg58 fun x59 hx59 hg58=>WQ.idx (α:=GParam) R17 rfl rfl el156 hx59 ?_
         rintro a60 _ hA61 rfl
         refine QGy hb57<|QFc ?_
         have hA62:=At.add hA61 0 (by simp)
         refine QGy hb57 ?_
         refine WQ.val (fun w hw=>by obtain ⟨_,hq,S⟩:=hw; exact (R.loadH (v:=str x59.fName) S rfl (At.mono hA62 hq (by simp)) lay9 rfl))<|QGy hb57<|QFb' h37<|QGy hb57 ?_
         refine WQ.val (fun w hw=>by obtain ⟨_,hq,S⟩:=hw; exact (R.loadB (i:=0) (v:=u16) S rfl rfl zGh rfl))<|QGy hb57<|QM' h42<|QGy hb57<|B hg58 fun x63 hx63 hg58=>WQ.idx (α:=GParam) R17 rfl rfl el156 hx63 ?_
         rintro a64 _ hA65 rfl
         refine QGy hb57<|QFc ?_
         have hA66:=At.add hA65 0 (by simp)
         refine QGy hb57 ?_
         refine WQ.val (fun w hw=>by obtain ⟨_,hq,S⟩:=hw; exact (R.loadH (v:=str x63.fName) S rfl (At.mono hA66 hq (by simp)) lay9 rfl))<|QGy hb57<|QNb<|QPt hb57 ?_
         exact WQ.nil ⟨(congrArg boo (oi hg58)),ag⟩
        replace hg58:=condF hg58 hb57
        refine QGn hb57<|QGn hb57<|QGn hb57<|QGn hb57<|QGn hb57<|QGn hb57<|QGn hb57<|QGn hb57<|QGn hb57<|QGn hb57<|QGn hb57<|QGn hb57 ?_
        refine QGn hb57<|QPf hb57 ?_
        exact WQ.nil ⟨(congrArg boo (oi hg58)),ag⟩
       intro us
       refine QA<|WQ.nil ?_
       intro w54 H55 hle56 S
       have R17:=Sl.mono R17 hle56
       refine Wg<|M' h42<|Lg<|A<|We ?_
       obtain rfl:=oi hy49
       exact ⟨rfl,⟨H55,h37,rfl,h40,rfl,R17,S⟩⟩
      refine CF hc53<|Wx ?_
      obtain rfl:=oi hy49
      obtain rfl:=hy50
      exact ⟨H36,h37,h39,h40,R17,S⟩
     rintro f w ⟨H43,h44,h46,h47,R17,S⟩
     refine Wg<|M' h46<|M<|B hy31 fun b74 hg69 hy31=>WL.grp 8 [48,49,50,51,52,53,54] 55 (boo b74) ?_ ?_
     ·rcases boolE y_45 with hb68 | hb68
      ·replace hg69:=condT hg69 hb68
       refine Gy hb68<|Fb' h44<|Gy hb68 ?_
       refine Lo 0 S<|Gy hb68<|M' h47<|Gy hb68<|B hg69 fun x70 hx70 hg69=>W.idx (α:=GParam) R17 rfl rfl el156 hx70 ?_
       rintro a71 _ hA72 rfl
       refine Gy hb68<|Fc ?_
       have hA73:=At.add hA72 0 (by simp)
       refine Gy hb68 ?_
       refine Lq S hA73<|Gy hb68<|Nb<|Pt hb68 ?_
       exact We ⟨(congrArg boo (oi hg69)),ag,rfl⟩
      replace hg69:=condF hg69 hb68
      refine Gn hb68<|Gn hb68<|Gn hb68<|Gn hb68<|Gn hb68<|Gn hb68<|Gn hb68<|Pf hb68 ?_
      exact We ⟨(congrArg boo (oi hg69)),ag,rfl⟩
     intro us
     refine A<|We<|Wg<|M' h47<|Lg<|A<|We ?_
     obtain rfl:=oi hy31
     exact ⟨rfl,⟨H43,h44,rfl,rfl,R17,S⟩⟩
    refine CF hc35<|Wx ?_
    obtain rfl:=oi hy31
    obtain rfl:=hy32
    exact ⟨H21,h24,(S.drop _ (.cons _ .slnil))⟩
   rintro f w ⟨H27,h29,S⟩
   refine Ws<|Wg<|M' h29<|A<|We ?_
   obtain rfl:=oi hj8
   obtain rfl:=oi h
   refine WP.ret (Out.one rfl S rfl ?_)
   exact rfl
  refine CF hc10<|Ws<|Wg<|Le<|A<|We ?_
  rcases condE hj8 with ⟨hc75,hj8⟩ | ⟨hc75,hj8⟩
  ·refine CT hc75<|Ws<|Wg<|M<|B hj8 fun r76 hr76 hj8=>W.call S rfl (zGx S.holds p_x1 hr76) ?_
   rintro v77 w78 H79 hle80 S rfl
   refine A<|We ?_
   obtain rfl:=oi hj8
   obtain rfl:=oi h
   refine WP.ret (Out.one rfl S rfl ?_)
   exact rfl
  refine CF hc75<|Ws<|Ws<|Wg<|Le<|A<|We<|B hj8 fun y_83 hj85 hj8=>WP.cut (fun f w=>∃ (H81:Hp),f 1=(str p_x1)∧f 61=(boo y_83)∧St w0 H0 w H81 []) ?_ ?_
  ·rcases condE hj85 with ⟨hc87,hj85⟩ | ⟨hc87,hj85⟩
   ·refine CT hc87<|Wk ?_
    obtain rfl:=oi hj85
    exact ⟨H4,rfl,rfl,S⟩
   refine CF hc87<|Wg<|Le<|A<|We ?_
   obtain rfl:=oi hj85
   exact ⟨H4,rfl,rfl,S⟩
  rintro f w ⟨H81,h82,h84,S⟩
  rcases condE hj8 with ⟨hc88,hj8⟩ | ⟨hc88,hj8⟩
  ·refine WP.condT h84 hc88<|Ws<|Wg<|M' h82<|B hj8 fun r89 hr89 hj8=>W.call S rfl (zAu S.holds p_x1 hr89) ?_
   rintro v90 w91 H92 hle93 S rfl
   refine M ?_
   refine WL.grp 3 [67,68] 69 (boo (r89&&(p_x1 !=[42]))) ?_ ?_
   ·rcases boolE r89 with hb94 | hb94
    ·refine Gy hb94<|M' h82<|Gy hb94<|Nb<|Pt hb94 ?_
     exact We ⟨(andT hb94),ag,rfl⟩
    refine Gn hb94<|Gn hb94<|Pf hb94 ?_
    exact We ⟨(andF hb94),ag,rfl⟩
   intro us
   refine A<|We ?_
   obtain rfl:=oi hj8
   obtain rfl:=oi h
   refine WP.ret (Out.one rfl S rfl ?_)
   exact rfl
  refine WP.condF h84 hc88<|Wk ?_
  obtain rfl:=oi hj8
  exact ⟨H81,h82,S⟩
 intro f w hM
 rcases j9 with _ | e
 ·obtain ⟨H6,h7,S⟩:=hM
  refine Ws<|Wg<|M' h7<|Ns<|Ld<|M ?_
  refine WL.grp 4 [74,75,76] 77 (boo ((decide (1≤(p_x1.length:Int)))&&(decide ((p_x1.length:Int)≤100)))) ?_ ?_
  ·rcases boolE (decide (1≤(p_x1.length:Int))) with hb96 | hb96
   ·refine Gy hb96<|M' h7<|Gy hb96<|Ns<|Gy hb96<|Lb<|Pt hb96 ?_
    exact We ⟨(andT hb96),ag,rfl⟩
   refine Gn hb96<|Gn hb96<|Gn hb96<|Pf hb96 ?_
   exact We ⟨(andF hb96),ag,rfl⟩
  intro us
  refine M<|B h fun b105 hg99 h=>WL.grpw 3 [79,80] 81 (boo b105) (fun w=>∃ H':Hp,H6.le H'∧St w0 H0 w H' []) ?_ ?_
  ·rcases boolE ((decide (1≤(p_x1.length:Int)))&&(decide ((p_x1.length:Int)≤100))) with hb98 | hb98
   ·replace hg99:=condT hg99 hb98
    refine Gy hb98<|M' h7<|Gy hb98<|B hg99 fun r100 hr100 hg99=>W.call S rfl (zKa S.holds p_x1 hr100) ?_
    rintro v101 w102 H103 hle104 S rfl
    refine Pt hb98 ?_
    exact We ⟨(congrArg boo (oi hg99)),ag,⟨H103,hle104,S⟩⟩
   replace hg99:=condF hg99 hb98
   refine Gn hb98<|Gn hb98<|Pf hb98 ?_
   exact We ⟨(congrArg boo (oi hg99)),ag,⟨H6,(Hp.le.refl _),S⟩⟩
  intro us w107 ⟨H106,hle108,S⟩
  refine M<|B h fun b116 hg110 h=>WL.grpw 5 [83,84,85,86] 87 (boo b116) (fun w=>∃ H':Hp,H106.le H'∧St w0 H0 w H' []) ?_ ?_
  ·rcases boolE b105 with hb109 | hb109
   ·replace hg110:=condT hg110 hb109
    refine Gy hb109<|M' h7<|Gy hb109<|B hg110 fun r111 hr111 hg110=>W.call S rfl (zE0 S.holds p_x1 hr111) ?_
    rintro v112 w113 H114 hle115 S rfl
    refine Gy hb109<|M' h7<|Gy hb109<|Na<|Pt hb109 ?_
    exact We ⟨(congrArg boo (oi hg110)),ag,⟨H114,hle115,S⟩⟩
   replace hg110:=condF hg110 hb109
   refine Gn hb109<|Gn hb109<|Gn hb109<|Gn hb109<|Pf hb109 ?_
   exact We ⟨(congrArg boo (oi hg110)),ag,⟨H106,(Hp.le.refl _),S⟩⟩
  intro us w118 ⟨H117,hle119,S⟩
  refine A<|We ?_
  obtain rfl:=oi h
  refine WP.ret (Out.one rfl S rfl ?_)
  exact rfl
 exact hM.elim
theorem zBk {w0:World} {H0:Hp} (hw:Holds w0 H0) (p_kind:Int) (p_s:Str) {r:Str} (h:zAx p_kind p_s=some r) :
  Con Tryz.prog 91 [(int p_kind),(str p_s)] w0 H0 (fun H' v=>v=(str r)):=by
 refine Con.mk (N:=20) Tryz.func91 rfl rfl kr rfl ?_
 have S:=St.start hw
 refine Ws<|Wg<|A<|We<|Ws<|Wg<|M<|B h fun r1 hr1 h=>W.call S rfl (zBU S.holds p_s hr1) ?_
 rintro v2 w3 H4 hle5 S rfl
 refine A<|We<|Ws<|Ws<|Wg<|M<|Le<|M ?_
 refine WL.grp 3 [10,11] 12 (boo ((p_kind==4)&&(r1==[120,45,103,122,105,112]))) ?_ ?_
 ·rcases boolE (p_kind==4) with hb6 | hb6
  ·refine Gy hb6<|M<|Gy hb6<|Na<|Pt hb6 ?_
   exact We ⟨(andT hb6),ag,rfl⟩
  refine Gn hb6<|Gn hb6<|Pf hb6 ?_
  exact We ⟨(andF hb6),ag,rfl⟩
 intro us
 refine We ?_
 rcases condE h with ⟨hc8,h⟩ | ⟨hc8,h⟩
 ·refine CT hc8<|Ws<|Wg<|A<|We ?_
  obtain rfl:=oi h
  refine WP.ret (Out.one rfl S rfl ?_)
  exact rfl
 refine CF hc8<|Wk<|Ws<|Ws<|Wg<|M<|Le<|M ?_
 refine WL.grp 3 [16,17] 18 (boo ((p_kind==4)&&(r1==[120,45,99,111,109,112,114,101,115,115]))) ?_ ?_
 ·rcases boolE (p_kind==4) with hb9 | hb9
  ·refine Gy hb9<|M<|Gy hb9<|Na<|Pt hb9 ?_
   exact We ⟨(andT hb9),ag,rfl⟩
  refine Gn hb9<|Gn hb9<|Pf hb9 ?_
  exact We ⟨(andF hb9),ag,rfl⟩
 intro us
 refine We ?_
 rcases condE h with ⟨hc11,h⟩ | ⟨hc11,h⟩
 ·refine CT hc11<|Ws<|Wg<|A<|We ?_
  obtain rfl:=oi h
  refine WP.ret (Out.one rfl S rfl ?_)
  exact rfl
 refine CF hc11<|Wk<|Ws<|Wg<|M<|A<|We ?_
 obtain rfl:=oi h
 refine WP.ret (Out.one rfl S rfl ?_)
 exact rfl
theorem zH9 {w0:World} {H0:Hp} (hw:Holds w0 H0) (p_axis:Str) (p_a:Str) (p_b:Str) {r:Bool} (h:zFw p_axis p_a p_b=some r) :
  Con Tryz.prog 56 [(str p_axis),(str p_a),(str p_b)] w0 H0 (fun H' v=>v=(boo r)):=by
 refine Con.mk (N:=30) Tryz.func56 rfl rfl kr rfl ?_
 have S:=St.start hw
 refine Ws<|Wg<|A<|We<|Ws<|Ws<|Wg<|M<|B h fun r1 hr1 h=>W.call S rfl (zEx S.holds p_axis hr1) ?_
 rintro v2 w3 H4 hle5 S rfl
 refine A<|We<|Ws<|Wg<|M<|We<|B h fun j10 hj9 h=>WP.cut (fun f w=>match j10 with | .inl _=>∃ (H6:Hp),f 1=(str p_a)∧f 2=(str p_b)∧St w0 H0 w H6 [] | .inr _=>False) ?_ ?_
 ·refine Wb<|Ws<|Ws<|Wg<|Le<|A<|We<|B hj9 fun y_16 hj18 hj9=>WP.cut (fun f w=>∃ (H11:Hp),f 1=(str p_a)∧f 2=(str p_b)∧f 7=(int r1)∧f 10=(int r1)∧f 11=(boo y_16)∧St w0 H0 w H11 []) ?_ ?_
  ·rcases condE hj18 with ⟨hc20,hj18⟩ | ⟨hc20,hj18⟩
   ·refine CT hc20<|Wk ?_
    obtain rfl:=oi hj18
    exact ⟨H4,rfl,rfl,rfl,rfl,rfl,S⟩
   refine CF hc20<|Wg<|Le<|A<|We ?_
   obtain rfl:=oi hj18
   exact ⟨H4,rfl,rfl,rfl,rfl,rfl,S⟩
  rintro f w ⟨H11,h12,h13,h14,h15,h17,S⟩
  rcases condE hj9 with ⟨hc21,hj9⟩ | ⟨hc21,hj9⟩
  ·refine WP.condT h17 hc21<|Ws<|Wg<|M' h12<|M' h13<|B hj9 fun r22 hr22 hj9=>W.call S rfl (zBS S.holds p_a p_b hr22) ?_
   rintro v23 w24 H25 hle26 S rfl
   refine A<|We ?_
   obtain rfl:=oi hj9
   obtain rfl:=oi h
   refine WP.ret (Out.one rfl S rfl ?_)
   exact rfl
  refine WP.condF h17 hc21<|Ws<|Ws<|Wg<|Le' h15 rfl<|A<|We<|B hj9 fun y_31 hj33 hj9=>WP.cut (fun f w=>∃ (H27:Hp),f 1=(str p_a)∧f 2=(str p_b)∧f 7=(int r1)∧f 17=(boo y_31)∧St w0 H0 w H27 []) ?_ ?_
  ·rcases condE hj33 with ⟨hc35,hj33⟩ | ⟨hc35,hj33⟩
   ·refine CT hc35<|Wk ?_
    obtain rfl:=oi hj33
    exact ⟨H11,h12,h13,h14,rfl,S⟩
   refine CF hc35<|Wg<|Le' h15 rfl<|A<|We ?_
   obtain rfl:=oi hj33
   exact ⟨H11,h12,h13,h14,rfl,S⟩
  rintro f w ⟨H27,h28,h29,h30,h32,S⟩
  rcases condE hj9 with ⟨hc36,hj9⟩ | ⟨hc36,hj9⟩
  ·refine WP.condT h32 hc36<|Ws<|Wg<|M' h30<|M' h28<|B hj9 fun r37 hr37 hj9=>W.call S rfl (zBk S.holds r1 p_a hr37) ?_
   rintro v38 w39 H40 hle41 S rfl
   refine M' h30<|M' h29<|B hj9 fun r42 hr42 hj9=>W.call S rfl (zBk S.holds r1 p_b hr42) ?_
   rintro v43 w44 H45 hle46 S rfl
   refine Na<|A<|We ?_
   obtain rfl:=oi hj9
   obtain rfl:=oi h
   refine WP.ret (Out.one rfl S rfl ?_)
   exact rfl
  refine WP.condF h32 hc36<|Wk ?_
  obtain rfl:=oi hj9
  exact ⟨H27,h28,h29,S⟩
 intro f w hM
 rcases j10 with _ | e
 ·obtain ⟨H6,h7,h8,S⟩:=hM
  refine Ws<|Wg<|M' h7<|M' h8<|Na<|A<|We ?_
  obtain rfl:=oi h
  refine WP.ret (Out.one rfl S rfl ?_)
  exact rfl
 exact hM.elim
end Go.Proofs

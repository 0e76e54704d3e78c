/- A part of the proof of laws of the seat: written by program over the translation. -/
import Derived.Test.YtipgfplekgdoiaaGreatDoorEng38
import Derived.Test.YtipgfplekgdoiaaGreatDoorEng32
import Derived.Test.YtipgfplekgdoiaaGreatDoorGenK6
namespace Go.Proofs
set_option maxHeartbeats 4000000
set_option maxRecDepth 10000
open Go.Eng Go.Eng.Pure
set_option linter.unusedVariables false
theorem zII {w0:World} {H0:Hp} (hw:Holds w0 H0) (p_ppend:(List GAxis)) (p_x1:(List GField)) (p_x2:Bool) (p_x3:Int) {vp_ppend:Value} {vp_x1:Value} (Rp_ppend:Sl (α:=GAxis) H0 vp_ppend p_ppend) (Rp_x1:Sl (α:=GField) H0 vp_x1 p_x1) {r:(List (List Str))} (h:zFi p_ppend p_x1 p_x2 p_x3=some r) :
  Con Tryz.prog 75 [vp_ppend,vp_x1,(boo p_x2),(int p_x3)] w0 H0 (fun H' v=>Sl (α:=(List Str)) H' v r):=by
 refine Con.mk (N:=109) Tryz.func75 rfl rfl kr rfl ?_
 have S:=St.start hw
 refine Ws<|Wg<|A<|We<|Ws<|Ws<|Wg<|M<|B h fun r1 hr1 h=>W.call S rfl (zEG S.holds p_ppend Rp_ppend hr1) ?_
 rintro v2 w3 H4 hle5 S rfl
 have Rp_ppend:=Sl.mono Rp_ppend hle5
 have Rp_x1:=Sl.mono Rp_x1 hle5
 refine No<|We ?_
 rcases condE h with ⟨hc6,h⟩ | ⟨hc6,h⟩
 ·refine CT hc6<|Ws<|Wg<|A<|We ?_
  obtain rfl:=oi h
  refine WP.ret (Out.one rfl S rfl ?_)
  exact Sl.nil
 refine CF hc6<|Wk<|Ws<|Wg<|M<|Nq Rp_ppend<|B h fun l7 hl7 h=>W.makeSlice (α:=(List Str)) (zv:=(.slice none 0 0)) (z:=([]:List Str)) S el33 rfl rfl rfl zer34 ⟨_,rfl,Sl.nil⟩ hl7 ?_
 intro b8 w9 ms10 n11 hL12 R13 S
 refine A<|We<|Ws<|Ws<|Wg<|M<|Nq Rp_ppend<|M<|We<|B h fun r39 hr40 h=>WP.cut (fun f w=>match r39 with | .inl m32=>∃ (H28:Hp) (ms33:List Value),f 0=vp_ppend∧f 3=(int p_x3)∧f 9=(.slice (some ⟨b8,0,none⟩) n11 n11)∧Sl (α:=GAxis) H28 vp_ppend p_ppend∧Ms (α:=(List Str)) H28 ms33 m32∧m32.length=n11∧St w0 H0 w H28 [.box b8 34 ms33] | .inr _=>False) ?_ ?_
 ·refine Wb ?_
  refine WP.loopM (zBY p_ppend p_x1 p_x2) (fun s f w=>match s with | (y_22,m24)=>∃ (H14:Hp) (ms25:List Value),f 0=vp_ppend∧f 1=vp_x1∧f 2=(boo p_x2)∧f 3=(int p_x3)∧f 9=(.slice (some ⟨b8,0,none⟩) n11 n11)∧f 24=vp_ppend∧f 25=(int (p_ppend.length:Int))∧f 26=(int y_22)∧Sl (α:=GAxis) H14 vp_ppend p_ppend∧Sl (α:=GField) H14 vp_x1 p_x1∧Ms (α:=(List Str)) H14 ms25 m24∧m24.length=n11∧St w0 H0 w H14 [.box b8 34 ms25]) (0,l7) r39 hr40 ?_ ?_
  ·exact ⟨H4,ms10,rfl,rfl,rfl,rfl,rfl,rfl,rfl,rfl,Rp_ppend,Rp_x1,R13,hL12,S⟩
  intro s f w hI y36 hy37 hy38
  obtain ⟨y_22,m24⟩:=s
  obtain ⟨H14,ms25,h15,h16,h17,h18,h19,h20,h21,h23,Rp_ppend,Rp_x1,R26,hL27,S⟩:=hI
  refine Ws<|Wg<|La' h23 h21<|We<|Ws ?_
  rcases condE hy37 with ⟨hc41,hy37⟩ | ⟨hc41,hy37⟩
  ·refine CT hc41<|Wk<|Ws<|Wb<|Ws<|Wg<|M' h23<|B hy37 fun x42 hx42 hy37=>W.idx (α:=GAxis) Rp_ppend h20 h23 el22 hx42 ?_
   rintro a43 _ hA44 ⟨v45,rfl,R46⟩
   refine WL.w (R.loadHN (vs:=[(str x42.fName),v45]) S rfl hA44 lay68 rfl rfl) ?_
   refine W.alloc [(str []),(.slice none 0 0)] S zer68 ?_
   intro b47 w48 S
   refine A ?_
   refine W.store (i:=0) [(str x42.fName),v45] S rfl rfl rfl lay68 rfl (AllOne.all (l:=[(str x42.fName),v45]) (.cons rfl (.cons (Sl.oneC R46) .nil))) (Nat.le_of_ble_eq_true rfl) rfl ?_
   intro w49 S
   refine We<|Ws<|Wg<|M' h19<|M ?_
   refine WL.w (R.loadBN (i:=0) (vs:=[(str x42.fName),v45]) S rfl rfl lay68 rfl rfl)<|M' h16<|M' h17<|B hy37 fun r50 hr50 hy37=>W.call S rfl (zHY S.holds x42 p_x1 p_x2 R46 Rp_x1 hr50) ?_
   rintro v51 w52 H53 hle54 S R55
   have Rp_ppend:=Sl.mono Rp_ppend hle54
   have Rp_x1:=Sl.mono Rp_x1 hle54
   have R26:=Ms.mono R26 hle54
   refine B hy37 fun x56 hx56 hy37=>?_
   refine WL.w (R.idxM (α:=(List Str)) (xs:=m24) rfl hL27 rfl el33 hx56)<|B hy37 fun l57 hl57 hy37=>?_
   refine W.storeM (α:=(List Str)) (i:=1) (m:=y_22) S R26 rfl rfl rfl lay34 (by obtain ⟨_,_,e9,_⟩:=R55; rw [e9]; rfl) ⟨_,rfl,R55⟩ hl57 ?_
   intro w58 ms59 R60 S
   have hL61:=(zGM hl57).1.trans hL27
   refine We<|Ws<|Wg<|M' h19<|M<|B hy37 fun x62 hx62 hy37=>?_
   refine WL.w (R.idxM (α:=(List Str)) (xs:=l57) rfl hL61 rfl el33 hx62) ?_
   obtain ⟨_,_,v63,hv64,hc65⟩:=Ms.get R60 hx62
   obtain ⟨u66,e67,R68⟩:=hc65
   replace e67:=(List.cons.inj e67).1
   subst e67
   refine WL.w (R.loadB (i:=1) S rfl rfl lay34 hv64)<|Nq R68<|Le<|We ?_
   rcases condE hy37 with ⟨hc69,hy37⟩ | ⟨hc69,hy37⟩
   ·refine CT hc69<|Ws<|Wg<|A<|We ?_
    obtain rfl:=oi hy37
    obtain rfl:=hy38
    obtain rfl:=oi h
    refine WP.ret (Out.one rfl S rfl ?_)
    exact Sl.nil
   refine CF hc69<|Wk<|Wg<|Lg' h23 rfl<|M<|We ?_
   obtain rfl:=oi hy37
   exact ⟨rfl,⟨H53,ms59,h15,h16,h17,h18,h19,h20,h21,rfl,Rp_ppend,Rp_x1,R60,hL61,(S.drop _ (.cons _ (.cons_cons _ .slnil)))⟩⟩
  refine CF hc41<|Wx ?_
  obtain rfl:=oi hy37
  obtain rfl:=hy38
  exact ⟨H14,ms25,h15,h18,h19,Rp_ppend,R26,hL27,S⟩
 intro f w hM
 rcases r39 with m32 | e
 ·obtain ⟨H28,ms33,h29,h30,h31,Rp_ppend,R34,hL35,S⟩:=hM
  refine Ws<|Wg<|A<|We<|Ws<|Wg<|M' h29<|Nq Rp_ppend<|B h fun l70 hl70 h=>W.makeSlice (α:=Int) (zv:=(int 0)) (z:=0) S el118 rfl rfl rfl zer3 rfl hl70 ?_
  intro b71 w72 ms73 n74 hL75 R76 S
  refine A<|We<|Ws ?_
  have S:=S.addNil 34 1
  refine B h fun y_91 hr99 h=>WP.cut (fun f w=>∃ (H90:Hp) (v92:Value),f 12=v92∧Sl (α:=(List Str)) H90 v92 y_91∧St w0 H0 w H90 [.row v92 34 1 y_91.length]) ?_ ?_
  ·refine Wb ?_
   refine WP.loopM (zA8 p_ppend p_x3 m32) (fun s f w=>match s with | (y_81,m86)=>∃ (H77:Hp) (v82:Value) (ms87:List Value),f 0=vp_ppend∧f 3=(int p_x3)∧f 9=(.slice (some ⟨b8,0,none⟩) n11 n11)∧f 12=v82∧f 13=(.slice (some ⟨b71,0,none⟩) n74 n74)∧Sl (α:=GAxis) H77 vp_ppend p_ppend∧Sl (α:=(List Str)) H77 v82 y_81∧Ms (α:=Int) H77 ms87 m86∧Ms (α:=(List Str)) H77 ms33 m32∧m86.length=n74∧St w0 H0 w H77 [.row v82 34 1 y_81.length,.box b71 3 ms87,.box b8 34 ms33]) (([]:List (List Str)),l70) y_91 hr99 ?_ ?_
   ·exact ⟨H28,.slice none 0 0,ms73,h29,h30,h31,rfl,rfl,Rp_ppend,Sl.nil,R76,R34,hL75,S⟩
   intro s f w hI y95 hy96 hy97
   obtain ⟨y_81,m86⟩:=s
   obtain ⟨H77,v82,ms87,h78,h79,h80,h84,h85,Rp_ppend,R83,R88,R34,hL89,S⟩:=hI
   refine Ws<|Ws<|Wg<|M' h84<|Nq R83<|M' h79<|La<|We ?_
   rcases condE hy96 with ⟨hc100,hy96⟩ | ⟨hc100,hy96⟩
   ·refine CT hc100<|Wk<|Wb<|Ws<|Wg<|M' h78<|Nq Rp_ppend<|B hy96 fun l101 hl101 hy96=>W.makeSlice (α:=Str) (zv:=(str [])) (z:=[]) S el34 rfl rfl rfl zer9 rfl hl101 ?_
    intro b102 w103 ms104 n105 hL106 R107 S
    refine A<|We<|Ws<|Ws<|Wg<|M' h85 ?_
    refine WL.w (v:=int (m86.length:Int)) (R.ofEq (R.lenV rfl Tryz.underlying118) (by rw [hL89]))<|M<|We<|B hy96 fun m130 hr138 hy96=>WP.cut (fun f w=>∃ (H123:Hp) (ms131:List Value),f 0=vp_ppend∧f 3=(int p_x3)∧f 9=(.slice (some ⟨b8,0,none⟩) n11 n11)∧f 12=v82∧f 13=(.slice (some ⟨b71,0,none⟩) n74 n74)∧f 14=(.slice (some ⟨b102,0,none⟩) n105 n105)∧Sl (α:=GAxis) H123 vp_ppend p_ppend∧Sl (α:=(List Str)) H123 v82 y_81∧Ms (α:=Str) H123 ms131 m130∧Ms (α:=Int) H123 ms87 m86∧Ms (α:=(List Str)) H123 ms33 m32∧m130.length=n105∧St w0 H0 w H123 [.box b102 9 ms131,.row v82 34 1 y_81.length,.box b71 3 ms87,.box b8 34 ms33]) ?_ ?_
    ·refine Wb ?_
     refine WP.loopM (zBV m32 m86) (fun s f w=>match s with | (y_117,m119)=>∃ (H108:Hp) (ms120:List Value),f 0=vp_ppend∧f 3=(int p_x3)∧f 9=(.slice (some ⟨b8,0,none⟩) n11 n11)∧f 12=v82∧f 13=(.slice (some ⟨b71,0,none⟩) n74 n74)∧f 14=(.slice (some ⟨b102,0,none⟩) n105 n105)∧f 55=(.slice (some ⟨b71,0,none⟩) n74 n74)∧f 56=(int (m86.length:Int))∧f 57=(int y_117)∧Sl (α:=GAxis) H108 vp_ppend p_ppend∧Sl (α:=(List Str)) H108 v82 y_81∧Ms (α:=Str) H108 ms120 m119∧Ms (α:=Int) H108 ms87 m86∧Ms (α:=(List Str)) H108 ms33 m32∧m119.length=n105∧St w0 H0 w H108 [.box b102 9 ms120,.row v82 34 1 y_81.length,.box b71 3 ms87,.box b8 34 ms33]) (0,l101) m130 hr138 ?_ ?_
     ·exact ⟨H77,ms104,h78,h79,h80,h84,h85,rfl,rfl,rfl,rfl,Rp_ppend,R83,R107,R88,R34,hL106,S⟩
     intro s f w hI y134 hy135 hy136
     obtain ⟨y_117,m119⟩:=s
     obtain ⟨H108,ms120,h109,h110,h111,h112,h113,h114,h115,h116,h118,Rp_ppend,R83,R121,R88,R34,hL122,S⟩:=hI
     refine Ws<|Wg<|La' h118 h116<|We<|Ws ?_
     rcases condE hy135 with ⟨hc139,hy135⟩ | ⟨hc139,hy135⟩
     ·refine CT hc139<|Wk<|Ws<|Wb<|Ws<|Wg<|M' h118<|B hy135 fun x140 hx140 hy135=>?_
      refine WL.w (R.idxM (α:=Int) (xs:=m86) h115 hL89 h118 el118 hx140) ?_
      obtain ⟨_,_,v141,hv142,hc143⟩:=Ms.get R88 hx140
      obtain rfl:=(List.cons.inj (show [v141]=[(int x140)] from hc143)).1
      refine WL.w (R.loadB (i:=2) S rfl rfl lay3 hv142)<|A<|A<|We<|Wg<|M' h114<|M<|M' h111<|M<|B hy135 fun x144 hx144 hy135=>?_
      refine WL.w (R.idxM (α:=(List Str)) (xs:=m32) rfl hL35 rfl el33 hx144) ?_
      obtain ⟨_,_,v145,hv146,hc147⟩:=Ms.get R34 hx144
      obtain ⟨u148,e149,R150⟩:=hc147
      replace e149:=(List.cons.inj e149).1
      subst e149
      refine WL.w (R.loadB (i:=3) S rfl rfl lay34 hv146)<|M<|B hy135 fun x151 hx151 hy135=>W.idx (α:=Str) R150 rfl rfl el34 hx151 ?_
      rintro a152 _ hA153 rfl
      refine Lq S hA153<|B hy135 fun x154 hx154 hy135=>?_
      refine WL.w (R.idxM (α:=Str) (xs:=m119) rfl hL122 rfl el34 hx154)<|B hy135 fun l155 hl155 hy135=>?_
      refine W.storeM (α:=Str) (i:=0) (m:=y_117) S R121 rfl rfl rfl lay9 rfl rfl hl155 ?_
      intro w156 ms157 R158 S
      have hL159:=(zGM hl155).1.trans hL122
      refine We<|Wg<|Lg' h118 rfl<|M<|We ?_
      obtain rfl:=oi hy135
      exact ⟨rfl,⟨H108,ms157,h109,h110,h111,h112,h113,h114,h115,h116,rfl,Rp_ppend,R83,R158,R88,R34,hL159,S⟩⟩
     refine CF hc139<|Wx ?_
     obtain rfl:=oi hy135
     obtain rfl:=hy136
     exact ⟨H108,ms120,h109,h110,h111,h112,h113,h114,Rp_ppend,R83,R121,R88,R34,hL122,S⟩
    rintro f w ⟨H123,ms131,h124,h125,h126,h127,h128,h129,Rp_ppend,R83,R132,R88,R34,hL133,S⟩
    refine Ws<|Wg<|M' h127<|M' h129 ?_
    obtain ⟨H160,hle161,hs162,_,S⟩:=S.settle (i:=0) rfl
    replace S:St w0 H0 _ H160 [.row v82 34 1 y_81.length,.box b71 3 ms87,.box b8 34 ms33]:=S
    have hA163:At H160 ⟨b102,0,none⟩ ms131:=⟨_,_,rfl,hs162,[],by simp⟩
    have Rp_ppend:=Sl.mono Rp_ppend hle161
    have R83:=Sl.mono R83 hle161
    have R132:=Ms.mono R132 hle161
    have R88:=Ms.mono R88 hle161
    have R34:=Ms.mono R34 hle161
    have R164:Sl (α:=Str) H160 (.slice (some ⟨b102,0,none⟩) n105 n105) m130:=Ms.sl R132 hL133 hA163
    refine W.bslice (α:=(List Str)) [(.slice (some ⟨b102,0,none⟩) n105 n105)] ([m130]:List (List Str)) S el33 rfl rfl rfl (by decide) (Go.Eng.encS ⟨(by rw [Sl.cellsOne R164]; rfl),_,(by rw [Sl.cellsOne R164]),R164⟩ enc0) ?_
    intro u165 w166 H167 hle168 R169 S
    have Rp_ppend:=Sl.mono Rp_ppend hle168
    have R83:=Sl.mono R83 hle168
    have R88:=Ms.mono R88 hle168
    have R34:=Ms.mono R34 hle168
    refine B hy96 fun l170 hl170 hy96=>W.app (α:=(List Str)) (i:=1) S el33 rfl rfl rfl R83 R169 hl170 ?_
    intro v171 w172 H173 hle174 R175 S
    have Rp_ppend:=Sl.mono Rp_ppend hle174
    have R83:=Sl.mono R83 hle174
    have R88:=Ms.mono R88 hle174
    have R34:=Ms.mono R34 hle174
    refine A<|We<|Ws<|Wg<|M' h128 ?_
    refine WL.w (v:=int (m86.length:Int)) (R.ofEq (R.lenV rfl Tryz.underlying118) (by rw [hL89]))<|Lh<|A<|We<|Ws<|B hy96 fun r203 hr204 hy96=>WP.cut (fun f w=>match r203 with | (y_194,m196)=>∃ (H188:Hp) (ms197:List Value),f 0=vp_ppend∧f 3=(int p_x3)∧f 9=(.slice (some ⟨b8,0,none⟩) n11 n11)∧f 12=v171∧f 13=(.slice (some ⟨b71,0,none⟩) n74 n74)∧f 17=(int y_194)∧Sl (α:=GAxis) H188 vp_ppend p_ppend∧Sl (α:=(List Str)) H188 v171 l170∧Ms (α:=Int) H188 ms197 m196∧Ms (α:=(List Str)) H188 ms33 m32∧m196.length=n74∧St w0 H0 w H188 [.row v171 34 1 l170.length,.box b71 3 ms197,.box b8 34 ms33]) ?_ ?_
    ·refine Wb ?_
     refine WP.loopM (zBX m32) (fun s f w=>match s with | (y_182,m184)=>∃ (H176:Hp) (ms185:List Value),f 0=vp_ppend∧f 3=(int p_x3)∧f 9=(.slice (some ⟨b8,0,none⟩) n11 n11)∧f 12=v171∧f 13=(.slice (some ⟨b71,0,none⟩) n74 n74)∧f 17=(int y_182)∧Sl (α:=GAxis) H176 vp_ppend p_ppend∧Sl (α:=(List Str)) H176 v171 l170∧Ms (α:=Int) H176 ms185 m184∧Ms (α:=(List Str)) H176 ms33 m32∧m184.length=n74∧St w0 H0 w H176 [.row v171 34 1 l170.length,.box b71 3 ms185,.box b8 34 ms33]) (wr ((m86.length:Int) - 1),m86) r203 hr204 ?_ ?_
     ·exact ⟨H173,ms87,h124,h125,h126,rfl,h128,rfl,Rp_ppend,R175,R88,R34,hL89,(S.drop _ (.cons _ (.cons_cons _ (.cons_cons _ (.cons_cons _ .slnil)))))⟩
     intro s f w hI y200 hy201 hy202
     obtain ⟨y_182,m184⟩:=s
     obtain ⟨H176,ms185,h177,h178,h179,h180,h181,h183,Rp_ppend,R175,R186,R34,hL187,S⟩:=hI
     refine Ws<|Ws<|WP.quiet S kr kr<|QM' h183<|QLd<|QM<|B hy201 fun b221 hg209 hy201=>WQ.grp 12 [83,84,85,86,87,88,89,90,91,92,93] 94 (boo b221) ?_ ?_
     ·rcases boolE (decide (0≤y_182)) with hb208 | hb208
      ·replace hg209:=condT hg209 hb208
       refine QGy hb208<|QM' h181<|QGy hb208<|QM' h183<|QGy hb208<|B hg209 fun x210 hx210 hg209=>?_
       refine WQ.val (fun _ _=>(R.idxM (α:=Int) (xs:=m184) rfl hL187 rfl el118 hx210))<|QGy hb208 ?_
       obtain ⟨_,_,v211,hv212,hc213⟩:=Ms.get R186 hx210
       obtain rfl:=(List.cons.inj (show [v211]=[(int x210)] from hc213)).1
       refine WQ.val (fun w hw=>by obtain ⟨_,hq,S⟩:=hw; exact (R.loadB (i:=1) S rfl rfl lay3 hv212))<|QGy hb208<|QM' h179<|QGy hb208<|QM' h183<|QGy hb208<|B hg209 fun x214 hx214 hg209=>?_
       refine WQ.val (fun _ _=>(R.idxM (α:=(List Str)) (xs:=m32) rfl hL35 rfl el33 hx214))<|QGy hb208 ?_
       obtain ⟨_,_,v215,hv216,hc217⟩:=Ms.get R34 hx214
       obtain ⟨u218,e219,R220⟩:=hc217
       replace e219:=(List.cons.inj e219).1
       subst e219
       refine WQ.val (fun w hw=>by obtain ⟨_,hq,S⟩:=hw; exact (R.loadB (i:=2) S rfl rfl lay34 hv216))<|QGy hb208<|QNq R220<|QGy hb208<|QLh<|QGy hb208<|QLe<|QPt hb208 ?_
       exact WQ.nil ⟨(congrArg boo (oi hg209)),ag⟩
      replace hg209:=condF hg209 hb208
      refine QGn hb208<|QGn hb208<|QGn hb208<|QGn hb208<|QGn hb208<|QGn hb208<|QGn hb208<|QGn hb208<|QGn hb208<|QGn hb208<|QGn hb208<|QPf hb208 ?_
      exact WQ.nil ⟨(congrArg boo (oi hg209)),ag⟩
     intro us
     refine WQ.nil ?_
     intro w205 H206 hle207 S
     have Rp_ppend:=Sl.mono Rp_ppend hle207
     have R175:=Sl.mono R175 hle207
     have R186:=Ms.mono R186 hle207
     have R34:=Ms.mono R34 hle207
     rcases condE hy201 with ⟨hc222,hy201⟩ | ⟨hc222,hy201⟩
     ·refine CT hc222<|Wk<|Wb<|Ws<|Wg<|M' h181<|M' h183<|B hy201 fun x223 hx223 hy201=>?_
      refine WL.w (R.idxM (α:=Int) (xs:=m184) rfl hL187 rfl el118 hx223)<|B hy201 fun l224 hl224 hy201=>?_
      refine W.storeM (α:=Int) (i:=1) (m:=y_182) S R186 rfl rfl rfl lay3 rfl rfl hl224 ?_
      intro w225 ms226 R227 S
      have hL228:=(zGM hl224).1.trans hL187
      refine We<|Wg<|M' h183<|Lh<|A<|We ?_
      obtain rfl:=oi hy201
      exact ⟨rfl,⟨H206,ms226,h177,h178,h179,h180,h181,rfl,Rp_ppend,R175,R227,R34,hL228,S⟩⟩
     refine CF hc222<|Wx ?_
     obtain rfl:=oi hy201
     obtain rfl:=hy202
     exact ⟨H206,ms185,h177,h178,h179,h180,h181,h183,Rp_ppend,R175,R186,R34,hL187,S⟩
    intro f w hM
    obtain ⟨y_194,m196⟩:=r203
    obtain ⟨H188,ms197,h189,h190,h191,h192,h193,h195,Rp_ppend,R175,R198,R34,hL199,S⟩:=hM
    refine Ws<|Ws<|Wg<|M' h195<|La<|We ?_
    rcases condE hy96 with ⟨hc229,hy96⟩ | ⟨hc229,hy96⟩
    ·refine CT hc229<|Wx ?_
     obtain rfl:=oi hy96
     obtain rfl:=hy97
     exact ⟨H188,v171,h192,R175,(S.drop _ (.cons_cons _ (.cons _ (.cons _ .slnil))))⟩
    refine CF hc229<|Wk<|Wg<|M' h193<|M' h195<|B hy96 fun x230 hx230 hy96=>?_
    refine WL.w (R.idxM (α:=Int) (xs:=m196) rfl hL199 rfl el118 hx230) ?_
    obtain ⟨_,_,v231,hv232,hc233⟩:=Ms.get R198 hx230
    obtain rfl:=(List.cons.inj (show [v231]=[(int x230)] from hc233)).1
    refine WL.w (R.loadB (i:=1) S rfl rfl lay3 hv232)<|Lg<|B hy96 fun x234 hx234 hy96=>?_
    refine WL.w (R.idxM (α:=Int) (xs:=m196) rfl hL199 rfl el118 hx234)<|B hy96 fun l235 hl235 hy96=>?_
    refine W.storeM (α:=Int) (i:=1) (m:=y_194) S R198 rfl rfl rfl lay3 rfl rfl hl235 ?_
    intro w236 ms237 R238 S
    have hL239:=(zGM hl235).1.trans hL199
    refine We ?_
    obtain rfl:=oi hy96
    exact ⟨rfl,⟨H188,v171,ms237,h189,h190,h191,h192,h193,Rp_ppend,R175,R238,R34,hL239,S⟩⟩
   refine CF hc100<|Wx ?_
   obtain rfl:=oi hy96
   obtain rfl:=hy97
   exact ⟨H77,v82,h84,R83,(S.drop _ (.cons_cons _ (.cons _ (.cons _ .slnil))))⟩
  rintro f w ⟨H90,v92,h94,R93,S⟩
  refine Ws<|Wg<|M' h94<|A<|We ?_
  obtain rfl:=oi h
  refine WP.ret (Out.one rfl S rfl ?_)
  exact R93
 exact hM.elim
theorem zIU {w0:World} {H0:Hp} (hw:Holds w0 H0) (p_axes:(List GAxis)) (p_l:(List GField)) (p_strict:Bool) {vp_axes:Value} {vp_l:Value} (Rp_axes:Sl (α:=GAxis) H0 vp_axes p_axes) (Rp_l:Sl (α:=GField) H0 vp_l p_l) {r:((List Str)×Bool)} (h:zEJ p_axes p_l p_strict=some r) :
  Con Tryz.prog 37 [vp_axes,vp_l,(boo p_strict)] w0 H0 (fun H' v=>∃ u1:Value,v=(.tuple ⟨[u1,(boo r.2)]⟩)∧Sl (α:=Str) H' u1 r.1):=by
 refine Con.mk (N:=19) Tryz.func37 rfl rfl kr rfl ?_
 have S:=St.start hw
 refine Ws<|Wg<|A<|A<|We<|Ws<|Wg<|M<|M<|M<|B h fun r1 hr1 h=>W.call S rfl (zII S.holds p_axes p_l p_strict 1 Rp_axes Rp_l hr1) ?_
 rintro v2 w3 H4 hle5 S R6
 refine A<|We<|Ws<|Ws<|Wg<|M<|Nq R6<|Le<|We ?_
 rcases condE h with ⟨hc7,h⟩ | ⟨hc7,h⟩
 ·refine CT hc7<|Ws<|Wg<|A<|A<|We ?_
  obtain rfl:=oi h
  refine WP.ret (Out.two rfl S rfl rfl ?_)
  exact ⟨_,rfl,Sl.nil⟩
 refine CF hc7<|Wk<|Ws<|Wg<|M<|B h fun x8 hx8 h=>W.idx (α:=(List Str)) R6 rfl rfl el33 hx8 ?_
 rintro a9 _ hA10 ⟨v11,rfl,R12⟩
 refine Lq S hA10<|A<|A<|We ?_
 obtain rfl:=oi h
 refine WP.ret (Out.two rfl S rfl rfl ?_)
 exact ⟨_,rfl,R12⟩
theorem zIh {w0:World} {H0:Hp} (hw:Holds w0 H0) (p_axis:Str) (p_a:Str) (p_b:Str) {r:Bool} (h:zEs p_axis p_a p_b=some r) :
  Con Tryz.prog 112 [(str p_axis),(str p_a),(str p_b)] w0 H0 (fun H' v=>v=(boo r)):=by
 refine Con.mk (N:=29) Tryz.func112 rfl rfl kr rfl ?_
 have S:=St.start hw
 refine Ws<|Wg<|A<|We<|Ws<|Wg<|M<|B h fun r1 hr1 h=>W.call S rfl (zEi S.holds p_axis hr1) ?_
 rintro v2 w3 H4 hle5 S rfl
 refine A<|We<|Ws<|Wg<|M<|M<|B h fun r6 hr6 h=>W.invoke S rfl rfl (zCC S.holds r1 p_a hr6) ?_
 rintro v7 w8 H9 hle10 S rfl
 refine M ?_
 refine Ex ?_
 refine Ex<|A<|A<|We<|Ws<|Wg<|M<|M<|B h fun r11 hr11 h=>W.invoke S rfl rfl (zCC S.holds r1 p_b hr11) ?_
 rintro v12 w13 H14 hle15 S rfl
 refine M ?_
 refine Ex ?_
 refine Ex<|A<|A<|We<|Ws<|Wg<|M<|M<|Na<|A ?_
 refine We ?_
 obtain rfl:=oi h
 refine WP.ret (Out.one rfl S rfl ?_)
 exact rfl
theorem zFn {w0 ws:World} {H0 Hs:Hp} {L2:List Ent} (p_x:Str) (p_y:Str) (c_x1:(List GAxis)) (s0:Int) {vc_x10:Value} {b0:Nat} {ac_x1:Addr} (S:St w0 H0 ws Hs (.box b0 3 [(int s0)] :: L2)) (Ac_x1:At Hs ac_x1 [vc_x10]) (Rc_x10:Sl (α:=GAxis) Hs vc_x10 c_x1) {r:(Bool×Int)} (h:zC8 p_x p_y c_x1 s0=some r) :
  ConS Tryz.prog 111 [(str p_x),(str p_y),(ptr b0 0),(.pointer (some ac_x1))] w0 H0 ws Hs L2 (fun H' v L'=>L'=[.box b0 3 [(int r.2)]]∧v=(boo r.1)):=by
 refine ConS.mk (N:=17) Tryz.func111 rfl rfl kr rfl<|Ws<|Wg<|A<|We<|Ws<|Wg ?_
 refine Lo 0 S<|Lg ?_
 refine W.store (i:=0) [(int (wr (s0+1)))] S rfl rfl rfl lay3 rfl rfl (Nat.le_of_ble_eq_true rfl) rfl ?_
 intro w1 S
 refine We<|Ws<|Wg ?_
 refine Lq S Ac_x1 ?_
 refine Lo 0 S<|B h fun x2 hx2 h=>W.idx (α:=GAxis) Rc_x10 rfl rfl el22 hx2 ?_
 rintro a3 _ hA4 ⟨v5,rfl,R6⟩
 refine Fc ?_
 have hA7:=At.add hA4 0 (by simp)
 refine Lq S hA7<|M<|M<|B h fun r8 hr8 h=>W.call S rfl (zIh S.holds x2.fName p_x p_y hr8) ?_
 rintro v9 w10 H11 hle12 S rfl
 refine A<|We ?_
 obtain rfl:=oi h
 have S3:=S
 have S3:=S3.front 0 rfl
 replace S3:St w0 H0 _ H11 (.box b0 3 [(int (wr (s0+1)))] :: L2):=S3
 replace S3:St w0 H0 _ H11 (.box b0 3 [(int (wr (s0+1)))] :: L2):=S3.drop _ (.cons_cons _ (.refl _))
 refine WP.ret (OutS.one (L':=[.box b0 3 [(int (wr (s0+1)))]]) rfl hle12 S3 rfl ?_)
 exact ⟨rfl,rfl⟩
theorem zBw {w0 ws:World} {H0 Hs:Hp} {L2:List Ent} (p_s1:(List Str)) (p_s2:(List Str)) (q0:(List GAxis)) (s0:Int) {vp_s1:Value} {vp_s2:Value} {vq00:Value} {b0:Nat} {aq0:Addr} (S:St w0 H0 ws Hs (.box b0 3 [(int s0)] :: L2)) (Rp_s1:Sl (α:=Str) Hs vp_s1 p_s1) (Rp_s2:Sl (α:=Str) Hs vp_s2 p_s2) (Aq0:At Hs aq0 [vq00]) (Rq00:Sl (α:=GAxis) Hs vq00 q0) {r:(Bool×Int)} (h:zAn p_s1 p_s2 q0 s0=some r) :
  ConS Tryz.prog 110 [vp_s1,vp_s2,(.func (.func 111) #[] [(ptr b0 0),(.pointer (some aq0))].toArray)] w0 H0 ws Hs L2 (fun H' v L'=>L'=[.box b0 3 [(int r.2)]]∧v=(boo r.1)):=by
 refine ConS.mk (N:=32) Tryz.func110 rfl rfl kr rfl<|Ws<|Wg<|A<|We<|Ws<|Ws<|Wg<|M<|Nq Rp_s1<|M<|Nq Rp_s2 ?_
 refine Lf<|We ?_
 rcases condE h with ⟨hc1,h⟩ | ⟨hc1,h⟩
 ·refine CT hc1<|Ws<|Wg<|A<|We ?_
  obtain rfl:=oi h
  have S3:=S
  have S3:=S3.front 0 rfl
  replace S3:St w0 H0 _ Hs (.box b0 3 [(int s0)] :: L2):=S3
  replace S3:St w0 H0 _ Hs (.box b0 3 [(int s0)] :: L2):=S3.drop _ (.cons_cons _ (.refl _))
  refine WP.ret (OutS.one (L':=[.box b0 3 [(int s0)]]) rfl (Hp.le.refl _) S3 rfl ?_)
  exact ⟨rfl,rfl⟩
 refine CF hc1<|Wk<|Ws<|Ws<|Wg<|M<|Nq Rp_s1<|M<|We<|B h fun r18 hr19 h=>WP.cut (fun f w=>match r18 with | .inl m13=>∃ (H11:Hp),f 2=(.func (.func 111) #[] [(ptr b0 0),(.pointer (some aq0))].toArray)∧At H11 aq0 [vq00]∧Sl (α:=GAxis) H11 vq00 q0∧Hp.le Hs H11∧St w0 H0 w H11 (.box b0 3 [(int m13)] :: L2) | .inr _=>False) ?_ ?_
 ·refine Wb ?_
  refine WP.loopM (zAM p_s1 p_s2 q0) (fun s f w=>match s with | (y_7,m9)=>∃ (H2:Hp),f 1=vp_s2∧f 2=(.func (.func 111) #[] [(ptr b0 0),(.pointer (some aq0))].toArray)∧f 15=vp_s1∧f 16=(int (p_s1.length:Int))∧f 17=(int y_7)∧Sl (α:=Str) H2 vp_s2 p_s2∧At H2 aq0 [vq00]∧Sl (α:=GAxis) H2 vq00 q0∧Sl (α:=Str) H2 vp_s1 p_s1∧Hp.le Hs H2∧St w0 H0 w H2 (.box b0 3 [(int m9)] :: L2)) (0,s0) r18 hr19 ?_ ?_
  ·exact ⟨Hs,rfl,rfl,rfl,rfl,rfl,Rp_s2,Aq0,Rq00,Rp_s1,(Hp.le.refl _),S⟩
  intro s f w hI y15 hy16 hy17
  obtain ⟨y_7,m9⟩:=s
  obtain ⟨H2,h3,h4,h5,h6,h8,Rp_s2,Aq0,Rq00,Rp_s1,hE10,S⟩:=hI
  refine Ws<|Wg<|La' h8 h6<|We<|Ws ?_
  rcases condE hy16 with ⟨hc20,hy16⟩ | ⟨hc20,hy16⟩
  ·refine CT hc20<|Wk<|Ws<|Wb<|Ws<|Wg<|M' h8<|B hy16 fun x21 hx21 hy16=>W.idx (α:=Str) Rp_s1 h5 h8 el34 hx21 ?_
   rintro a22 _ hA23 rfl
   refine Lq S hA23<|A<|A<|We<|Ws<|Wg<|M' h3<|M<|B hy16 fun x24 hx24 hy16=>W.idx (α:=Str) Rp_s2 rfl rfl el34 hx24 ?_
   rintro a25 _ hA26 rfl
   refine Lq S hA26<|A<|We<|Ws<|Wg<|M' h4<|M<|M ?_
   replace S:St w0 H0 _ H2 (.box b0 3 [(int m9)] :: L2):=S
   refine B hy16 fun r27 hr27 hy16=>W.callvS rfl rfl (zFn x21 x24 q0 m9 S Aq0 Rq00 hr27) ?_
   rintro v28 w29 H30 L32 hle31 S ⟨rfl,rfl⟩
   replace S:St w0 H0 _ H30 (.box b0 3 [(int r27.2)] :: L2):=S
   have Rp_s2:=Sl.mono Rp_s2 hle31
   have Aq0:=At.mono Aq0 hle31 (by simp)
   have Rq00:=Sl.mono Rq00 hle31
   have Rp_s1:=Sl.mono Rp_s1 hle31
   refine No<|We ?_
   rcases condE hy16 with ⟨hc33,hy16⟩ | ⟨hc33,hy16⟩
   ·refine CT hc33<|Ws<|Wg<|A<|We ?_
    obtain rfl:=oi hy16
    obtain rfl:=hy17
    obtain rfl:=oi h
    have S3:=S
    have S3:=S3.front 0 rfl
    replace S3:St w0 H0 _ H30 (.box b0 3 [(int r27.2)] :: L2):=S3
    replace S3:St w0 H0 _ H30 (.box b0 3 [(int r27.2)] :: L2):=S3.drop _ (.cons_cons _ (.refl _))
    refine WP.ret (OutS.one (L':=[.box b0 3 [(int r27.2)]]) rfl (hE10.trans hle31) S3 rfl ?_)
    exact ⟨rfl,rfl⟩
   refine CF hc33<|Wk<|Wg<|Lg' h8 rfl<|M<|We ?_
   obtain rfl:=oi hy16
   exact ⟨rfl,⟨H30,h3,h4,h5,h6,rfl,Rp_s2,Aq0,Rq00,Rp_s1,(hE10.trans hle31),S⟩⟩
  refine CF hc20<|Wx ?_
  obtain rfl:=oi hy16
  obtain rfl:=hy17
  exact ⟨H2,h4,Aq0,Rq00,hE10,S⟩
 intro f w hM
 rcases r18 with m13 | e
 ·obtain ⟨H11,h12,Aq0,Rq00,hE14,S⟩:=hM
  refine Ws<|Wg<|A<|We ?_
  obtain rfl:=oi h
  have S3:=S
  have S3:=S3.front 0 rfl
  replace S3:St w0 H0 _ H11 (.box b0 3 [(int m13)] :: L2):=S3
  replace S3:St w0 H0 _ H11 (.box b0 3 [(int m13)] :: L2):=S3.drop _ (.cons_cons _ (.refl _))
  refine WP.ret (OutS.one (L':=[.box b0 3 [(int m13)]]) rfl hE14 S3 rfl ?_)
  exact ⟨rfl,rfl⟩
 exact hM.elim
theorem zHt {w0:World} {H0:Hp} (hw:Holds w0 H0) (p_axes:(List GAxis)) (p_a:(List Str)) (p_b:(List Str)) {vp_axes:Value} {vp_a:Value} {vp_b:Value} (Rp_axes:Sl (α:=GAxis) H0 vp_axes p_axes) (Rp_a:Sl (α:=Str) H0 vp_a p_a) (Rp_b:Sl (α:=Str) H0 vp_b p_b) {r:Bool} (h:zD3 p_axes p_a p_b=some r) :
  Con Tryz.prog 78 [vp_axes,vp_a,vp_b] w0 H0 (fun H' v=>v=(boo r)):=by
 refine Con.mk (N:=17) Tryz.func78 rfl rfl kr rfl ?_
 have S:=St.start hw
 refine Ws<|Wg ?_
 refine W.box [vp_axes] S rfl (congrArg Array.toList (Sl.cellsOne Rp_axes)) ?_
 intro b1 w2 S
 refine A<|We<|Ws<|Ws<|Wg<|M<|Nq Rp_a ?_
 refine Lo 0 S<|Nq Rp_axes<|Lf<|We ?_
 rcases condE h with ⟨hc3,h⟩ | ⟨hc3,h⟩
 ·refine CT hc3<|Ws<|Wg<|A<|We ?_
  obtain rfl:=oi h
  refine WP.ret (Out.one rfl S rfl ?_)
  exact rfl
 refine CF hc3<|Wk<|Ws<|Wg ?_
 refine W.alloc [(int 0)] S zer3 ?_
 intro b4 w5 S
 refine W.store (i:=0) [(int (-1))] S rfl rfl rfl lay3 rfl rfl (Nat.le_of_ble_eq_true rfl) rfl ?_
 intro w6 S
 refine We<|Ws<|Wg<|M<|M ?_
 obtain ⟨H7,hle8,hs9,_,S⟩:=S.settle (i:=1) rfl
 replace S:St w0 H0 _ H7 [.box b4 3 [(int (-1))]]:=S
 have hA10:At H7 ⟨b1,0,none⟩ [vp_axes]:=⟨_,_,rfl,hs9,[],by simp⟩
 have Rp_axes:=Sl.mono Rp_axes hle8
 have Rp_a:=Sl.mono Rp_a hle8
 have Rp_b:=Sl.mono Rp_b hle8
 refine WL.w (R.mkFunc (vs:=[(ptr b4 0),(.pointer (some ⟨b1,0,none⟩))]) rfl) ?_
 replace S:St w0 H0 _ H7 [.box b4 3 [(int (-1))]]:=S
 refine B h fun r11 hr11 h=>W.callS rfl (zBw p_a p_b p_axes (-1) S Rp_a Rp_b hA10 Rp_axes hr11) ?_
 rintro v12 w13 H14 L16 hle15 S ⟨rfl,rfl⟩
 replace S:St w0 H0 _ H14 [.box b4 3 [(int r11.2)]]:=S
 refine A<|We ?_
 obtain rfl:=oi h
 refine WP.ret (Out.one rfl S rfl ?_)
 exact rfl
theorem zJq {w0:World} {H0:Hp} (hw:Holds w0 H0) (p_k:(List Str)) (c_x0:(List GAxis)) (c_x1:(List Str)) {vp_k:Value} {vc_x00:Value} {vc_x10:Value} {ac_x0:Addr} {ac_x1:Addr} (Rp_k:Sl (α:=Str) H0 vp_k p_k) (Ac_x0:At H0 ac_x0 [vc_x00]) (Rc_x00:Sl (α:=GAxis) H0 vc_x00 c_x0) (Ac_x1:At H0 ac_x1 [vc_x10]) (Rc_x10:Sl (α:=Str) H0 vc_x10 c_x1) {r:Bool} (h:zFM p_k c_x0 c_x1=some r) :
  Con Tryz.prog 77 [vp_k,(.pointer (some ac_x0)),(.pointer (some ac_x1))] w0 H0 (fun H' v=>v=(boo r)):=by
 refine Con.mk (N:=9) Tryz.func77 rfl rfl kr rfl ?_
 have S:=St.start hw
 refine Ws<|Wg<|A<|We<|Ws<|Wg ?_
 refine Lq S Ac_x0<|M ?_
 refine Lq S Ac_x1<|B h fun r1 hr1 h=>W.call S rfl (zHt S.holds c_x0 p_k c_x1 Rc_x00 Rp_k Rc_x10 hr1) ?_
 rintro v2 w3 H4 hle5 S rfl
 refine A<|We ?_
 obtain rfl:=oi h
 refine WP.ret (Out.one rfl S rfl ?_)
 exact rfl
theorem zDJ {w0:World} {H0:Hp} (hw:Holds w0 H0) (p_s:(List (List Str))) (p_f:((List Str)→Option Bool)) {vp_s:Value} {kp_f:FuncId} {cp_f:List Value} (Rp_s:Sl (α:=(List Str)) H0 vp_s p_s) (Fp_f:∀ {w:World} {H:Hp},H0.le H→Holds w H→∀ (x0:(List Str)),∀ {y0:Value},Sl (α:=Str) H y0 x0→∀ (rr:Bool),p_f x0=some rr→Con Tryz.prog kp_f ([y0]++cp_f) w H (fun H' v=>v=(boo rr))) {r:Int} (h:zA2 p_s p_f=some r) :
  Con Tryz.prog 109 [vp_s,(.func (.func kp_f) #[] cp_f.toArray)] w0 H0 (fun H' v=>v=(int r)):=by
 refine Con.mk (N:=19) Tryz.func109 rfl rfl kr rfl ?_
 have S:=St.start hw
 refine Ws<|Wg<|A<|We<|Ws<|Ws<|Wg<|M<|Nq Rp_s<|M<|We<|B h fun r11 hr12 h=>WP.cut (fun f w=>match r11 with | .inl _=>∃ (H7:Hp),St w0 H0 w H7 [] | .inr _=>False) ?_ ?_
 ·refine Wb ?_
  refine WP.loopM (zAR p_s p_f) (fun s f w=>match s with | y_5=>∃ (H1:Hp),f 0=vp_s∧f 1=(.func (.func kp_f) #[] cp_f.toArray)∧f 7=(int (p_s.length:Int))∧f 8=(int y_5)∧Sl (α:=(List Str)) H1 vp_s p_s∧St w0 H0 w H1 []) 0 r11 hr12 ?_ ?_
  ·exact ⟨H0,rfl,rfl,rfl,rfl,Rp_s,S⟩
  intro y_5 f w hI y8 hy9 hy10
  obtain ⟨H1,h2,h3,h4,h6,Rp_s,S⟩:=hI
  refine Ws<|Wg<|La' h6 h4<|We<|Ws ?_
  rcases condE hy9 with ⟨hc13,hy9⟩ | ⟨hc13,hy9⟩
  ·refine CT hc13<|Wk<|Ws<|Wb<|Ws<|Wg<|M' h6<|A<|We<|Ws<|Wg<|M' h3 ?_
   refine M' h2<|M<|B hy9 fun x14 hx14 hy9=>W.idx (α:=(List Str)) Rp_s rfl rfl el33 hx14 ?_
   rintro a15 _ hA16 ⟨v17,rfl,R18⟩
   refine Lq S hA16<|B hy9 fun r19 hr19 hy9=>W.callv S rfl rfl (Fp_f (S.post.le) S.holds x14 R18 _ hr19) ?_
   rintro v20 w21 H22 hle23 S rfl
   have Rp_s:=Sl.mono Rp_s hle23
   refine We ?_
   rcases condE hy9 with ⟨hc24,hy9⟩ | ⟨hc24,hy9⟩
   ·refine CT hc24<|Ws<|Wg<|M<|A<|We ?_
    obtain rfl:=oi hy9
    obtain rfl:=hy10
    obtain rfl:=oi h
    refine WP.ret (Out.one rfl S rfl ?_)
    exact rfl
   refine CF hc24<|Wk<|Wg<|Lg' h6 rfl<|M<|We ?_
   obtain rfl:=oi hy9
   exact ⟨rfl,⟨H22,h2,h3,h4,rfl,Rp_s,S⟩⟩
  refine CF hc13<|Wx ?_
  obtain rfl:=oi hy9
  obtain rfl:=hy10
  exact ⟨H1,S⟩
 intro f w hM
 rcases r11 with _ | e
 ·obtain ⟨H7,S⟩:=hM
  refine Ws<|Wg<|A<|We ?_
  obtain rfl:=oi h
  refine WP.ret (Out.one rfl S rfl ?_)
  exact rfl
 exact hM.elim
theorem zBG {w0:World} {H0:Hp} (hw:Holds w0 H0) (p_s:(List (List Str))) (p_f:((List Str)→Option Bool)) {vp_s:Value} {kp_f:FuncId} {cp_f:List Value} (Rp_s:Sl (α:=(List Str)) H0 vp_s p_s) (Fp_f:∀ {w:World} {H:Hp},H0.le H→Holds w H→∀ (x0:(List Str)),∀ {y0:Value},Sl (α:=Str) H y0 x0→∀ (rr:Bool),p_f x0=some rr→Con Tryz.prog kp_f ([y0]++cp_f) w H (fun H' v=>v=(boo rr))) {r:Bool} (h:zAX p_s p_f=some r) :
  Con Tryz.prog 76 [vp_s,(.func (.func kp_f) #[] cp_f.toArray)] w0 H0 (fun H' v=>v=(boo r)):=by
 refine Con.mk (N:=9) Tryz.func76 rfl rfl kr rfl ?_
 have S:=St.start hw
 refine Ws<|Wg<|A<|We<|Ws<|Wg<|M<|M<|B h fun r1 hr1 h=>W.call S rfl (zDJ S.holds p_s p_f Rp_s (fun hle=>Fp_f (Hp.le.trans S.post.le hle)) hr1) ?_
 rintro v2 w3 H4 hle5 S rfl
 refine Ld<|A<|We ?_
 obtain rfl:=oi h
 refine WP.ret (Out.one rfl S rfl ?_)
 exact rfl
theorem zIW {w0:World} {H0:Hp} (hw:Holds w0 H0) (p_axes:(List GAxis)) (p_e:GEntry) (p_key:(List Str)) {vp_axes:Value} {vp_e0:Value} {vp_e1:Value} {vp_e2:Value} {vp_e4:Value} {vp_key:Value} (Rp_axes:Sl (α:=GAxis) H0 vp_axes p_axes) (Rp_e0:Sl (α:=(List Str)) H0 vp_e0 p_e.fKeys) (Rp_e1:Sl (α:=Str) H0 vp_e1 p_e.fVary) (Rp_e2:Sl (α:=Str) H0 vp_e2 p_e.fSnapshot) (Rp_e4:Sl (α:=GField) H0 vp_e4 p_e.fFields) (Rp_key:Sl (α:=Str) H0 vp_key p_key) {r:Bool} (h:zGo p_axes p_e p_key=some r) :
  Con Tryz.prog 39 [vp_axes,(agg [vp_e0,vp_e1,vp_e2,(str p_e.fReason),vp_e4,(str p_e.fBody),(int p_e.fRequested),(int p_e.fReceived)]),vp_key] w0 H0 (fun H' v=>v=(boo r)):=by
 refine Con.mk (N:=11) Tryz.func39 rfl rfl kr rfl ?_
 have S:=St.start hw
 refine Ws<|Wg ?_
 refine W.box [vp_axes] S rfl (congrArg Array.toList (Sl.cellsOne Rp_axes)) ?_
 intro b1 w2 S
 refine W.box [vp_e0,vp_e1,vp_e2,(str p_e.fReason),vp_e4,(str p_e.fBody),(int p_e.fRequested),(int p_e.fReceived)] S rfl rfl ?_
 intro b3 w4 S
 refine W.box [vp_key] S rfl (congrArg Array.toList (Sl.cellsOne Rp_key)) ?_
 intro b5 w6 S
 refine A<|We<|Ws<|Wg<|Fb ?_
 refine Lo 1 S ?_
 obtain ⟨H7,hle8,hs9,_,S⟩:=S.settle (i:=2) rfl
 replace S:St w0 H0 _ H7 [.box b5 34 [vp_key],.box b3 36 [vp_e0,vp_e1,vp_e2,(str p_e.fReason),vp_e4,(str p_e.fBody),(int p_e.fRequested),(int p_e.fReceived)]]:=S
 have hA10:At H7 ⟨b1,0,none⟩ [vp_axes]:=⟨_,_,rfl,hs9,[],by simp⟩
 have Rp_axes:=Sl.mono Rp_axes hle8
 have Rp_e0:=Sl.mono Rp_e0 hle8
 have Rp_key:=Sl.mono Rp_key hle8
 obtain ⟨H11,hle12,hs13,_,S⟩:=S.settle (i:=0) rfl
 replace S:St w0 H0 _ H11 [.box b3 36 [vp_e0,vp_e1,vp_e2,(str p_e.fReason),vp_e4,(str p_e.fBody),(int p_e.fRequested),(int p_e.fReceived)]]:=S
 have hA14:At H11 ⟨b5,0,none⟩ [vp_key]:=⟨_,_,rfl,hs13,[],by simp⟩
 have Rp_axes:=Sl.mono Rp_axes hle12
 have Rp_e0:=Sl.mono Rp_e0 hle12
 have Rp_key:=Sl.mono Rp_key hle12
 have hA10:=At.mono hA10 hle12 (by simp)
 refine WL.w (R.mkFunc (vs:=[(.pointer (some ⟨b1,0,none⟩)),(.pointer (some ⟨b5,0,none⟩))]) rfl)<|B h fun r15 hr15 h=>W.call S rfl (zBG S.holds p_e.fKeys (fun x0=>zFM x0 p_axes p_key) Rp_e0 (fun hle hw x0=>fun q0 r h=>zJq hw x0 p_axes p_key q0 (At.mono hA10 hle (by simp)) (Sl.mono Rp_axes hle) (At.mono hA14 hle (by simp)) (Sl.mono Rp_key hle) h) hr15) ?_
 rintro v16 w17 H18 hle19 S rfl
 refine A<|We ?_
 obtain rfl:=oi h
 refine WP.ret (Out.one rfl S rfl ?_)
 exact rfl
theorem zJY {w0:World} {H0:Hp} (hw:Holds w0 H0) (p_e:GEntry) (c_x0:GTable) (c_x1:(List Str)) {vp_e0:Value} {vp_e1:Value} {vp_e2:Value} {vp_e4:Value} {vc_x00:Value} {vc_x01:Value} {vc_x10:Value} {ac_x0:Addr} {ac_x1:Addr} (Rp_e0:Sl (α:=(List Str)) H0 vp_e0 p_e.fKeys) (Rp_e1:Sl (α:=Str) H0 vp_e1 p_e.fVary) (Rp_e2:Sl (α:=Str) H0 vp_e2 p_e.fSnapshot) (Rp_e4:Sl (α:=GField) H0 vp_e4 p_e.fFields) (Ac_x0:At H0 ac_x0 [vc_x00,vc_x01]) (Rc_x00:Sl (α:=GAxis) H0 vc_x00 c_x0.fAxes) (Rc_x01:Sl (α:=GEntry) H0 vc_x01 c_x0.fEntries) (Ac_x1:At H0 ac_x1 [vc_x10]) (Rc_x10:Sl (α:=Str) H0 vc_x10 c_x1) {r:Bool} (h:zFf p_e c_x0 c_x1=some r) :
  Con Tryz.prog 38 [(agg [vp_e0,vp_e1,vp_e2,(str p_e.fReason),vp_e4,(str p_e.fBody),(int p_e.fRequested),(int p_e.fReceived)]),(.pointer (some ac_x0)),(.pointer (some ac_x1))] w0 H0 (fun H' v=>v=(boo r)):=by
 refine Con.mk (N:=10) Tryz.func38 rfl rfl kr rfl ?_
 have S:=St.start hw
 refine Ws<|Wg ?_
 refine W.box [vp_e0,vp_e1,vp_e2,(str p_e.fReason),vp_e4,(str p_e.fBody),(int p_e.fRequested),(int p_e.fReceived)] S rfl rfl ?_
 intro b1 w2 S
 refine A<|We<|Ws<|Wg<|Fc ?_
 have hA3:=At.add Ac_x0 0 (by simp)
 refine Lq S hA3 ?_
 refine WL.w (R.loadBN (i:=0) (vs:=[vp_e0,vp_e1,vp_e2,(str p_e.fReason),vp_e4,(str p_e.fBody),(int p_e.fRequested),(int p_e.fReceived)]) S rfl rfl lay36 rfl rfl) ?_
 refine Lq S Ac_x1<|B h fun r4 hr4 h=>W.call S rfl (zIW S.holds c_x0.fAxes p_e c_x1 Rc_x00 Rp_e0 Rp_e1 Rp_e2 Rp_e4 Rc_x10 hr4) ?_
 rintro v5 w6 H7 hle8 S rfl
 refine A<|We ?_
 obtain rfl:=oi h
 refine WP.ret (Out.one rfl S rfl ?_)
 exact rfl
theorem zHx {w0:World} {H0:Hp} (hw:Holds w0 H0) (p_t:GTable) (p_l:(List GField)) (p_strict:Bool) {vp_t0:Value} {vp_t1:Value} {vp_l:Value} (Rp_t0:Sl (α:=GAxis) H0 vp_t0 p_t.fAxes) (Rp_t1:Sl (α:=GEntry) H0 vp_t1 p_t.fEntries) (Rp_l:Sl (α:=GField) H0 vp_l p_l) {r:(Int×Bool)} (h:zE2 p_t p_l p_strict=some r) :
  Con Tryz.prog 11 [(agg [vp_t0,vp_t1]),vp_l,(boo p_strict)] w0 H0 (fun H' v=>v=(.tuple ⟨[(int r.1),(boo r.2)]⟩)):=by
 refine Con.mk (N:=32) Tryz.func11 rfl rfl kr rfl ?_
 have S:=St.start hw
 refine Ws<|Wg ?_
 refine W.box [vp_t0,vp_t1] S rfl rfl ?_
 intro b1 w2 S
 refine W.box [vp_l] S rfl (congrArg Array.toList (Sl.cellsOne Rp_l)) ?_
 intro b3 w4 S
 refine A<|A<|We<|Ws<|Ws<|Wg<|Fb ?_
 refine Lo 1 S<|Nq Rp_t0<|Le<|We ?_
 rcases condE h with ⟨hc5,h⟩ | ⟨hc5,h⟩
 ·refine CT hc5<|Ws<|Wg<|Fb ?_
  refine Lo 1 S ?_
  obtain ⟨H6,hle7,hs8,_,S⟩:=S.settle (i:=0) rfl
  replace S:St w0 H0 _ H6 [.box b1 25 [vp_t0,vp_t1]]:=S
  have hA9:At H6 ⟨b3,0,none⟩ [vp_l]:=⟨_,_,rfl,hs8,[],by simp⟩
  have Rp_t0:=Sl.mono Rp_t0 hle7
  have Rp_t1:=Sl.mono Rp_t1 hle7
  have Rp_l:=Sl.mono Rp_l hle7
  refine WL.w (R.mkFunc (vs:=[(.pointer (some ⟨b3,0,none⟩))]) rfl)<|B h fun r10 hr10 h=>W.call S rfl (zGV S.holds p_t.fEntries (fun x0=>zFT x0 p_l) Rp_t1 (fun hle hw x0=>fun q0_0 q0_1 q0_2 q0_4 r h=>zJE hw x0 p_l q0_0 q0_1 q0_2 q0_4 (At.mono hA9 hle (by simp)) (Sl.mono Rp_l hle) h) hr10) ?_
  rintro v11 w12 H13 hle14 S rfl
  have Rp_t0:=Sl.mono Rp_t0 hle14
  have Rp_t1:=Sl.mono Rp_t1 hle14
  have Rp_l:=Sl.mono Rp_l hle14
  refine A<|A<|We ?_
  obtain rfl:=oi h
  refine WP.ret (Out.two rfl S rfl rfl ?_)
  exact rfl
 refine CF hc5<|Wk<|Ws<|Wg<|Fb ?_
 refine Lo 1 S ?_
 refine Lo 0 S<|M<|B h fun r15 hr15 h=>W.call S rfl (zIU S.holds p_t.fAxes p_l p_strict Rp_t0 Rp_l hr15) ?_
 rintro v16 w17 H18 hle19 S ⟨u20,rfl,R21⟩
 have Rp_t0:=Sl.mono Rp_t0 hle19
 have Rp_t1:=Sl.mono Rp_t1 hle19
 refine M ?_
 refine Ex ?_
 refine Ex ?_
 refine W.alloc [(.slice none 0 0)] S zer34 ?_
 intro b22 w23 S
 refine W.storeSl (α:=Str) (i:=0) [u20] S R21 rfl rfl rfl lay34 (Nat.le_of_ble_eq_true rfl) rfl ?_
 intro w24 S
 refine A<|We<|Ws<|Ws<|Wg<|M<|No<|We ?_
 rcases condE h with ⟨hc25,h⟩ | ⟨hc25,h⟩
 ·refine CT hc25<|Ws<|Wg<|A<|A<|We ?_
  obtain rfl:=oi h
  refine WP.ret (Out.two rfl S rfl rfl ?_)
  exact rfl
 refine CF hc25<|Wk<|Ws<|Wg<|Fb ?_
 refine Lo 2 S ?_
 obtain ⟨H26,hle27,hs28,_,S⟩:=S.settle (i:=2) rfl
 replace S:St w0 H0 _ H26 [.box b22 34 [u20],.box b3 26 [vp_l]]:=S
 have hA29:At H26 ⟨b1,0,none⟩ [vp_t0,vp_t1]:=⟨_,_,rfl,hs28,[],by simp⟩
 have Rp_t0:=Sl.mono Rp_t0 hle27
 have Rp_t1:=Sl.mono Rp_t1 hle27
 have R21:=Sl.mono R21 hle27
 obtain ⟨H30,hle31,hs32,_,S⟩:=S.settle (i:=0) rfl
 replace S:St w0 H0 _ H30 [.box b3 26 [vp_l]]:=S
 have hA33:At H30 ⟨b22,0,none⟩ [u20]:=⟨_,_,rfl,hs32,[],by simp⟩
 have Rp_t0:=Sl.mono Rp_t0 hle31
 have Rp_t1:=Sl.mono Rp_t1 hle31
 have hA29:=At.mono hA29 hle31 (by simp)
 have R21:=Sl.mono R21 hle31
 refine WL.w (R.mkFunc (vs:=[(.pointer (some ⟨b1,0,none⟩)),(.pointer (some ⟨b22,0,none⟩))]) rfl)<|B h fun r34 hr34 h=>W.call S rfl (zGV S.holds p_t.fEntries (fun x0=>zFf x0 p_t r15.1) Rp_t1 (fun hle hw x0=>fun q0_0 q0_1 q0_2 q0_4 r h=>zJY hw x0 p_t r15.1 q0_0 q0_1 q0_2 q0_4 (At.mono hA29 hle (by simp)) (Sl.mono Rp_t0 hle) (Sl.mono Rp_t1 hle) (At.mono hA33 hle (by simp)) (Sl.mono R21 hle) h) hr34) ?_
 rintro v35 w36 H37 hle38 S rfl
 refine A<|A<|We ?_
 obtain rfl:=oi h
 refine WP.ret (Out.two rfl S rfl rfl ?_)
 exact rfl
theorem zHj {w0:World} {H0:Hp} (hw:Holds w0 H0) (p_c:UInt8) {r:Bool} (h:zDq p_c=some r) :
  Con Tryz.prog 148 [(byt p_c)] w0 H0 (fun H' v=>v=(boo r)):=by
 refine Con.mk (N:=34) Tryz.func148 rfl rfl kr rfl ?_
 have S:=St.start hw
 refine Ws<|Wg<|A<|We<|Ws<|Ws<|Wg<|M<|Md p_c 97<|M ?_
 refine WL.grp 3 [7,8] 9 (boo ((decide (97≤p_c))&&(decide (p_c≤122)))) ?_ ?_
 ·rcases boolE (decide (97≤p_c)) with hb1 | hb1
  ·refine Gy hb1<|M<|Gy hb1<|Mb p_c 122<|Pt hb1 ?_
   exact We ⟨(andT hb1),ag,rfl⟩
  refine Gn hb1<|Gn hb1<|Pf hb1 ?_
  exact We ⟨(andF hb1),ag,rfl⟩
 intro us
 refine M ?_
 refine WL.grp 7 [11,12,13,14,15,16] 17 (boo (((decide (97≤p_c))&&(decide (p_c≤122)))||((decide (65≤p_c))&&(decide (p_c≤90))))) ?_ ?_
 ·rcases boolE ((decide (97≤p_c))&&(decide (p_c≤122))) with hb3 | hb3
  ·refine Gn hb3<|Gn hb3<|Gn hb3<|WL.gund rfl rfl<|WL.gund rfl rfl<|Gn hb3<|Pt hb3 ?_
   exact We ⟨(orT hb3),ag,rfl⟩
  refine Gy hb3<|M<|Gy hb3<|Md p_c 65<|Gy hb3<|M ?_
  refine WL.grp 3 [14,15] 16 (boo ((decide (65≤p_c))&&(decide (p_c≤90)))) ?_ ?_
  ·rcases boolE (decide (65≤p_c)) with hb5 | hb5
   ·refine Gy hb5<|M<|Gy hb5<|Mb p_c 90<|Gy hb3<|Pt hb5 ?_
    exact We ⟨(andT hb5),ag,rfl⟩
   refine Gn hb5<|Gn hb5<|Gy hb3<|Pf hb5 ?_
   exact We ⟨(andF hb5),ag,rfl⟩
  intro us
  refine Pf hb3 ?_
  exact We ⟨(orF hb3),ag,rfl⟩
 intro us
 refine M ?_
 refine WL.grp 7 [19,20,21,22,23,24] 25 (boo ((((decide (97≤p_c))&&(decide (p_c≤122)))||((decide (65≤p_c))&&(decide (p_c≤90))))||((decide (48≤p_c))&&(decide (p_c≤57))))) ?_ ?_
 ·rcases boolE (((decide (97≤p_c))&&(decide (p_c≤122)))||((decide (65≤p_c))&&(decide (p_c≤90)))) with hb7 | hb7
  ·refine Gn hb7<|Gn hb7<|Gn hb7<|WL.gund rfl rfl<|WL.gund rfl rfl<|Gn hb7<|Pt hb7 ?_
   exact We ⟨(orT hb7),ag,rfl⟩
  refine Gy hb7<|M<|Gy hb7<|Md p_c 48<|Gy hb7<|M ?_
  refine WL.grp 3 [22,23] 24 (boo ((decide (48≤p_c))&&(decide (p_c≤57)))) ?_ ?_
  ·rcases boolE (decide (48≤p_c)) with hb9 | hb9
   ·refine Gy hb9<|M<|Gy hb9<|Mb p_c 57<|Gy hb7<|Pt hb9 ?_
    exact We ⟨(andT hb9),ag,rfl⟩
   refine Gn hb9<|Gn hb9<|Gy hb7<|Pf hb9 ?_
   exact We ⟨(andF hb9),ag,rfl⟩
  intro us
  refine Pf hb7 ?_
  exact We ⟨(orF hb7),ag,rfl⟩
 intro us
 refine We ?_
 rcases condE h with ⟨hc11,h⟩ | ⟨hc11,h⟩
 ·refine CT hc11<|Ws<|Wg<|A<|We ?_
  obtain rfl:=oi h
  refine WP.ret (Out.one rfl S rfl ?_)
  exact rfl
 refine CF hc11<|Wk<|Ws<|Ws<|Wg<|A<|We<|B h fun r20 hr21 h=>WP.cut (fun f w=>match r20 with | .inl _=>∃ (H16:Hp),St w0 H0 w H16 [] | .inr _=>False) ?_ ?_
 ·refine Wb ?_
  refine WP.loopM (zCT p_c) (fun s f w=>match s with | i_14=>∃ (H12:Hp),f 0=(byt p_c)∧f 3=(int i_14)∧St w0 H0 w H12 []) 0 r20 hr21 ?_ ?_
  ·exact ⟨H0,rfl,rfl,S⟩
  intro i_14 f w hI y17 hy18 hy19
  obtain ⟨H12,h13,h15,S⟩:=hI
  refine Ws<|Ws<|Wg<|M' h15<|La<|We ?_
  rcases condE hy18 with ⟨hc22,hy18⟩ | ⟨hc22,hy18⟩
  ·refine CT hc22<|Wk<|Ws<|Wb<|Ws<|Wg<|M' h15<|B hy18 fun c23 hc23 hy18=>Ja hc23<|M' h13<|Me c23 p_c<|We ?_
   rcases condE hy18 with ⟨hc24,hy18⟩ | ⟨hc24,hy18⟩
   ·refine CT hc24<|Ws<|Wg<|A<|We ?_
    obtain rfl:=oi hy18
    obtain rfl:=hy19
    obtain rfl:=oi h
    refine WP.ret (Out.one rfl S rfl ?_)
    exact rfl
   refine CF hc24<|Wk<|Wg<|M' h15<|Lg<|A<|We ?_
   obtain rfl:=oi hy18
   exact ⟨rfl,⟨H12,h13,rfl,S⟩⟩
  refine CF hc22<|Wx ?_
  obtain rfl:=oi hy18
  obtain rfl:=hy19
  exact ⟨H12,S⟩
 intro f w hM
 rcases r20 with _ | e
 ·obtain ⟨H16,S⟩:=hM
  refine Ws<|Wg<|A<|We ?_
  obtain rfl:=oi h
  refine WP.ret (Out.one rfl S rfl ?_)
  exact rfl
 exact hM.elim
theorem zAu {w0:World} {H0:Hp} (hw:Holds w0 H0) (p_s:Str) {r:Bool} (h:zA0 p_s=some r) :
  Con Tryz.prog 123 [(str p_s)] w0 H0 (fun H' v=>v=(boo r)):=by
 refine Con.mk (N:=17) Tryz.func123 rfl rfl kr rfl ?_
 have S:=St.start hw
 refine Ws<|Wg<|A<|We<|Ws<|Ws<|Wg<|A<|We<|B h fun r10 hr11 h=>WP.cut (fun f w=>match r10 with | .inl _=>∃ (H5:Hp),f 0=(str p_s)∧St w0 H0 w H5 [] | .inr _=>False) ?_ ?_
 ·refine Wb ?_
  refine WP.loopM (zDB p_s) (fun s f w=>match s with | i_3=>∃ (H1:Hp),f 0=(str p_s)∧f 3=(int i_3)∧St w0 H0 w H1 []) 0 r10 hr11 ?_ ?_
  ·exact ⟨H0,rfl,rfl,S⟩
  intro i_3 f w hI y7 hy8 hy9
  obtain ⟨H1,h2,h4,S⟩:=hI
  refine Ws<|Ws<|Wg<|M' h4<|M' h2<|Ns<|La<|We ?_
  rcases condE hy8 with ⟨hc12,hy8⟩ | ⟨hc12,hy8⟩
  ·refine CT hc12<|Wk<|Ws<|Wb<|Ws<|Wg<|M' h2<|M' h4<|B hy8 fun c13 hc13 hy8=>Ja hc13<|B hy8 fun r14 hr14 hy8=>W.call S rfl (zHj S.holds c13 hr14) ?_
   rintro v15 w16 H17 hle18 S rfl
   refine No<|We ?_
   rcases condE hy8 with ⟨hc19,hy8⟩ | ⟨hc19,hy8⟩
   ·refine CT hc19<|Ws<|Wg<|A<|We ?_
    obtain rfl:=oi hy8
    obtain rfl:=hy9
    obtain rfl:=oi h
    refine WP.ret (Out.one rfl S rfl ?_)
    exact rfl
   refine CF hc19<|Wk<|Wg<|M' h4<|Lg<|A<|We ?_
   obtain rfl:=oi hy8
   exact ⟨rfl,⟨H17,h2,rfl,S⟩⟩
  refine CF hc12<|Wx ?_
  obtain rfl:=oi hy8
  obtain rfl:=hy9
  exact ⟨H1,h2,S⟩
 intro f w hM
 rcases r10 with _ | e
 ·obtain ⟨H5,h6,S⟩:=hM
  refine Ws<|Wg<|M' h6<|Nb<|A<|We ?_
  obtain rfl:=oi h
  refine WP.ret (Out.one rfl S rfl ?_)
  exact rfl
 exact hM.elim
end Go.Proofs

/- A part of the proof of laws of the seat: written by program over the translation. -/
import Derived.Test.YtipgfplekgdoiaaGreatDoorEng38
import Derived.Test.YtipgfplekgdoiaaGreatDoorEng32
import Derived.Test.YtipgfplekgdoiaaGreatDoorGenK14
namespace Go.Proofs
set_option maxHeartbeats 4000000
set_option maxRecDepth 10000
open Go.Eng Go.Eng.Pure
set_option linter.unusedVariables false
theorem zCQ {w0:World} {H0:Hp} (hw:Holds w0 H0) (p_e:GEntry) {vp_e0:Value} {vp_e1:Value} {vp_e2:Value} {vp_e4:Value} (Rp_e0:Sl (α:=(List Str)) H0 vp_e0 p_e.fKeys) (Rp_e1:Sl (α:=Str) H0 vp_e1 p_e.fVary) (Rp_e2:Sl (α:=Str) H0 vp_e2 p_e.fSnapshot) (Rp_e4:Sl (α:=GField) H0 vp_e4 p_e.fFields) {r:GEntry} (h:zD6 p_e=some r) :
  Con Tryz.prog 50 [(agg [vp_e0,vp_e1,vp_e2,(str p_e.fReason),vp_e4,(str p_e.fBody),(int p_e.fRequested),(int p_e.fReceived)])] w0 H0 (fun H' v=>∃ u1 u2 u3 u4:Value,v=(agg [u1,u2,u3,(str r.fReason),u4,(str r.fBody),(int r.fRequested),(int r.fReceived)])∧Sl (α:=(List Str)) H' u1 r.fKeys∧Sl (α:=Str) H' u2 r.fVary∧Sl (α:=Str) H' u3 r.fSnapshot∧Sl (α:=GField) H' u4 r.fFields):=by
 refine Con.mk (N:=36) Tryz.func50 rfl rfl kr rfl ?_
 have S:=St.start hw
 refine Ws<|Wg ?_
 refine W.box [vp_e0,vp_e1,vp_e2,(str p_e.fReason),vp_e4,(str p_e.fBody),(int p_e.fRequested),(int p_e.fReceived)] S rfl rfl ?_
 intro b1 w2 S
 refine W.alloc [(.slice none 0 0),(.slice none 0 0),(.slice none 0 0),(str []),(.slice none 0 0),(str []),(int 0),(int 0)] S zer36 ?_
 intro b3 w4 S
 refine We<|Ws<|Wg<|Fb ?_
 refine Lo 1 S<|A<|We<|Ws<|Wg<|Fb ?_
 refine W.store (i:=1) [(.slice none 0 0),vp_e1,vp_e2,(str p_e.fReason),vp_e4,(str p_e.fBody),(int p_e.fRequested),(int p_e.fReceived)] S rfl rfl rfl lay33 rfl (AllOne.all (l:=[(.slice none 0 0)]) (.cons rfl .nil)) (Nat.le_of_ble_eq_true rfl) rfl ?_
 intro w5 S
 refine We<|Ws<|Ws<|Wg<|M<|Nq Rp_e0<|M<|We ?_
 obtain ⟨v6,hv7⟩:∃ v:Value,v=.slice none 0 0:=⟨_,rfl⟩
 have R8:Sl (α:=(List Str)) H0 v6 []:=by rw [hv7]; exact Sl.nil
 replace S:=(show ∀ {w:World},St w0 H0 w H0 [.box b3 36 [(.slice none 0 0),(.slice none 0 0),(.slice none 0 0),(str []),(.slice none 0 0),(str []),(int 0),(int 0)],.box b1 36 [(.slice none 0 0),vp_e1,vp_e2,(str p_e.fReason),vp_e4,(str p_e.fBody),(int p_e.fRequested),(int p_e.fReceived)]]→St w0 H0 w H0 [.box b3 36 [(.slice none 0 0),(.slice none 0 0),(.slice none 0 0),(str []),(.slice none 0 0),(str []),(int 0),(int 0)],.box b1 36 [v6,vp_e1,vp_e2,(str p_e.fReason),vp_e4,(str p_e.fBody),(int p_e.fRequested),(int p_e.fReceived)]] from fun S=>by rw [hv7]; exact S) S
 replace S:=St.addNilV hv7 S 34 1
 refine B h fun r54 hr55 h=>WP.cut (fun f w=>match r54 with | (m35,m38,m41,m44,m45,m48,m49,m50)=>∃ (H32:Hp) (v36:Value) (v39:Value) (v42:Value) (v46:Value),f 1=(ptr b1 0)∧f 2=(ptr b3 0)∧Sl (α:=(List Str)) H32 v36 m35∧Sl (α:=Str) H32 v39 m38∧Sl (α:=Str) H32 v42 m41∧Sl (α:=GField) H32 v46 m45∧St w0 H0 w H32 [.row v36 34 1 m35.length,.box b3 36 [(.slice none 0 0),(.slice none 0 0),(.slice none 0 0),(str []),(.slice none 0 0),(str []),(int 0),(int 0)],.box b1 36 [v36,v39,v42,(str m44),v46,(str m48),(int m49),(int m50)]]) ?_ ?_
 ·refine Wb ?_
  refine WP.loopM (zDG p_e) (fun s f w=>match s with | (y_14,m16,m19,m22,m25,m26,m29,m30,m31)=>∃ (H9:Hp) (v17:Value) (v20:Value) (v23:Value) (v27:Value),f 1=(ptr b1 0)∧f 2=(ptr b3 0)∧f 9=vp_e0∧f 10=(int (p_e.fKeys.length:Int))∧f 11=(int y_14)∧Sl (α:=(List Str)) H9 vp_e0 p_e.fKeys∧Sl (α:=(List Str)) H9 v17 m16∧Sl (α:=Str) H9 v20 m19∧Sl (α:=Str) H9 v23 m22∧Sl (α:=GField) H9 v27 m26∧St w0 H0 w H9 [.row v17 34 1 m16.length,.box b3 36 [(.slice none 0 0),(.slice none 0 0),(.slice none 0 0),(str []),(.slice none 0 0),(str []),(int 0),(int 0)],.box b1 36 [v17,v20,v23,(str m25),v27,(str m29),(int m30),(int m31)]]) (0,([]:List (List Str)),p_e.fVary,p_e.fSnapshot,p_e.fReason,p_e.fFields,p_e.fBody,p_e.fRequested,p_e.fReceived) r54 hr55 ?_ ?_
  ·exact ⟨H0,v6,vp_e1,vp_e2,vp_e4,rfl,rfl,rfl,rfl,rfl,Rp_e0,R8,Rp_e1,Rp_e2,Rp_e4,S⟩
  intro s f w hI y51 hy52 hy53
  obtain ⟨y_14,m16,m19,m22,m25,m26,m29,m30,m31⟩:=s
  obtain ⟨H9,v17,v20,v23,v27,h10,h11,h12,h13,h15,Rp_e0,R18,R21,R24,R28,S⟩:=hI
  refine Ws<|Wg<|La' h15 h13<|We<|Ws ?_
  rcases condE hy52 with ⟨hc56,hy52⟩ | ⟨hc56,hy52⟩
  ·refine CT hc56<|Wk<|Ws<|Wb<|Ws<|Wg<|B hy52 fun x57 hx57 hy52=>W.idx (α:=(List Str)) Rp_e0 h12 h15 el33 hx57 ?_
   rintro a58 _ hA59 ⟨v60,rfl,R61⟩
   refine Lq S hA59<|A<|We<|WP.draw kr 8 rfl (bm 8 0) rfl ?_
   have S:=S.drew
   refine WA.take (i:=0) (bm 8 1) rfl kr kr kr rfl (fun _=>(R.fieldB h10 zJC)) ?_
   refine WA.take (i:=2) (bm 8 5) rfl kr kr kr rfl (fun _=>(R.mv (v:=v60) rfl)) ?_
   refine WA.two (i:=1) (j:=3) (bm 8 7) (bm 8 13) rfl rfl kr rfl rfl ?_ ?_
   ·refine Lo 2 S<|We<|WA.one (i:=3) (bm 8 15) rfl kr rfl<|B hy52 fun r62 hr62 hy52=>W.call S rfl (zAD S.holds x57 R61 hr62) ?_
    rintro v63 w64 H65 hle66 S R67
    have Rp_e0:=Sl.mono Rp_e0 hle66
    have R61:=Sl.mono R61 hle66
    have R18:=Sl.mono R18 hle66
    have R21:=Sl.mono R21 hle66
    have R24:=Sl.mono R24 hle66
    have R28:=Sl.mono R28 hle66
    refine We<|WA.one (i:=4) (bm 8 31) rfl kr rfl<|W.bslice (α:=(List Str)) [v63] ([r62]:List (List Str)) S el33 rfl rfl rfl (by decide) (Go.Eng.encS ⟨(by rw [Sl.cellsOne R67]; rfl),_,(by rw [Sl.cellsOne R67]),R67⟩ enc0) ?_
    intro u68 w69 H70 hle71 R72 S
    have Rp_e0:=Sl.mono Rp_e0 hle71
    have R61:=Sl.mono R61 hle71
    have R18:=Sl.mono R18 hle71
    have R67:=Sl.mono R67 hle71
    have R21:=Sl.mono R21 hle71
    have R24:=Sl.mono R24 hle71
    have R28:=Sl.mono R28 hle71
    refine We<|WA.one (i:=5) (bm 8 63) rfl kr rfl<|B hy52 fun l73 hl73 hy52=>W.app (α:=(List Str)) (i:=1) S el33 rfl rfl rfl R18 R72 hl73 ?_
    intro v74 w75 H76 hle77 R78 S
    have Rp_e0:=Sl.mono Rp_e0 hle77
    have R61:=Sl.mono R61 hle77
    have R18:=Sl.mono R18 hle77
    have R67:=Sl.mono R67 hle77
    have R72:=Sl.mono R72 hle77
    have R21:=Sl.mono R21 hle77
    have R24:=Sl.mono R24 hle77
    have R28:=Sl.mono R28 hle77
    refine We ?_
    refine WA.take (i:=6) (bm 8 127) rfl kr kr kr rfl (fun _=>(R.fieldB h10 zJC))<|WA.one (i:=7) (bm 8 255) rfl kr rfl ?_
    refine W.storeSl (α:=(List Str)) (i:=3) [v74,v20,v23,(str m25),v27,(str m29),(int m30),(int m31)] S R78 rfl rfl rfl lay33 (Nat.le_of_ble_eq_true rfl) rfl ?_
    intro w79 S
    refine We<|WA.done kr<|Wg<|Lg' h15 rfl<|M<|We ?_
    obtain rfl:=oi hy52
    exact ⟨rfl,⟨H76,v74,v20,v23,v27,h10,h11,h12,h13,rfl,Rp_e0,R78,R21,R24,R28,(S.drop _ (.cons _ (.cons_cons _ (.cons_cons _ (.cons_cons _ .slnil)))))⟩⟩
   refine B hy52 fun r62 hr62 hy52=>W.call S rfl (zAD S.holds x57 R61 hr62) ?_
   rintro v63 w64 H65 hle66 S R67
   have Rp_e0:=Sl.mono Rp_e0 hle66
   have R18:=Sl.mono R18 hle66
   have R21:=Sl.mono R21 hle66
   have R24:=Sl.mono R24 hle66
   have R28:=Sl.mono R28 hle66
   refine We ?_
   refine WA.two (i:=1) (j:=4) (bm 8 15) (bm 8 29) rfl rfl kr rfl rfl ?_ ?_
   ·refine Lo 2 S<|We<|WA.one (i:=4) (bm 8 31) rfl kr rfl<|W.bslice (α:=(List Str)) [v63] ([r62]:List (List Str)) S el33 rfl rfl rfl (by decide) (Go.Eng.encS ⟨(by rw [Sl.cellsOne R67]; rfl),_,(by rw [Sl.cellsOne R67]),R67⟩ enc0) ?_
    intro u68 w69 H70 hle71 R72 S
    have Rp_e0:=Sl.mono Rp_e0 hle71
    have R67:=Sl.mono R67 hle71
    have R18:=Sl.mono R18 hle71
    have R21:=Sl.mono R21 hle71
    have R24:=Sl.mono R24 hle71
    have R28:=Sl.mono R28 hle71
    refine We<|WA.one (i:=5) (bm 8 63) rfl kr rfl<|B hy52 fun l73 hl73 hy52=>W.app (α:=(List Str)) (i:=1) S el33 rfl rfl rfl R18 R72 hl73 ?_
    intro v74 w75 H76 hle77 R78 S
    have Rp_e0:=Sl.mono Rp_e0 hle77
    have R67:=Sl.mono R67 hle77
    have R18:=Sl.mono R18 hle77
    have R72:=Sl.mono R72 hle77
    have R21:=Sl.mono R21 hle77
    have R24:=Sl.mono R24 hle77
    have R28:=Sl.mono R28 hle77
    refine We ?_
    refine WA.take (i:=6) (bm 8 127) rfl kr kr kr rfl (fun _=>(R.fieldB h10 zJC))<|WA.one (i:=7) (bm 8 255) rfl kr rfl ?_
    refine W.storeSl (α:=(List Str)) (i:=3) [v74,v20,v23,(str m25),v27,(str m29),(int m30),(int m31)] S R78 rfl rfl rfl lay33 (Nat.le_of_ble_eq_true rfl) rfl ?_
    intro w79 S
    refine We<|WA.done kr<|Wg<|Lg' h15 rfl<|M<|We ?_
    obtain rfl:=oi hy52
    exact ⟨rfl,⟨H76,v74,v20,v23,v27,h10,h11,h12,h13,rfl,Rp_e0,R78,R21,R24,R28,(S.drop _ (.cons _ (.cons_cons _ (.cons_cons _ (.cons_cons _ .slnil)))))⟩⟩
   refine W.bslice (α:=(List Str)) [v63] ([r62]:List (List Str)) S el33 rfl rfl rfl (by decide) (Go.Eng.encS ⟨(by rw [Sl.cellsOne R67]; rfl),_,(by rw [Sl.cellsOne R67]),R67⟩ enc0) ?_
   intro u68 w69 H70 hle71 R72 S
   have Rp_e0:=Sl.mono Rp_e0 hle71
   have R18:=Sl.mono R18 hle71
   have R21:=Sl.mono R21 hle71
   have R24:=Sl.mono R24 hle71
   have R28:=Sl.mono R28 hle71
   refine We<|WA.one (i:=1) (bm 8 31) rfl kr rfl ?_
   refine Lo 3 S<|We<|WA.one (i:=5) (bm 8 63) rfl kr rfl<|B hy52 fun l73 hl73 hy52=>W.app (α:=(List Str)) (i:=1) S el33 rfl rfl rfl R18 R72 hl73 ?_
   intro v74 w75 H76 hle77 R78 S
   have Rp_e0:=Sl.mono Rp_e0 hle77
   have R18:=Sl.mono R18 hle77
   have R21:=Sl.mono R21 hle77
   have R24:=Sl.mono R24 hle77
   have R28:=Sl.mono R28 hle77
   refine We ?_
   refine WA.take (i:=6) (bm 8 127) rfl kr kr kr rfl (fun _=>(R.fieldB h10 zJC))<|WA.one (i:=7) (bm 8 255) rfl kr rfl ?_
   refine W.storeSl (α:=(List Str)) (i:=3) [v74,v20,v23,(str m25),v27,(str m29),(int m30),(int m31)] S R78 rfl rfl rfl lay33 (Nat.le_of_ble_eq_true rfl) rfl ?_
   intro w79 S
   refine We<|WA.done kr<|Wg<|Lg' h15 rfl<|M<|We ?_
   obtain rfl:=oi hy52
   exact ⟨rfl,⟨H76,v74,v20,v23,v27,h10,h11,h12,h13,rfl,Rp_e0,R78,R21,R24,R28,(S.drop _ (.cons _ (.cons_cons _ (.cons_cons _ (.cons_cons _ .slnil)))))⟩⟩
  refine CF hc56<|Wx ?_
  obtain rfl:=oi hy52
  obtain rfl:=hy53
  exact ⟨H9,v17,v20,v23,v27,h10,h11,R18,R21,R24,R28,S⟩
 intro f w hM
 obtain ⟨m35,m38,m41,m44,m45,m48,m49,m50⟩:=r54
 obtain ⟨H32,v36,v39,v42,v46,h33,h34,R37,R40,R43,R47,S⟩:=hM
 refine Ws<|B h fun r80 hr80 h=>B h fun r86 hr86 h=>B h fun r92 hr92 h=>WP.cut (fun f w=>∃ (H101:Hp) (v105:Value) (v107:Value) (v109:Value),f 1=(ptr b1 0)∧f 2=(ptr b3 0)∧Sl (α:=(List Str)) H101 v36 m35∧Sl (α:=Str) H101 v105 r80∧Sl (α:=Str) H101 v107 r86∧Sl (α:=GField) H101 v109 r92∧St w0 H0 w H101 [.row v36 34 1 m35.length,.box b3 36 [(.slice none 0 0),(.slice none 0 0),(.slice none 0 0),(str []),(.slice none 0 0),(str []),(int 0),(int 0)],.box b1 36 [v36,v105,v107,(str m44),v109,(str m48),(int m49),(int m50)]]) ?_ ?_
 ·refine WP.drawC (Cl w0 H0 H32 [.box b3 36 [(.slice none 0 0),(.slice none 0 0),(.slice none 0 0),(str []),(.slice none 0 0),(str []),(int 0),(int 0)]]) kr 15 rfl (bm 15 0) rfl ?_
  have S:=S.drew
  refine WC.take (i:=0) (bm 15 1) rfl kr kr kr rfl (fun _ _=>(R.fieldB h33 zCf)) ?_
  refine WC.take (i:=3) (bm 15 9) rfl kr kr kr rfl (fun _ _=>(R.fieldB h33 zCn)) ?_
  refine WC.take (i:=6) (bm 15 73) rfl kr kr kr rfl (fun _ _=>(R.fieldB h33 zCd)) ?_
  refine WC.next (rs:=[1,4,7]) ⟨H32,(Hp.le.refl _),S.drop _ (.cons _ (.cons_cons _ (.cons _ .slnil)))⟩ kr (List.cons_ne_nil _ _) (allS ?_ (allS ?_ (all1 ?_)))
  ·refine Nxt.mk (o:=_) (bm 15 75) rfl rfl ?_
   refine Lo 2 S<|We ?_
   refine WC.next (rs:=[2,4,7]) ⟨H32,(Hp.le.refl _),S.drop _ (.cons _ (.cons_cons _ (.cons _ .slnil)))⟩ kr (List.cons_ne_nil _ _) (allS ?_ (allS ?_ (all1 ?_)))
   ·refine Nxt.mk (o:=_) (bm 15 79) rfl rfl<|W.call S rfl (zAD S.holds m38 R40 hr80) ?_
    rintro v111 w112 H113 hle114 S R115
    have R40:=Sl.mono R40 hle114
    have R37:=Sl.mono R37 hle114
    have R43:=Sl.mono R43 hle114
    have R47:=Sl.mono R47 hle114
    refine We ?_
    refine WC.next (rs:=[4,7]) ⟨H113,hle114,S.drop _ (.cons _ (.cons_cons _ (.cons _ .slnil)))⟩ kr (List.cons_ne_nil _ _) (allS ?_ (all1 ?_))
    ·refine Nxt.mk (o:=_) (bm 15 95) rfl rfl ?_
     refine Lo 2 S<|We ?_
     refine WC.next (rs:=[5,7]) ⟨H113,hle114,S.drop _ (.cons _ (.cons_cons _ (.cons _ .slnil)))⟩ kr (List.cons_ne_nil _ _) (allS ?_ (all1 ?_))
     ·refine Nxt.mk (o:=_) (bm 15 127) rfl rfl<|W.call S rfl (zAD S.holds m41 R43 hr86) ?_
      rintro v116 w117 H118 hle119 S R120
      have R40:=Sl.mono R40 hle119
      have R115:=Sl.mono R115 hle119
      have R43:=Sl.mono R43 hle119
      have R37:=Sl.mono R37 hle119
      have R47:=Sl.mono R47 hle119
      refine We ?_
      refine WC.next (rs:=[7]) ⟨H118,(hle114.trans hle119),S.drop _ (.cons _ (.cons_cons _ (.cons _ .slnil)))⟩ kr (List.cons_ne_nil _ _) (all1 ?_)
      refine Nxt.mk (o:=_) (bm 15 255) rfl rfl ?_
      refine Lo 2 S<|We ?_
      refine WC.take (i:=9) (bm 15 767) rfl kr kr kr rfl (fun _ _=>(R.fieldB h33 zCf)) ?_
      refine WC.next (rs:=[8]) ⟨H118,(hle114.trans hle119),S.drop _ (.cons _ (.cons_cons _ (.cons _ .slnil)))⟩ kr (List.cons_ne_nil _ _) (all1 ?_)
      refine Nxt.mk (o:=_) (bm 15 1023) rfl rfl<|W.call S rfl (zAH S.holds m45 R47 hr92) ?_
      rintro v121 w122 H123 hle124 S R125
      have R40:=Sl.mono R40 hle124
      have R115:=Sl.mono R115 hle124
      have R43:=Sl.mono R43 hle124
      have R120:=Sl.mono R120 hle124
      have R47:=Sl.mono R47 hle124
      have R37:=Sl.mono R37 hle124
      refine We ?_
      refine WC.next (rs:=[10]) ⟨H123,((hle114.trans hle119).trans hle124),S.drop _ (.cons _ (.cons_cons _ (.cons _ .slnil)))⟩ kr (List.cons_ne_nil _ _) (all1 ?_)
      refine Nxt.mk (o:=_) (bm 15 2047) rfl rfl ?_
      refine W.storeSl (α:=Str) (i:=2) [v36,v111,v42,(str m44),v46,(str m48),(int m49),(int m50)] S R115 rfl rfl rfl lay34 (Nat.le_of_ble_eq_true rfl) rfl ?_
      intro w126 S
      refine We ?_
      refine WC.take (i:=11) (bm 15 4095) rfl kr kr kr rfl (fun _ _=>(R.fieldB h33 zCn)) ?_
      refine WC.next (rs:=[12]) ⟨H123,((hle114.trans hle119).trans hle124),S.drop _ (.cons _ (.cons_cons _ (.cons _ .slnil)))⟩ kr (List.cons_ne_nil _ _) (all1 ?_)
      refine Nxt.mk (o:=_) (bm 15 8191) rfl rfl ?_
      refine W.storeSl (α:=Str) (i:=2) [v36,v111,v116,(str m44),v46,(str m48),(int m49),(int m50)] S R120 rfl rfl rfl lay34 (Nat.le_of_ble_eq_true rfl) rfl ?_
      intro w127 S
      refine We ?_
      refine WC.take (i:=13) (bm 15 16383) rfl kr kr kr rfl (fun _ _=>(R.fieldB h33 zCd)) ?_
      refine WC.next (rs:=[14]) ⟨H123,((hle114.trans hle119).trans hle124),S.drop _ (.cons _ (.cons_cons _ (.cons _ .slnil)))⟩ kr (List.cons_ne_nil _ _) (all1 ?_)
      refine Nxt.mk (o:=_) (bm 15 32767) rfl rfl ?_
      refine W.storeSl (α:=GField) (i:=2) [v36,v111,v116,(str m44),v121,(str m48),(int m49),(int m50)] S R125 rfl rfl rfl lay26 (Nat.le_of_ble_eq_true rfl) rfl ?_
      intro w128 S
      refine We<|WC.done ⟨H123,((hle114.trans hle119).trans hle124),S.drop _ (.cons _ (.cons_cons _ (.cons _ .slnil)))⟩ kr ?_
      have S3:=S
      replace S3:=S3.front 2 rfl
      replace S3:=S3.front 2 rfl
      replace S3:=S3.front 2 rfl
      replace S3:St w0 H0 _ H123 [.row v36 34 1 m35.length,.box b3 36 [(.slice none 0 0),(.slice none 0 0),(.slice none 0 0),(str []),(.slice none 0 0),(str []),(int 0),(int 0)],.box b1 36 [v36,v111,v116,(str m44),v121,(str m48),(int m49),(int m50)]]:=S3
      replace S3:St w0 H0 _ H123 [.row v36 34 1 m35.length,.box b3 36 [(.slice none 0 0),(.slice none 0 0),(.slice none 0 0),(str []),(.slice none 0 0),(str []),(int 0),(int 0)],.box b1 36 [v36,v111,v116,(str m44),v121,(str m48),(int m49),(int m50)]]:=S3.drop _ (.cons_cons _ (.cons_cons _ (.cons_cons _ .slnil)))
      exact ⟨H123,v111,v116,v121,h33,h34,R37,R115,R120,R125,S3⟩
     refine Nxt.mk (o:=_) (bm 15 223) rfl rfl ?_
     refine Lo 2 S<|We ?_
     refine WC.take (i:=9) (bm 15 735) rfl kr kr kr rfl (fun _ _=>(R.fieldB h33 zCf)) ?_
     refine WC.next (rs:=[5]) ⟨H113,hle114,S.drop _ (.cons _ (.cons_cons _ (.cons _ .slnil)))⟩ kr (List.cons_ne_nil _ _) (all1 ?_)
     refine Nxt.mk (o:=_) (bm 15 767) rfl rfl<|W.call S rfl (zAD S.holds m41 R43 hr86) ?_
     rintro v129 w130 H131 hle132 S R133
     have R40:=Sl.mono R40 hle132
     have R115:=Sl.mono R115 hle132
     have R43:=Sl.mono R43 hle132
     have R47:=Sl.mono R47 hle132
     have R37:=Sl.mono R37 hle132
     refine We ?_
     refine WC.next (rs:=[8]) ⟨H131,(hle114.trans hle132),S.drop _ (.cons _ (.cons_cons _ (.cons _ .slnil)))⟩ kr (List.cons_ne_nil _ _) (all1 ?_)
     refine Nxt.mk (o:=_) (bm 15 1023) rfl rfl<|W.call S rfl (zAH S.holds m45 R47 hr92) ?_
     rintro v134 w135 H136 hle137 S R138
     have R40:=Sl.mono R40 hle137
     have R115:=Sl.mono R115 hle137
     have R43:=Sl.mono R43 hle137
     have R47:=Sl.mono R47 hle137
     have R133:=Sl.mono R133 hle137
     have R37:=Sl.mono R37 hle137
     refine We ?_
     refine WC.next (rs:=[10]) ⟨H136,((hle114.trans hle132).trans hle137),S.drop _ (.cons _ (.cons_cons _ (.cons _ .slnil)))⟩ kr (List.cons_ne_nil _ _) (all1 ?_)
     refine Nxt.mk (o:=_) (bm 15 2047) rfl rfl ?_
     refine W.storeSl (α:=Str) (i:=2) [v36,v111,v42,(str m44),v46,(str m48),(int m49),(int m50)] S R115 rfl rfl rfl lay34 (Nat.le_of_ble_eq_true rfl) rfl ?_
     intro w139 S
     refine We ?_
     refine WC.take (i:=11) (bm 15 4095) rfl kr kr kr rfl (fun _ _=>(R.fieldB h33 zCn)) ?_
     refine WC.next (rs:=[12]) ⟨H136,((hle114.trans hle132).trans hle137),S.drop _ (.cons _ (.cons_cons _ (.cons _ .slnil)))⟩ kr (List.cons_ne_nil _ _) (all1 ?_)
     refine Nxt.mk (o:=_) (bm 15 8191) rfl rfl ?_
     refine W.storeSl (α:=Str) (i:=2) [v36,v111,v129,(str m44),v46,(str m48),(int m49),(int m50)] S R133 rfl rfl rfl lay34 (Nat.le_of_ble_eq_true rfl) rfl ?_
     intro w140 S
     refine We ?_
     refine WC.take (i:=13) (bm 15 16383) rfl kr kr kr rfl (fun _ _=>(R.fieldB h33 zCd)) ?_
     refine WC.next (rs:=[14]) ⟨H136,((hle114.trans hle132).trans hle137),S.drop _ (.cons _ (.cons_cons _ (.cons _ .slnil)))⟩ kr (List.cons_ne_nil _ _) (all1 ?_)
     refine Nxt.mk (o:=_) (bm 15 32767) rfl rfl ?_
     refine W.storeSl (α:=GField) (i:=2) [v36,v111,v129,(str m44),v134,(str m48),(int m49),(int m50)] S R138 rfl rfl rfl lay26 (Nat.le_of_ble_eq_true rfl) rfl ?_
     intro w141 S
     refine We<|WC.done ⟨H136,((hle114.trans hle132).trans hle137),S.drop _ (.cons _ (.cons_cons _ (.cons _ .slnil)))⟩ kr ?_
     have S3:=S
     replace S3:=S3.front 2 rfl
     replace S3:=S3.front 2 rfl
     replace S3:=S3.front 2 rfl
     replace S3:St w0 H0 _ H136 [.row v36 34 1 m35.length,.box b3 36 [(.slice none 0 0),(.slice none 0 0),(.slice none 0 0),(str []),(.slice none 0 0),(str []),(int 0),(int 0)],.box b1 36 [v36,v111,v129,(str m44),v134,(str m48),(int m49),(int m50)]]:=S3
     replace S3:St w0 H0 _ H136 [.row v36 34 1 m35.length,.box b3 36 [(.slice none 0 0),(.slice none 0 0),(.slice none 0 0),(str []),(.slice none 0 0),(str []),(int 0),(int 0)],.box b1 36 [v36,v111,v129,(str m44),v134,(str m48),(int m49),(int m50)]]:=S3.drop _ (.cons_cons _ (.cons_cons _ (.cons_cons _ .slnil)))
     exact ⟨H136,v111,v129,v134,h33,h34,R37,R115,R133,R138,S3⟩
    refine Nxt.mk (o:=_) (bm 15 207) rfl rfl ?_
    refine Lo 2 S<|We ?_
    refine WC.next (rs:=[4]) ⟨H113,hle114,S.drop _ (.cons _ (.cons_cons _ (.cons _ .slnil)))⟩ kr (List.cons_ne_nil _ _) (all1 ?_)
    refine Nxt.mk (o:=_) (bm 15 223) rfl rfl ?_
    refine Lo 2 S<|We ?_
    refine WC.take (i:=9) (bm 15 735) rfl kr kr kr rfl (fun _ _=>(R.fieldB h33 zCf)) ?_
    refine WC.next (rs:=[5]) ⟨H113,hle114,S.drop _ (.cons _ (.cons_cons _ (.cons _ .slnil)))⟩ kr (List.cons_ne_nil _ _) (all1 ?_)
    refine Nxt.mk (o:=_) (bm 15 767) rfl rfl<|W.call S rfl (zAD S.holds m41 R43 hr86) ?_
    rintro v142 w143 H144 hle145 S R146
    have R40:=Sl.mono R40 hle145
    have R115:=Sl.mono R115 hle145
    have R47:=Sl.mono R47 hle145
    have R43:=Sl.mono R43 hle145
    have R37:=Sl.mono R37 hle145
    refine We ?_
    refine WC.next (rs:=[8]) ⟨H144,(hle114.trans hle145),S.drop _ (.cons _ (.cons_cons _ (.cons _ .slnil)))⟩ kr (List.cons_ne_nil _ _) (all1 ?_)
    refine Nxt.mk (o:=_) (bm 15 1023) rfl rfl<|W.call S rfl (zAH S.holds m45 R47 hr92) ?_
    rintro v147 w148 H149 hle150 S R151
    have R40:=Sl.mono R40 hle150
    have R115:=Sl.mono R115 hle150
    have R47:=Sl.mono R47 hle150
    have R43:=Sl.mono R43 hle150
    have R146:=Sl.mono R146 hle150
    have R37:=Sl.mono R37 hle150
    refine We ?_
    refine WC.next (rs:=[10]) ⟨H149,((hle114.trans hle145).trans hle150),S.drop _ (.cons _ (.cons_cons _ (.cons _ .slnil)))⟩ kr (List.cons_ne_nil _ _) (all1 ?_)
    refine Nxt.mk (o:=_) (bm 15 2047) rfl rfl ?_
    refine W.storeSl (α:=Str) (i:=2) [v36,v111,v42,(str m44),v46,(str m48),(int m49),(int m50)] S R115 rfl rfl rfl lay34 (Nat.le_of_ble_eq_true rfl) rfl ?_
    intro w152 S
    refine We ?_
    refine WC.take (i:=11) (bm 15 4095) rfl kr kr kr rfl (fun _ _=>(R.fieldB h33 zCn)) ?_
    refine WC.next (rs:=[12]) ⟨H149,((hle114.trans hle145).trans hle150),S.drop _ (.cons _ (.cons_cons _ (.cons _ .slnil)))⟩ kr (List.cons_ne_nil _ _) (all1 ?_)
    refine Nxt.mk (o:=_) (bm 15 8191) rfl rfl ?_
    refine W.storeSl (α:=Str) (i:=2) [v36,v111,v142,(str m44),v46,(str m48),(int m49),(int m50)] S R146 rfl rfl rfl lay34 (Nat.le_of_ble_eq_true rfl) rfl ?_
    intro w153 S
    refine We ?_
    refine WC.take (i:=13) (bm 15 16383) rfl kr kr kr rfl (fun _ _=>(R.fieldB h33 zCd)) ?_
    refine WC.next (rs:=[14]) ⟨H149,((hle114.trans hle145).trans hle150),S.drop _ (.cons _ (.cons_cons _ (.cons _ .slnil)))⟩ kr (List.cons_ne_nil _ _) (all1 ?_)
    refine Nxt.mk (o:=_) (bm 15 32767) rfl rfl ?_
    refine W.storeSl (α:=GField) (i:=2) [v36,v111,v142,(str m44),v147,(str m48),(int m49),(int m50)] S R151 rfl rfl rfl lay26 (Nat.le_of_ble_eq_true rfl) rfl ?_
    intro w154 S
    refine We<|WC.done ⟨H149,((hle114.trans hle145).trans hle150),S.drop _ (.cons _ (.cons_cons _ (.cons _ .slnil)))⟩ kr ?_
    have S3:=S
    replace S3:=S3.front 2 rfl
    replace S3:=S3.front 2 rfl
    replace S3:=S3.front 2 rfl
    replace S3:St w0 H0 _ H149 [.row v36 34 1 m35.length,.box b3 36 [(.slice none 0 0),(.slice none 0 0),(.slice none 0 0),(str []),(.slice none 0 0),(str []),(int 0),(int 0)],.box b1 36 [v36,v111,v142,(str m44),v147,(str m48),(int m49),(int m50)]]:=S3
    replace S3:St w0 H0 _ H149 [.row v36 34 1 m35.length,.box b3 36 [(.slice none 0 0),(.slice none 0 0),(.slice none 0 0),(str []),(.slice none 0 0),(str []),(int 0),(int 0)],.box b1 36 [v36,v111,v142,(str m44),v147,(str m48),(int m49),(int m50)]]:=S3.drop _ (.cons_cons _ (.cons_cons _ (.cons_cons _ .slnil)))
    exact ⟨H149,v111,v142,v147,h33,h34,R37,R115,R146,R151,S3⟩
   ·refine Nxt.mk (o:=_) (bm 15 91) rfl rfl ?_
    refine Lo 2 S<|We ?_
    refine WC.next (rs:=[2,7]) ⟨H32,(Hp.le.refl _),S.drop _ (.cons _ (.cons_cons _ (.cons _ .slnil)))⟩ kr (List.cons_ne_nil _ _) (allS ?_ (all1 ?_))
    ·refine Nxt.mk (o:=_) (bm 15 95) rfl rfl<|W.call S rfl (zAD S.holds m38 R40 hr80) ?_
     rintro v155 w156 H157 hle158 S R159
     have R40:=Sl.mono R40 hle158
     have R43:=Sl.mono R43 hle158
     have R37:=Sl.mono R37 hle158
     have R47:=Sl.mono R47 hle158
     refine We ?_
     refine WC.next (rs:=[5,7]) ⟨H157,hle158,S.drop _ (.cons _ (.cons_cons _ (.cons _ .slnil)))⟩ kr (List.cons_ne_nil _ _) (allS ?_ (all1 ?_))
     ·refine Nxt.mk (o:=_) (bm 15 127) rfl rfl<|W.call S rfl (zAD S.holds m41 R43 hr86) ?_
      rintro v160 w161 H162 hle163 S R164
      have R40:=Sl.mono R40 hle163
      have R43:=Sl.mono R43 hle163
      have R159:=Sl.mono R159 hle163
      have R37:=Sl.mono R37 hle163
      have R47:=Sl.mono R47 hle163
      refine We ?_
      refine WC.next (rs:=[7]) ⟨H162,(hle158.trans hle163),S.drop _ (.cons _ (.cons_cons _ (.cons _ .slnil)))⟩ kr (List.cons_ne_nil _ _) (all1 ?_)
      refine Nxt.mk (o:=_) (bm 15 255) rfl rfl ?_
      refine Lo 2 S<|We ?_
      refine WC.take (i:=9) (bm 15 767) rfl kr kr kr rfl (fun _ _=>(R.fieldB h33 zCf)) ?_
      refine WC.next (rs:=[8]) ⟨H162,(hle158.trans hle163),S.drop _ (.cons _ (.cons_cons _ (.cons _ .slnil)))⟩ kr (List.cons_ne_nil _ _) (all1 ?_)
      refine Nxt.mk (o:=_) (bm 15 1023) rfl rfl<|W.call S rfl (zAH S.holds m45 R47 hr92) ?_
      rintro v165 w166 H167 hle168 S R169
      have R40:=Sl.mono R40 hle168
      have R43:=Sl.mono R43 hle168
      have R159:=Sl.mono R159 hle168
      have R164:=Sl.mono R164 hle168
      have R47:=Sl.mono R47 hle168
      have R37:=Sl.mono R37 hle168
      refine We ?_
      refine WC.next (rs:=[10]) ⟨H167,((hle158.trans hle163).trans hle168),S.drop _ (.cons _ (.cons_cons _ (.cons _ .slnil)))⟩ kr (List.cons_ne_nil _ _) (all1 ?_)
      refine Nxt.mk (o:=_) (bm 15 2047) rfl rfl ?_
      refine W.storeSl (α:=Str) (i:=2) [v36,v155,v42,(str m44),v46,(str m48),(int m49),(int m50)] S R159 rfl rfl rfl lay34 (Nat.le_of_ble_eq_true rfl) rfl ?_
      intro w170 S
      refine We ?_
      refine WC.take (i:=11) (bm 15 4095) rfl kr kr kr rfl (fun _ _=>(R.fieldB h33 zCn)) ?_
      refine WC.next (rs:=[12]) ⟨H167,((hle158.trans hle163).trans hle168),S.drop _ (.cons _ (.cons_cons _ (.cons _ .slnil)))⟩ kr (List.cons_ne_nil _ _) (all1 ?_)
      refine Nxt.mk (o:=_) (bm 15 8191) rfl rfl ?_
      refine W.storeSl (α:=Str) (i:=2) [v36,v155,v160,(str m44),v46,(str m48),(int m49),(int m50)] S R164 rfl rfl rfl lay34 (Nat.le_of_ble_eq_true rfl) rfl ?_
      intro w171 S
      refine We ?_
      refine WC.take (i:=13) (bm 15 16383) rfl kr kr kr rfl (fun _ _=>(R.fieldB h33 zCd)) ?_
      refine WC.next (rs:=[14]) ⟨H167,((hle158.trans hle163).trans hle168),S.drop _ (.cons _ (.cons_cons _ (.cons _ .slnil)))⟩ kr (List.cons_ne_nil _ _) (all1 ?_)
      refine Nxt.mk (o:=_) (bm 15 32767) rfl rfl ?_
      refine W.storeSl (α:=GField) (i:=2) [v36,v155,v160,(str m44),v165,(str m48),(int m49),(int m50)] S R169 rfl rfl rfl lay26 (Nat.le_of_ble_eq_true rfl) rfl ?_
      intro w172 S
      refine We<|WC.done ⟨H167,((hle158.trans hle163).trans hle168),S.drop _ (.cons _ (.cons_cons _ (.cons _ .slnil)))⟩ kr ?_
      have S3:=S
      replace S3:=S3.front 2 rfl
      replace S3:=S3.front 2 rfl
      replace S3:=S3.front 2 rfl
      replace S3:St w0 H0 _ H167 [.row v36 34 1 m35.length,.box b3 36 [(.slice none 0 0),(.slice none 0 0),(.slice none 0 0),(str []),(.slice none 0 0),(str []),(int 0),(int 0)],.box b1 36 [v36,v155,v160,(str m44),v165,(str m48),(int m49),(int m50)]]:=S3
      replace S3:St w0 H0 _ H167 [.row v36 34 1 m35.length,.box b3 36 [(.slice none 0 0),(.slice none 0 0),(.slice none 0 0),(str []),(.slice none 0 0),(str []),(int 0),(int 0)],.box b1 36 [v36,v155,v160,(str m44),v165,(str m48),(int m49),(int m50)]]:=S3.drop _ (.cons_cons _ (.cons_cons _ (.cons_cons _ .slnil)))
      exact ⟨H167,v155,v160,v165,h33,h34,R37,R159,R164,R169,S3⟩
     refine Nxt.mk (o:=_) (bm 15 223) rfl rfl ?_
     refine Lo 2 S<|We ?_
     refine WC.take (i:=9) (bm 15 735) rfl kr kr kr rfl (fun _ _=>(R.fieldB h33 zCf)) ?_
     refine WC.next (rs:=[5]) ⟨H157,hle158,S.drop _ (.cons _ (.cons_cons _ (.cons _ .slnil)))⟩ kr (List.cons_ne_nil _ _) (all1 ?_)
     refine Nxt.mk (o:=_) (bm 15 767) rfl rfl<|W.call S rfl (zAD S.holds m41 R43 hr86) ?_
     rintro v173 w174 H175 hle176 S R177
     have R40:=Sl.mono R40 hle176
     have R43:=Sl.mono R43 hle176
     have R159:=Sl.mono R159 hle176
     have R47:=Sl.mono R47 hle176
     have R37:=Sl.mono R37 hle176
     refine We ?_
     refine WC.next (rs:=[8]) ⟨H175,(hle158.trans hle176),S.drop _ (.cons _ (.cons_cons _ (.cons _ .slnil)))⟩ kr (List.cons_ne_nil _ _) (all1 ?_)
     refine Nxt.mk (o:=_) (bm 15 1023) rfl rfl<|W.call S rfl (zAH S.holds m45 R47 hr92) ?_
     rintro v178 w179 H180 hle181 S R182
     have R40:=Sl.mono R40 hle181
     have R43:=Sl.mono R43 hle181
     have R159:=Sl.mono R159 hle181
     have R47:=Sl.mono R47 hle181
     have R177:=Sl.mono R177 hle181
     have R37:=Sl.mono R37 hle181
     refine We ?_
     refine WC.next (rs:=[10]) ⟨H180,((hle158.trans hle176).trans hle181),S.drop _ (.cons _ (.cons_cons _ (.cons _ .slnil)))⟩ kr (List.cons_ne_nil _ _) (all1 ?_)
     refine Nxt.mk (o:=_) (bm 15 2047) rfl rfl ?_
     refine W.storeSl (α:=Str) (i:=2) [v36,v155,v42,(str m44),v46,(str m48),(int m49),(int m50)] S R159 rfl rfl rfl lay34 (Nat.le_of_ble_eq_true rfl) rfl ?_
     intro w183 S
     refine We ?_
     refine WC.take (i:=11) (bm 15 4095) rfl kr kr kr rfl (fun _ _=>(R.fieldB h33 zCn)) ?_
     refine WC.next (rs:=[12]) ⟨H180,((hle158.trans hle176).trans hle181),S.drop _ (.cons _ (.cons_cons _ (.cons _ .slnil)))⟩ kr (List.cons_ne_nil _ _) (all1 ?_)
     refine Nxt.mk (o:=_) (bm 15 8191) rfl rfl ?_
     refine W.storeSl (α:=Str) (i:=2) [v36,v155,v173,(str m44),v46,(str m48),(int m49),(int m50)] S R177 rfl rfl rfl lay34 (Nat.le_of_ble_eq_true rfl) rfl ?_
     intro w184 S
     refine We ?_
     refine WC.take (i:=13) (bm 15 16383) rfl kr kr kr rfl (fun _ _=>(R.fieldB h33 zCd)) ?_
     refine WC.next (rs:=[14]) ⟨H180,((hle158.trans hle176).trans hle181),S.drop _ (.cons _ (.cons_cons _ (.cons _ .slnil)))⟩ kr (List.cons_ne_nil _ _) (all1 ?_)
     refine Nxt.mk (o:=_) (bm 15 32767) rfl rfl ?_
     refine W.storeSl (α:=GField) (i:=2) [v36,v155,v173,(str m44),v178,(str m48),(int m49),(int m50)] S R182 rfl rfl rfl lay26 (Nat.le_of_ble_eq_true rfl) rfl ?_
     intro w185 S
     refine We<|WC.done ⟨H180,((hle158.trans hle176).trans hle181),S.drop _ (.cons _ (.cons_cons _ (.cons _ .slnil)))⟩ kr ?_
     have S3:=S
     replace S3:=S3.front 2 rfl
     replace S3:=S3.front 2 rfl
     replace S3:=S3.front 2 rfl
     replace S3:St w0 H0 _ H180 [.row v36 34 1 m35.length,.box b3 36 [(.slice none 0 0),(.slice none 0 0),(.slice none 0 0),(str []),(.slice none 0 0),(str []),(int 0),(int 0)],.box b1 36 [v36,v155,v173,(str m44),v178,(str m48),(int m49),(int m50)]]:=S3
     replace S3:St w0 H0 _ H180 [.row v36 34 1 m35.length,.box b3 36 [(.slice none 0 0),(.slice none 0 0),(.slice none 0 0),(str []),(.slice none 0 0),(str []),(int 0),(int 0)],.box b1 36 [v36,v155,v173,(str m44),v178,(str m48),(int m49),(int m50)]]:=S3.drop _ (.cons_cons _ (.cons_cons _ (.cons_cons _ .slnil)))
     exact ⟨H180,v155,v173,v178,h33,h34,R37,R159,R177,R182,S3⟩
    refine Nxt.mk (o:=_) (bm 15 219) rfl rfl ?_
    refine Lo 2 S<|We ?_
    refine WC.next (rs:=[2]) ⟨H32,(Hp.le.refl _),S.drop _ (.cons _ (.cons_cons _ (.cons _ .slnil)))⟩ kr (List.cons_ne_nil _ _) (all1 ?_)
    refine Nxt.mk (o:=_) (bm 15 223) rfl rfl<|W.call S rfl (zAD S.holds m38 R40 hr80) ?_
    rintro v186 w187 H188 hle189 S R190
    have R40:=Sl.mono R40 hle189
    have R43:=Sl.mono R43 hle189
    have R47:=Sl.mono R47 hle189
    have R37:=Sl.mono R37 hle189
    refine We ?_
    refine WC.take (i:=9) (bm 15 735) rfl kr kr kr rfl (fun _ _=>(R.fieldB h33 zCf)) ?_
    refine WC.next (rs:=[5]) ⟨H188,hle189,S.drop _ (.cons _ (.cons_cons _ (.cons _ .slnil)))⟩ kr (List.cons_ne_nil _ _) (all1 ?_)
    refine Nxt.mk (o:=_) (bm 15 767) rfl rfl<|W.call S rfl (zAD S.holds m41 R43 hr86) ?_
    rintro v191 w192 H193 hle194 S R195
    have R40:=Sl.mono R40 hle194
    have R43:=Sl.mono R43 hle194
    have R47:=Sl.mono R47 hle194
    have R190:=Sl.mono R190 hle194
    have R37:=Sl.mono R37 hle194
    refine We ?_
    refine WC.next (rs:=[8]) ⟨H193,(hle189.trans hle194),S.drop _ (.cons _ (.cons_cons _ (.cons _ .slnil)))⟩ kr (List.cons_ne_nil _ _) (all1 ?_)
    refine Nxt.mk (o:=_) (bm 15 1023) rfl rfl<|W.call S rfl (zAH S.holds m45 R47 hr92) ?_
    rintro v196 w197 H198 hle199 S R200
    have R40:=Sl.mono R40 hle199
    have R43:=Sl.mono R43 hle199
    have R47:=Sl.mono R47 hle199
    have R190:=Sl.mono R190 hle199
    have R195:=Sl.mono R195 hle199
    have R37:=Sl.mono R37 hle199
    refine We ?_
    refine WC.next (rs:=[10]) ⟨H198,((hle189.trans hle194).trans hle199),S.drop _ (.cons _ (.cons_cons _ (.cons _ .slnil)))⟩ kr (List.cons_ne_nil _ _) (all1 ?_)
    refine Nxt.mk (o:=_) (bm 15 2047) rfl rfl ?_
    refine W.storeSl (α:=Str) (i:=2) [v36,v186,v42,(str m44),v46,(str m48),(int m49),(int m50)] S R190 rfl rfl rfl lay34 (Nat.le_of_ble_eq_true rfl) rfl ?_
    intro w201 S
    refine We ?_
    refine WC.take (i:=11) (bm 15 4095) rfl kr kr kr rfl (fun _ _=>(R.fieldB h33 zCn)) ?_
    refine WC.next (rs:=[12]) ⟨H198,((hle189.trans hle194).trans hle199),S.drop _ (.cons _ (.cons_cons _ (.cons _ .slnil)))⟩ kr (List.cons_ne_nil _ _) (all1 ?_)
    refine Nxt.mk (o:=_) (bm 15 8191) rfl rfl ?_
    refine W.storeSl (α:=Str) (i:=2) [v36,v186,v191,(str m44),v46,(str m48),(int m49),(int m50)] S R195 rfl rfl rfl lay34 (Nat.le_of_ble_eq_true rfl) rfl ?_
    intro w202 S
    refine We ?_
    refine WC.take (i:=13) (bm 15 16383) rfl kr kr kr rfl (fun _ _=>(R.fieldB h33 zCd)) ?_
    refine WC.next (rs:=[14]) ⟨H198,((hle189.trans hle194).trans hle199),S.drop _ (.cons _ (.cons_cons _ (.cons _ .slnil)))⟩ kr (List.cons_ne_nil _ _) (all1 ?_)
    refine Nxt.mk (o:=_) (bm 15 32767) rfl rfl ?_
    refine W.storeSl (α:=GField) (i:=2) [v36,v186,v191,(str m44),v196,(str m48),(int m49),(int m50)] S R200 rfl rfl rfl lay26 (Nat.le_of_ble_eq_true rfl) rfl ?_
    intro w203 S
    refine We<|WC.done ⟨H198,((hle189.trans hle194).trans hle199),S.drop _ (.cons _ (.cons_cons _ (.cons _ .slnil)))⟩ kr ?_
    have S3:=S
    replace S3:=S3.front 2 rfl
    replace S3:=S3.front 2 rfl
    replace S3:=S3.front 2 rfl
    replace S3:St w0 H0 _ H198 [.row v36 34 1 m35.length,.box b3 36 [(.slice none 0 0),(.slice none 0 0),(.slice none 0 0),(str []),(.slice none 0 0),(str []),(int 0),(int 0)],.box b1 36 [v36,v186,v191,(str m44),v196,(str m48),(int m49),(int m50)]]:=S3
    replace S3:St w0 H0 _ H198 [.row v36 34 1 m35.length,.box b3 36 [(.slice none 0 0),(.slice none 0 0),(.slice none 0 0),(str []),(.slice none 0 0),(str []),(int 0),(int 0)],.box b1 36 [v36,v186,v191,(str m44),v196,(str m48),(int m49),(int m50)]]:=S3.drop _ (.cons_cons _ (.cons_cons _ (.cons_cons _ .slnil)))
    exact ⟨H198,v186,v191,v196,h33,h34,R37,R190,R195,R200,S3⟩
   refine Nxt.mk (o:=_) (bm 15 203) rfl rfl ?_
   refine Lo 2 S<|We ?_
   refine WC.next (rs:=[2,4]) ⟨H32,(Hp.le.refl _),S.drop _ (.cons _ (.cons_cons _ (.cons _ .slnil)))⟩ kr (List.cons_ne_nil _ _) (allS ?_ (all1 ?_))
   ·refine Nxt.mk (o:=_) (bm 15 207) rfl rfl<|W.call S rfl (zAD S.holds m38 R40 hr80) ?_
    rintro v204 w205 H206 hle207 S R208
    have R40:=Sl.mono R40 hle207
    have R47:=Sl.mono R47 hle207
    have R37:=Sl.mono R37 hle207
    have R43:=Sl.mono R43 hle207
    refine We ?_
    refine WC.next (rs:=[4]) ⟨H206,hle207,S.drop _ (.cons _ (.cons_cons _ (.cons _ .slnil)))⟩ kr (List.cons_ne_nil _ _) (all1 ?_)
    refine Nxt.mk (o:=_) (bm 15 223) rfl rfl ?_
    refine Lo 2 S<|We ?_
    refine WC.take (i:=9) (bm 15 735) rfl kr kr kr rfl (fun _ _=>(R.fieldB h33 zCf)) ?_
    refine WC.next (rs:=[5]) ⟨H206,hle207,S.drop _ (.cons _ (.cons_cons _ (.cons _ .slnil)))⟩ kr (List.cons_ne_nil _ _) (all1 ?_)
    refine Nxt.mk (o:=_) (bm 15 767) rfl rfl<|W.call S rfl (zAD S.holds m41 R43 hr86) ?_
    rintro v209 w210 H211 hle212 S R213
    have R40:=Sl.mono R40 hle212
    have R47:=Sl.mono R47 hle212
    have R208:=Sl.mono R208 hle212
    have R43:=Sl.mono R43 hle212
    have R37:=Sl.mono R37 hle212
    refine We ?_
    refine WC.next (rs:=[8]) ⟨H211,(hle207.trans hle212),S.drop _ (.cons _ (.cons_cons _ (.cons _ .slnil)))⟩ kr (List.cons_ne_nil _ _) (all1 ?_)
    refine Nxt.mk (o:=_) (bm 15 1023) rfl rfl<|W.call S rfl (zAH S.holds m45 R47 hr92) ?_
    rintro v214 w215 H216 hle217 S R218
    have R40:=Sl.mono R40 hle217
    have R47:=Sl.mono R47 hle217
    have R208:=Sl.mono R208 hle217
    have R43:=Sl.mono R43 hle217
    have R213:=Sl.mono R213 hle217
    have R37:=Sl.mono R37 hle217
    refine We ?_
    refine WC.next (rs:=[10]) ⟨H216,((hle207.trans hle212).trans hle217),S.drop _ (.cons _ (.cons_cons _ (.cons _ .slnil)))⟩ kr (List.cons_ne_nil _ _) (all1 ?_)
    refine Nxt.mk (o:=_) (bm 15 2047) rfl rfl ?_
    refine W.storeSl (α:=Str) (i:=2) [v36,v204,v42,(str m44),v46,(str m48),(int m49),(int m50)] S R208 rfl rfl rfl lay34 (Nat.le_of_ble_eq_true rfl) rfl ?_
    intro w219 S
    refine We ?_
    refine WC.take (i:=11) (bm 15 4095) rfl kr kr kr rfl (fun _ _=>(R.fieldB h33 zCn)) ?_
    refine WC.next (rs:=[12]) ⟨H216,((hle207.trans hle212).trans hle217),S.drop _ (.cons _ (.cons_cons _ (.cons _ .slnil)))⟩ kr (List.cons_ne_nil _ _) (all1 ?_)
    refine Nxt.mk (o:=_) (bm 15 8191) rfl rfl ?_
    refine W.storeSl (α:=Str) (i:=2) [v36,v204,v209,(str m44),v46,(str m48),(int m49),(int m50)] S R213 rfl rfl rfl lay34 (Nat.le_of_ble_eq_true rfl) rfl ?_
    intro w220 S
    refine We ?_
    refine WC.take (i:=13) (bm 15 16383) rfl kr kr kr rfl (fun _ _=>(R.fieldB h33 zCd)) ?_
    refine WC.next (rs:=[14]) ⟨H216,((hle207.trans hle212).trans hle217),S.drop _ (.cons _ (.cons_cons _ (.cons _ .slnil)))⟩ kr (List.cons_ne_nil _ _) (all1 ?_)
    refine Nxt.mk (o:=_) (bm 15 32767) rfl rfl ?_
    refine W.storeSl (α:=GField) (i:=2) [v36,v204,v209,(str m44),v214,(str m48),(int m49),(int m50)] S R218 rfl rfl rfl lay26 (Nat.le_of_ble_eq_true rfl) rfl ?_
    intro w221 S
    refine We<|WC.done ⟨H216,((hle207.trans hle212).trans hle217),S.drop _ (.cons _ (.cons_cons _ (.cons _ .slnil)))⟩ kr ?_
    have S3:=S
    replace S3:=S3.front 2 rfl
    replace S3:=S3.front 2 rfl
    replace S3:=S3.front 2 rfl
    replace S3:St w0 H0 _ H216 [.row v36 34 1 m35.length,.box b3 36 [(.slice none 0 0),(.slice none 0 0),(.slice none 0 0),(str []),(.slice none 0 0),(str []),(int 0),(int 0)],.box b1 36 [v36,v204,v209,(str m44),v214,(str m48),(int m49),(int m50)]]:=S3
    replace S3:St w0 H0 _ H216 [.row v36 34 1 m35.length,.box b3 36 [(.slice none 0 0),(.slice none 0 0),(.slice none 0 0),(str []),(.slice none 0 0),(str []),(int 0),(int 0)],.box b1 36 [v36,v204,v209,(str m44),v214,(str m48),(int m49),(int m50)]]:=S3.drop _ (.cons_cons _ (.cons_cons _ (.cons_cons _ .slnil)))
    exact ⟨H216,v204,v209,v214,h33,h34,R37,R208,R213,R218,S3⟩
   refine Nxt.mk (o:=_) (bm 15 219) rfl rfl ?_
   refine Lo 2 S<|We ?_
   refine WC.next (rs:=[2]) ⟨H32,(Hp.le.refl _),S.drop _ (.cons _ (.cons_cons _ (.cons _ .slnil)))⟩ kr (List.cons_ne_nil _ _) (all1 ?_)
   refine Nxt.mk (o:=_) (bm 15 223) rfl rfl<|W.call S rfl (zAD S.holds m38 R40 hr80) ?_
   rintro v222 w223 H224 hle225 S R226
   have R40:=Sl.mono R40 hle225
   have R47:=Sl.mono R47 hle225
   have R43:=Sl.mono R43 hle225
   have R37:=Sl.mono R37 hle225
   refine We ?_
   refine WC.take (i:=9) (bm 15 735) rfl kr kr kr rfl (fun _ _=>(R.fieldB h33 zCf)) ?_
   refine WC.next (rs:=[5]) ⟨H224,hle225,S.drop _ (.cons _ (.cons_cons _ (.cons _ .slnil)))⟩ kr (List.cons_ne_nil _ _) (all1 ?_)
   refine Nxt.mk (o:=_) (bm 15 767) rfl rfl<|W.call S rfl (zAD S.holds m41 R43 hr86) ?_
   rintro v227 w228 H229 hle230 S R231
   have R40:=Sl.mono R40 hle230
   have R47:=Sl.mono R47 hle230
   have R43:=Sl.mono R43 hle230
   have R226:=Sl.mono R226 hle230
   have R37:=Sl.mono R37 hle230
   refine We ?_
   refine WC.next (rs:=[8]) ⟨H229,(hle225.trans hle230),S.drop _ (.cons _ (.cons_cons _ (.cons _ .slnil)))⟩ kr (List.cons_ne_nil _ _) (all1 ?_)
   refine Nxt.mk (o:=_) (bm 15 1023) rfl rfl<|W.call S rfl (zAH S.holds m45 R47 hr92) ?_
   rintro v232 w233 H234 hle235 S R236
   have R40:=Sl.mono R40 hle235
   have R47:=Sl.mono R47 hle235
   have R43:=Sl.mono R43 hle235
   have R226:=Sl.mono R226 hle235
   have R231:=Sl.mono R231 hle235
   have R37:=Sl.mono R37 hle235
   refine We ?_
   refine WC.next (rs:=[10]) ⟨H234,((hle225.trans hle230).trans hle235),S.drop _ (.cons _ (.cons_cons _ (.cons _ .slnil)))⟩ kr (List.cons_ne_nil _ _) (all1 ?_)
   refine Nxt.mk (o:=_) (bm 15 2047) rfl rfl ?_
   refine W.storeSl (α:=Str) (i:=2) [v36,v222,v42,(str m44),v46,(str m48),(int m49),(int m50)] S R226 rfl rfl rfl lay34 (Nat.le_of_ble_eq_true rfl) rfl ?_
   intro w237 S
   refine We ?_
   refine WC.take (i:=11) (bm 15 4095) rfl kr kr kr rfl (fun _ _=>(R.fieldB h33 zCn)) ?_
   refine WC.next (rs:=[12]) ⟨H234,((hle225.trans hle230).trans hle235),S.drop _ (.cons _ (.cons_cons _ (.cons _ .slnil)))⟩ kr (List.cons_ne_nil _ _) (all1 ?_)
   refine Nxt.mk (o:=_) (bm 15 8191) rfl rfl ?_
   refine W.storeSl (α:=Str) (i:=2) [v36,v222,v227,(str m44),v46,(str m48),(int m49),(int m50)] S R231 rfl rfl rfl lay34 (Nat.le_of_ble_eq_true rfl) rfl ?_
   intro w238 S
   refine We ?_
   refine WC.take (i:=13) (bm 15 16383) rfl kr kr kr rfl (fun _ _=>(R.fieldB h33 zCd)) ?_
   refine WC.next (rs:=[14]) ⟨H234,((hle225.trans hle230).trans hle235),S.drop _ (.cons _ (.cons_cons _ (.cons _ .slnil)))⟩ kr (List.cons_ne_nil _ _) (all1 ?_)
   refine Nxt.mk (o:=_) (bm 15 32767) rfl rfl ?_
   refine W.storeSl (α:=GField) (i:=2) [v36,v222,v227,(str m44),v232,(str m48),(int m49),(int m50)] S R236 rfl rfl rfl lay26 (Nat.le_of_ble_eq_true rfl) rfl ?_
   intro w239 S
   refine We<|WC.done ⟨H234,((hle225.trans hle230).trans hle235),S.drop _ (.cons _ (.cons_cons _ (.cons _ .slnil)))⟩ kr ?_
   have S3:=S
   replace S3:=S3.front 2 rfl
   replace S3:=S3.front 2 rfl
   replace S3:=S3.front 2 rfl
   replace S3:St w0 H0 _ H234 [.row v36 34 1 m35.length,.box b3 36 [(.slice none 0 0),(.slice none 0 0),(.slice none 0 0),(str []),(.slice none 0 0),(str []),(int 0),(int 0)],.box b1 36 [v36,v222,v227,(str m44),v232,(str m48),(int m49),(int m50)]]:=S3
   replace S3:St w0 H0 _ H234 [.row v36 34 1 m35.length,.box b3 36 [(.slice none 0 0),(.slice none 0 0),(.slice none 0 0),(str []),(.slice none 0 0),(str []),(int 0),(int 0)],.box b1 36 [v36,v222,v227,(str m44),v232,(str m48),(int m49),(int m50)]]:=S3.drop _ (.cons_cons _ (.cons_cons _ (.cons_cons _ .slnil)))
   exact ⟨H234,v222,v227,v232,h33,h34,R37,R226,R231,R236,S3⟩
  ·refine Nxt.mk (o:=_) (bm 15 89) rfl rfl ?_
   refine Lo 2 S<|We ?_
   refine WC.next (rs:=[1,7]) ⟨H32,(Hp.le.refl _),S.drop _ (.cons _ (.cons_cons _ (.cons _ .slnil)))⟩ kr (List.cons_ne_nil _ _) (allS ?_ (all1 ?_))
   ·refine Nxt.mk (o:=_) (bm 15 91) rfl rfl ?_
    refine Lo 2 S<|We ?_
    refine WC.next (rs:=[2,7]) ⟨H32,(Hp.le.refl _),S.drop _ (.cons _ (.cons_cons _ (.cons _ .slnil)))⟩ kr (List.cons_ne_nil _ _) (allS ?_ (all1 ?_))
    ·refine Nxt.mk (o:=_) (bm 15 95) rfl rfl<|W.call S rfl (zAD S.holds m38 R40 hr80) ?_
     rintro v240 w241 H242 hle243 S R244
     have R43:=Sl.mono R43 hle243
     have R40:=Sl.mono R40 hle243
     have R37:=Sl.mono R37 hle243
     have R47:=Sl.mono R47 hle243
     refine We ?_
     refine WC.next (rs:=[5,7]) ⟨H242,hle243,S.drop _ (.cons _ (.cons_cons _ (.cons _ .slnil)))⟩ kr (List.cons_ne_nil _ _) (allS ?_ (all1 ?_))
     ·refine Nxt.mk (o:=_) (bm 15 127) rfl rfl<|W.call S rfl (zAD S.holds m41 R43 hr86) ?_
      rintro v245 w246 H247 hle248 S R249
      have R43:=Sl.mono R43 hle248
      have R40:=Sl.mono R40 hle248
      have R244:=Sl.mono R244 hle248
      have R37:=Sl.mono R37 hle248
      have R47:=Sl.mono R47 hle248
      refine We ?_
      refine WC.next (rs:=[7]) ⟨H247,(hle243.trans hle248),S.drop _ (.cons _ (.cons_cons _ (.cons _ .slnil)))⟩ kr (List.cons_ne_nil _ _) (all1 ?_)
      refine Nxt.mk (o:=_) (bm 15 255) rfl rfl ?_
      refine Lo 2 S<|We ?_
      refine WC.take (i:=9) (bm 15 767) rfl kr kr kr rfl (fun _ _=>(R.fieldB h33 zCf)) ?_
      refine WC.next (rs:=[8]) ⟨H247,(hle243.trans hle248),S.drop _ (.cons _ (.cons_cons _ (.cons _ .slnil)))⟩ kr (List.cons_ne_nil _ _) (all1 ?_)
      refine Nxt.mk (o:=_) (bm 15 1023) rfl rfl<|W.call S rfl (zAH S.holds m45 R47 hr92) ?_
      rintro v250 w251 H252 hle253 S R254
      have R43:=Sl.mono R43 hle253
      have R40:=Sl.mono R40 hle253
      have R244:=Sl.mono R244 hle253
      have R249:=Sl.mono R249 hle253
      have R47:=Sl.mono R47 hle253
      have R37:=Sl.mono R37 hle253
      refine We ?_
      refine WC.next (rs:=[10]) ⟨H252,((hle243.trans hle248).trans hle253),S.drop _ (.cons _ (.cons_cons _ (.cons _ .slnil)))⟩ kr (List.cons_ne_nil _ _) (all1 ?_)
      refine Nxt.mk (o:=_) (bm 15 2047) rfl rfl ?_
      refine W.storeSl (α:=Str) (i:=2) [v36,v240,v42,(str m44),v46,(str m48),(int m49),(int m50)] S R244 rfl rfl rfl lay34 (Nat.le_of_ble_eq_true rfl) rfl ?_
      intro w255 S
      refine We ?_
      refine WC.take (i:=11) (bm 15 4095) rfl kr kr kr rfl (fun _ _=>(R.fieldB h33 zCn)) ?_
      refine WC.next (rs:=[12]) ⟨H252,((hle243.trans hle248).trans hle253),S.drop _ (.cons _ (.cons_cons _ (.cons _ .slnil)))⟩ kr (List.cons_ne_nil _ _) (all1 ?_)
      refine Nxt.mk (o:=_) (bm 15 8191) rfl rfl ?_
      refine W.storeSl (α:=Str) (i:=2) [v36,v240,v245,(str m44),v46,(str m48),(int m49),(int m50)] S R249 rfl rfl rfl lay34 (Nat.le_of_ble_eq_true rfl) rfl ?_
      intro w256 S
      refine We ?_
      refine WC.take (i:=13) (bm 15 16383) rfl kr kr kr rfl (fun _ _=>(R.fieldB h33 zCd)) ?_
      refine WC.next (rs:=[14]) ⟨H252,((hle243.trans hle248).trans hle253),S.drop _ (.cons _ (.cons_cons _ (.cons _ .slnil)))⟩ kr (List.cons_ne_nil _ _) (all1 ?_)
      refine Nxt.mk (o:=_) (bm 15 32767) rfl rfl ?_
      refine W.storeSl (α:=GField) (i:=2) [v36,v240,v245,(str m44),v250,(str m48),(int m49),(int m50)] S R254 rfl rfl rfl lay26 (Nat.le_of_ble_eq_true rfl) rfl ?_
      intro w257 S
      refine We<|WC.done ⟨H252,((hle243.trans hle248).trans hle253),S.drop _ (.cons _ (.cons_cons _ (.cons _ .slnil)))⟩ kr ?_
      have S3:=S
      replace S3:=S3.front 2 rfl
      replace S3:=S3.front 2 rfl
      replace S3:=S3.front 2 rfl
      replace S3:St w0 H0 _ H252 [.row v36 34 1 m35.length,.box b3 36 [(.slice none 0 0),(.slice none 0 0),(.slice none 0 0),(str []),(.slice none 0 0),(str []),(int 0),(int 0)],.box b1 36 [v36,v240,v245,(str m44),v250,(str m48),(int m49),(int m50)]]:=S3
      replace S3:St w0 H0 _ H252 [.row v36 34 1 m35.length,.box b3 36 [(.slice none 0 0),(.slice none 0 0),(.slice none 0 0),(str []),(.slice none 0 0),(str []),(int 0),(int 0)],.box b1 36 [v36,v240,v245,(str m44),v250,(str m48),(int m49),(int m50)]]:=S3.drop _ (.cons_cons _ (.cons_cons _ (.cons_cons _ .slnil)))
      exact ⟨H252,v240,v245,v250,h33,h34,R37,R244,R249,R254,S3⟩
     refine Nxt.mk (o:=_) (bm 15 223) rfl rfl ?_
     refine Lo 2 S<|We ?_
     refine WC.take (i:=9) (bm 15 735) rfl kr kr kr rfl (fun _ _=>(R.fieldB h33 zCf)) ?_
     refine WC.next (rs:=[5]) ⟨H242,hle243,S.drop _ (.cons _ (.cons_cons _ (.cons _ .slnil)))⟩ kr (List.cons_ne_nil _ _) (all1 ?_)
     refine Nxt.mk (o:=_) (bm 15 767) rfl rfl<|W.call S rfl (zAD S.holds m41 R43 hr86) ?_
     rintro v258 w259 H260 hle261 S R262
     have R43:=Sl.mono R43 hle261
     have R40:=Sl.mono R40 hle261
     have R244:=Sl.mono R244 hle261
     have R47:=Sl.mono R47 hle261
     have R37:=Sl.mono R37 hle261
     refine We ?_
     refine WC.next (rs:=[8]) ⟨H260,(hle243.trans hle261),S.drop _ (.cons _ (.cons_cons _ (.cons _ .slnil)))⟩ kr (List.cons_ne_nil _ _) (all1 ?_)
     refine Nxt.mk (o:=_) (bm 15 1023) rfl rfl<|W.call S rfl (zAH S.holds m45 R47 hr92) ?_
     rintro v263 w264 H265 hle266 S R267
     have R43:=Sl.mono R43 hle266
     have R40:=Sl.mono R40 hle266
     have R244:=Sl.mono R244 hle266
     have R47:=Sl.mono R47 hle266
     have R262:=Sl.mono R262 hle266
     have R37:=Sl.mono R37 hle266
     refine We ?_
     refine WC.next (rs:=[10]) ⟨H265,((hle243.trans hle261).trans hle266),S.drop _ (.cons _ (.cons_cons _ (.cons _ .slnil)))⟩ kr (List.cons_ne_nil _ _) (all1 ?_)
     refine Nxt.mk (o:=_) (bm 15 2047) rfl rfl ?_
     refine W.storeSl (α:=Str) (i:=2) [v36,v240,v42,(str m44),v46,(str m48),(int m49),(int m50)] S R244 rfl rfl rfl lay34 (Nat.le_of_ble_eq_true rfl) rfl ?_
     intro w268 S
     refine We ?_
     refine WC.take (i:=11) (bm 15 4095) rfl kr kr kr rfl (fun _ _=>(R.fieldB h33 zCn)) ?_
     refine WC.next (rs:=[12]) ⟨H265,((hle243.trans hle261).trans hle266),S.drop _ (.cons _ (.cons_cons _ (.cons _ .slnil)))⟩ kr (List.cons_ne_nil _ _) (all1 ?_)
     refine Nxt.mk (o:=_) (bm 15 8191) rfl rfl ?_
     refine W.storeSl (α:=Str) (i:=2) [v36,v240,v258,(str m44),v46,(str m48),(int m49),(int m50)] S R262 rfl rfl rfl lay34 (Nat.le_of_ble_eq_true rfl) rfl ?_
     intro w269 S
     refine We ?_
     refine WC.take (i:=13) (bm 15 16383) rfl kr kr kr rfl (fun _ _=>(R.fieldB h33 zCd)) ?_
     refine WC.next (rs:=[14]) ⟨H265,((hle243.trans hle261).trans hle266),S.drop _ (.cons _ (.cons_cons _ (.cons _ .slnil)))⟩ kr (List.cons_ne_nil _ _) (all1 ?_)
     refine Nxt.mk (o:=_) (bm 15 32767) rfl rfl ?_
     refine W.storeSl (α:=GField) (i:=2) [v36,v240,v258,(str m44),v263,(str m48),(int m49),(int m50)] S R267 rfl rfl rfl lay26 (Nat.le_of_ble_eq_true rfl) rfl ?_
     intro w270 S
     refine We<|WC.done ⟨H265,((hle243.trans hle261).trans hle266),S.drop _ (.cons _ (.cons_cons _ (.cons _ .slnil)))⟩ kr ?_
     have S3:=S
     replace S3:=S3.front 2 rfl
     replace S3:=S3.front 2 rfl
     replace S3:=S3.front 2 rfl
     replace S3:St w0 H0 _ H265 [.row v36 34 1 m35.length,.box b3 36 [(.slice none 0 0),(.slice none 0 0),(.slice none 0 0),(str []),(.slice none 0 0),(str []),(int 0),(int 0)],.box b1 36 [v36,v240,v258,(str m44),v263,(str m48),(int m49),(int m50)]]:=S3
     replace S3:St w0 H0 _ H265 [.row v36 34 1 m35.length,.box b3 36 [(.slice none 0 0),(.slice none 0 0),(.slice none 0 0),(str []),(.slice none 0 0),(str []),(int 0),(int 0)],.box b1 36 [v36,v240,v258,(str m44),v263,(str m48),(int m49),(int m50)]]:=S3.drop _ (.cons_cons _ (.cons_cons _ (.cons_cons _ .slnil)))
     exact ⟨H265,v240,v258,v263,h33,h34,R37,R244,R262,R267,S3⟩
    refine Nxt.mk (o:=_) (bm 15 219) rfl rfl ?_
    refine Lo 2 S<|We ?_
    refine WC.next (rs:=[2]) ⟨H32,(Hp.le.refl _),S.drop _ (.cons _ (.cons_cons _ (.cons _ .slnil)))⟩ kr (List.cons_ne_nil _ _) (all1 ?_)
    refine Nxt.mk (o:=_) (bm 15 223) rfl rfl<|W.call S rfl (zAD S.holds m38 R40 hr80) ?_
    rintro v271 w272 H273 hle274 S R275
    have R43:=Sl.mono R43 hle274
    have R40:=Sl.mono R40 hle274
    have R47:=Sl.mono R47 hle274
    have R37:=Sl.mono R37 hle274
    refine We ?_
    refine WC.take (i:=9) (bm 15 735) rfl kr kr kr rfl (fun _ _=>(R.fieldB h33 zCf)) ?_
    refine WC.next (rs:=[5]) ⟨H273,hle274,S.drop _ (.cons _ (.cons_cons _ (.cons _ .slnil)))⟩ kr (List.cons_ne_nil _ _) (all1 ?_)
    refine Nxt.mk (o:=_) (bm 15 767) rfl rfl<|W.call S rfl (zAD S.holds m41 R43 hr86) ?_
    rintro v276 w277 H278 hle279 S R280
    have R43:=Sl.mono R43 hle279
    have R40:=Sl.mono R40 hle279
    have R47:=Sl.mono R47 hle279
    have R275:=Sl.mono R275 hle279
    have R37:=Sl.mono R37 hle279
    refine We ?_
    refine WC.next (rs:=[8]) ⟨H278,(hle274.trans hle279),S.drop _ (.cons _ (.cons_cons _ (.cons _ .slnil)))⟩ kr (List.cons_ne_nil _ _) (all1 ?_)
    refine Nxt.mk (o:=_) (bm 15 1023) rfl rfl<|W.call S rfl (zAH S.holds m45 R47 hr92) ?_
    rintro v281 w282 H283 hle284 S R285
    have R43:=Sl.mono R43 hle284
    have R40:=Sl.mono R40 hle284
    have R47:=Sl.mono R47 hle284
    have R275:=Sl.mono R275 hle284
    have R280:=Sl.mono R280 hle284
    have R37:=Sl.mono R37 hle284
    refine We ?_
    refine WC.next (rs:=[10]) ⟨H283,((hle274.trans hle279).trans hle284),S.drop _ (.cons _ (.cons_cons _ (.cons _ .slnil)))⟩ kr (List.cons_ne_nil _ _) (all1 ?_)
    refine Nxt.mk (o:=_) (bm 15 2047) rfl rfl ?_
    refine W.storeSl (α:=Str) (i:=2) [v36,v271,v42,(str m44),v46,(str m48),(int m49),(int m50)] S R275 rfl rfl rfl lay34 (Nat.le_of_ble_eq_true rfl) rfl ?_
    intro w286 S
    refine We ?_
    refine WC.take (i:=11) (bm 15 4095) rfl kr kr kr rfl (fun _ _=>(R.fieldB h33 zCn)) ?_
    refine WC.next (rs:=[12]) ⟨H283,((hle274.trans hle279).trans hle284),S.drop _ (.cons _ (.cons_cons _ (.cons _ .slnil)))⟩ kr (List.cons_ne_nil _ _) (all1 ?_)
    refine Nxt.mk (o:=_) (bm 15 8191) rfl rfl ?_
    refine W.storeSl (α:=Str) (i:=2) [v36,v271,v276,(str m44),v46,(str m48),(int m49),(int m50)] S R280 rfl rfl rfl lay34 (Nat.le_of_ble_eq_true rfl) rfl ?_
    intro w287 S
    refine We ?_
    refine WC.take (i:=13) (bm 15 16383) rfl kr kr kr rfl (fun _ _=>(R.fieldB h33 zCd)) ?_
    refine WC.next (rs:=[14]) ⟨H283,((hle274.trans hle279).trans hle284),S.drop _ (.cons _ (.cons_cons _ (.cons _ .slnil)))⟩ kr (List.cons_ne_nil _ _) (all1 ?_)
    refine Nxt.mk (o:=_) (bm 15 32767) rfl rfl ?_
    refine W.storeSl (α:=GField) (i:=2) [v36,v271,v276,(str m44),v281,(str m48),(int m49),(int m50)] S R285 rfl rfl rfl lay26 (Nat.le_of_ble_eq_true rfl) rfl ?_
    intro w288 S
    refine We<|WC.done ⟨H283,((hle274.trans hle279).trans hle284),S.drop _ (.cons _ (.cons_cons _ (.cons _ .slnil)))⟩ kr ?_
    have S3:=S
    replace S3:=S3.front 2 rfl
    replace S3:=S3.front 2 rfl
    replace S3:=S3.front 2 rfl
    replace S3:St w0 H0 _ H283 [.row v36 34 1 m35.length,.box b3 36 [(.slice none 0 0),(.slice none 0 0),(.slice none 0 0),(str []),(.slice none 0 0),(str []),(int 0),(int 0)],.box b1 36 [v36,v271,v276,(str m44),v281,(str m48),(int m49),(int m50)]]:=S3
    replace S3:St w0 H0 _ H283 [.row v36 34 1 m35.length,.box b3 36 [(.slice none 0 0),(.slice none 0 0),(.slice none 0 0),(str []),(.slice none 0 0),(str []),(int 0),(int 0)],.box b1 36 [v36,v271,v276,(str m44),v281,(str m48),(int m49),(int m50)]]:=S3.drop _ (.cons_cons _ (.cons_cons _ (.cons_cons _ .slnil)))
    exact ⟨H283,v271,v276,v281,h33,h34,R37,R275,R280,R285,S3⟩
   refine Nxt.mk (o:=_) (bm 15 217) rfl rfl ?_
   refine Lo 2 S<|We ?_
   refine WC.next (rs:=[1]) ⟨H32,(Hp.le.refl _),S.drop _ (.cons _ (.cons_cons _ (.cons _ .slnil)))⟩ kr (List.cons_ne_nil _ _) (all1 ?_)
   refine Nxt.mk (o:=_) (bm 15 219) rfl rfl ?_
   refine Lo 2 S<|We ?_
   refine WC.next (rs:=[2]) ⟨H32,(Hp.le.refl _),S.drop _ (.cons _ (.cons_cons _ (.cons _ .slnil)))⟩ kr (List.cons_ne_nil _ _) (all1 ?_)
   refine Nxt.mk (o:=_) (bm 15 223) rfl rfl<|W.call S rfl (zAD S.holds m38 R40 hr80) ?_
   rintro v289 w290 H291 hle292 S R293
   have R43:=Sl.mono R43 hle292
   have R47:=Sl.mono R47 hle292
   have R40:=Sl.mono R40 hle292
   have R37:=Sl.mono R37 hle292
   refine We ?_
   refine WC.take (i:=9) (bm 15 735) rfl kr kr kr rfl (fun _ _=>(R.fieldB h33 zCf)) ?_
   refine WC.next (rs:=[5]) ⟨H291,hle292,S.drop _ (.cons _ (.cons_cons _ (.cons _ .slnil)))⟩ kr (List.cons_ne_nil _ _) (all1 ?_)
   refine Nxt.mk (o:=_) (bm 15 767) rfl rfl<|W.call S rfl (zAD S.holds m41 R43 hr86) ?_
   rintro v294 w295 H296 hle297 S R298
   have R43:=Sl.mono R43 hle297
   have R47:=Sl.mono R47 hle297
   have R40:=Sl.mono R40 hle297
   have R293:=Sl.mono R293 hle297
   have R37:=Sl.mono R37 hle297
   refine We ?_
   refine WC.next (rs:=[8]) ⟨H296,(hle292.trans hle297),S.drop _ (.cons _ (.cons_cons _ (.cons _ .slnil)))⟩ kr (List.cons_ne_nil _ _) (all1 ?_)
   refine Nxt.mk (o:=_) (bm 15 1023) rfl rfl<|W.call S rfl (zAH S.holds m45 R47 hr92) ?_
   rintro v299 w300 H301 hle302 S R303
   have R43:=Sl.mono R43 hle302
   have R47:=Sl.mono R47 hle302
   have R40:=Sl.mono R40 hle302
   have R293:=Sl.mono R293 hle302
   have R298:=Sl.mono R298 hle302
   have R37:=Sl.mono R37 hle302
   refine We ?_
   refine WC.next (rs:=[10]) ⟨H301,((hle292.trans hle297).trans hle302),S.drop _ (.cons _ (.cons_cons _ (.cons _ .slnil)))⟩ kr (List.cons_ne_nil _ _) (all1 ?_)
   refine Nxt.mk (o:=_) (bm 15 2047) rfl rfl ?_
   refine W.storeSl (α:=Str) (i:=2) [v36,v289,v42,(str m44),v46,(str m48),(int m49),(int m50)] S R293 rfl rfl rfl lay34 (Nat.le_of_ble_eq_true rfl) rfl ?_
   intro w304 S
   refine We ?_
   refine WC.take (i:=11) (bm 15 4095) rfl kr kr kr rfl (fun _ _=>(R.fieldB h33 zCn)) ?_
   refine WC.next (rs:=[12]) ⟨H301,((hle292.trans hle297).trans hle302),S.drop _ (.cons _ (.cons_cons _ (.cons _ .slnil)))⟩ kr (List.cons_ne_nil _ _) (all1 ?_)
   refine Nxt.mk (o:=_) (bm 15 8191) rfl rfl ?_
   refine W.storeSl (α:=Str) (i:=2) [v36,v289,v294,(str m44),v46,(str m48),(int m49),(int m50)] S R298 rfl rfl rfl lay34 (Nat.le_of_ble_eq_true rfl) rfl ?_
   intro w305 S
   refine We ?_
   refine WC.take (i:=13) (bm 15 16383) rfl kr kr kr rfl (fun _ _=>(R.fieldB h33 zCd)) ?_
   refine WC.next (rs:=[14]) ⟨H301,((hle292.trans hle297).trans hle302),S.drop _ (.cons _ (.cons_cons _ (.cons _ .slnil)))⟩ kr (List.cons_ne_nil _ _) (all1 ?_)
   refine Nxt.mk (o:=_) (bm 15 32767) rfl rfl ?_
   refine W.storeSl (α:=GField) (i:=2) [v36,v289,v294,(str m44),v299,(str m48),(int m49),(int m50)] S R303 rfl rfl rfl lay26 (Nat.le_of_ble_eq_true rfl) rfl ?_
   intro w306 S
   refine We<|WC.done ⟨H301,((hle292.trans hle297).trans hle302),S.drop _ (.cons _ (.cons_cons _ (.cons _ .slnil)))⟩ kr ?_
   have S3:=S
   replace S3:=S3.front 2 rfl
   replace S3:=S3.front 2 rfl
   replace S3:=S3.front 2 rfl
   replace S3:St w0 H0 _ H301 [.row v36 34 1 m35.length,.box b3 36 [(.slice none 0 0),(.slice none 0 0),(.slice none 0 0),(str []),(.slice none 0 0),(str []),(int 0),(int 0)],.box b1 36 [v36,v289,v294,(str m44),v299,(str m48),(int m49),(int m50)]]:=S3
   replace S3:St w0 H0 _ H301 [.row v36 34 1 m35.length,.box b3 36 [(.slice none 0 0),(.slice none 0 0),(.slice none 0 0),(str []),(.slice none 0 0),(str []),(int 0),(int 0)],.box b1 36 [v36,v289,v294,(str m44),v299,(str m48),(int m49),(int m50)]]:=S3.drop _ (.cons_cons _ (.cons_cons _ (.cons_cons _ .slnil)))
   exact ⟨H301,v289,v294,v299,h33,h34,R37,R293,R298,R303,S3⟩
  refine Nxt.mk (o:=_) (bm 15 201) rfl rfl ?_
  refine Lo 2 S<|We ?_
  refine WC.next (rs:=[1,4]) ⟨H32,(Hp.le.refl _),S.drop _ (.cons _ (.cons_cons _ (.cons _ .slnil)))⟩ kr (List.cons_ne_nil _ _) (allS ?_ (all1 ?_))
  ·refine Nxt.mk (o:=_) (bm 15 203) rfl rfl ?_
   refine Lo 2 S<|We ?_
   refine WC.next (rs:=[2,4]) ⟨H32,(Hp.le.refl _),S.drop _ (.cons _ (.cons_cons _ (.cons _ .slnil)))⟩ kr (List.cons_ne_nil _ _) (allS ?_ (all1 ?_))
   ·refine Nxt.mk (o:=_) (bm 15 207) rfl rfl<|W.call S rfl (zAD S.holds m38 R40 hr80) ?_
    rintro v307 w308 H309 hle310 S R311
    have R47:=Sl.mono R47 hle310
    have R40:=Sl.mono R40 hle310
    have R37:=Sl.mono R37 hle310
    have R43:=Sl.mono R43 hle310
    refine We ?_
    refine WC.next (rs:=[4]) ⟨H309,hle310,S.drop _ (.cons _ (.cons_cons _ (.cons _ .slnil)))⟩ kr (List.cons_ne_nil _ _) (all1 ?_)
    refine Nxt.mk (o:=_) (bm 15 223) rfl rfl ?_
    refine Lo 2 S<|We ?_
    refine WC.take (i:=9) (bm 15 735) rfl kr kr kr rfl (fun _ _=>(R.fieldB h33 zCf)) ?_
    refine WC.next (rs:=[5]) ⟨H309,hle310,S.drop _ (.cons _ (.cons_cons _ (.cons _ .slnil)))⟩ kr (List.cons_ne_nil _ _) (all1 ?_)
    refine Nxt.mk (o:=_) (bm 15 767) rfl rfl<|W.call S rfl (zAD S.holds m41 R43 hr86) ?_
    rintro v312 w313 H314 hle315 S R316
    have R47:=Sl.mono R47 hle315
    have R40:=Sl.mono R40 hle315
    have R311:=Sl.mono R311 hle315
    have R43:=Sl.mono R43 hle315
    have R37:=Sl.mono R37 hle315
    refine We ?_
    refine WC.next (rs:=[8]) ⟨H314,(hle310.trans hle315),S.drop _ (.cons _ (.cons_cons _ (.cons _ .slnil)))⟩ kr (List.cons_ne_nil _ _) (all1 ?_)
    refine Nxt.mk (o:=_) (bm 15 1023) rfl rfl<|W.call S rfl (zAH S.holds m45 R47 hr92) ?_
    rintro v317 w318 H319 hle320 S R321
    have R47:=Sl.mono R47 hle320
    have R40:=Sl.mono R40 hle320
    have R311:=Sl.mono R311 hle320
    have R43:=Sl.mono R43 hle320
    have R316:=Sl.mono R316 hle320
    have R37:=Sl.mono R37 hle320
    refine We ?_
    refine WC.next (rs:=[10]) ⟨H319,((hle310.trans hle315).trans hle320),S.drop _ (.cons _ (.cons_cons _ (.cons _ .slnil)))⟩ kr (List.cons_ne_nil _ _) (all1 ?_)
    refine Nxt.mk (o:=_) (bm 15 2047) rfl rfl ?_
    refine W.storeSl (α:=Str) (i:=2) [v36,v307,v42,(str m44),v46,(str m48),(int m49),(int m50)] S R311 rfl rfl rfl lay34 (Nat.le_of_ble_eq_true rfl) rfl ?_
    intro w322 S
    refine We ?_
    refine WC.take (i:=11) (bm 15 4095) rfl kr kr kr rfl (fun _ _=>(R.fieldB h33 zCn)) ?_
    refine WC.next (rs:=[12]) ⟨H319,((hle310.trans hle315).trans hle320),S.drop _ (.cons _ (.cons_cons _ (.cons _ .slnil)))⟩ kr (List.cons_ne_nil _ _) (all1 ?_)
    refine Nxt.mk (o:=_) (bm 15 8191) rfl rfl ?_
    refine W.storeSl (α:=Str) (i:=2) [v36,v307,v312,(str m44),v46,(str m48),(int m49),(int m50)] S R316 rfl rfl rfl lay34 (Nat.le_of_ble_eq_true rfl) rfl ?_
    intro w323 S
    refine We ?_
    refine WC.take (i:=13) (bm 15 16383) rfl kr kr kr rfl (fun _ _=>(R.fieldB h33 zCd)) ?_
    refine WC.next (rs:=[14]) ⟨H319,((hle310.trans hle315).trans hle320),S.drop _ (.cons _ (.cons_cons _ (.cons _ .slnil)))⟩ kr (List.cons_ne_nil _ _) (all1 ?_)
    refine Nxt.mk (o:=_) (bm 15 32767) rfl rfl ?_
    refine W.storeSl (α:=GField) (i:=2) [v36,v307,v312,(str m44),v317,(str m48),(int m49),(int m50)] S R321 rfl rfl rfl lay26 (Nat.le_of_ble_eq_true rfl) rfl ?_
    intro w324 S
    refine We<|WC.done ⟨H319,((hle310.trans hle315).trans hle320),S.drop _ (.cons _ (.cons_cons _ (.cons _ .slnil)))⟩ kr ?_
    have S3:=S
    replace S3:=S3.front 2 rfl
    replace S3:=S3.front 2 rfl
    replace S3:=S3.front 2 rfl
    replace S3:St w0 H0 _ H319 [.row v36 34 1 m35.length,.box b3 36 [(.slice none 0 0),(.slice none 0 0),(.slice none 0 0),(str []),(.slice none 0 0),(str []),(int 0),(int 0)],.box b1 36 [v36,v307,v312,(str m44),v317,(str m48),(int m49),(int m50)]]:=S3
    replace S3:St w0 H0 _ H319 [.row v36 34 1 m35.length,.box b3 36 [(.slice none 0 0),(.slice none 0 0),(.slice none 0 0),(str []),(.slice none 0 0),(str []),(int 0),(int 0)],.box b1 36 [v36,v307,v312,(str m44),v317,(str m48),(int m49),(int m50)]]:=S3.drop _ (.cons_cons _ (.cons_cons _ (.cons_cons _ .slnil)))
    exact ⟨H319,v307,v312,v317,h33,h34,R37,R311,R316,R321,S3⟩
   refine Nxt.mk (o:=_) (bm 15 219) rfl rfl ?_
   refine Lo 2 S<|We ?_
   refine WC.next (rs:=[2]) ⟨H32,(Hp.le.refl _),S.drop _ (.cons _ (.cons_cons _ (.cons _ .slnil)))⟩ kr (List.cons_ne_nil _ _) (all1 ?_)
   refine Nxt.mk (o:=_) (bm 15 223) rfl rfl<|W.call S rfl (zAD S.holds m38 R40 hr80) ?_
   rintro v325 w326 H327 hle328 S R329
   have R47:=Sl.mono R47 hle328
   have R40:=Sl.mono R40 hle328
   have R43:=Sl.mono R43 hle328
   have R37:=Sl.mono R37 hle328
   refine We ?_
   refine WC.take (i:=9) (bm 15 735) rfl kr kr kr rfl (fun _ _=>(R.fieldB h33 zCf)) ?_
   refine WC.next (rs:=[5]) ⟨H327,hle328,S.drop _ (.cons _ (.cons_cons _ (.cons _ .slnil)))⟩ kr (List.cons_ne_nil _ _) (all1 ?_)
   refine Nxt.mk (o:=_) (bm 15 767) rfl rfl<|W.call S rfl (zAD S.holds m41 R43 hr86) ?_
   rintro v330 w331 H332 hle333 S R334
   have R47:=Sl.mono R47 hle333
   have R40:=Sl.mono R40 hle333
   have R43:=Sl.mono R43 hle333
   have R329:=Sl.mono R329 hle333
   have R37:=Sl.mono R37 hle333
   refine We ?_
   refine WC.next (rs:=[8]) ⟨H332,(hle328.trans hle333),S.drop _ (.cons _ (.cons_cons _ (.cons _ .slnil)))⟩ kr (List.cons_ne_nil _ _) (all1 ?_)
   refine Nxt.mk (o:=_) (bm 15 1023) rfl rfl<|W.call S rfl (zAH S.holds m45 R47 hr92) ?_
   rintro v335 w336 H337 hle338 S R339
   have R47:=Sl.mono R47 hle338
   have R40:=Sl.mono R40 hle338
   have R43:=Sl.mono R43 hle338
   have R329:=Sl.mono R329 hle338
   have R334:=Sl.mono R334 hle338
   have R37:=Sl.mono R37 hle338
   refine We ?_
   refine WC.next (rs:=[10]) ⟨H337,((hle328.trans hle333).trans hle338),S.drop _ (.cons _ (.cons_cons _ (.cons _ .slnil)))⟩ kr (List.cons_ne_nil _ _) (all1 ?_)
   refine Nxt.mk (o:=_) (bm 15 2047) rfl rfl ?_
   refine W.storeSl (α:=Str) (i:=2) [v36,v325,v42,(str m44),v46,(str m48),(int m49),(int m50)] S R329 rfl rfl rfl lay34 (Nat.le_of_ble_eq_true rfl) rfl ?_
   intro w340 S
   refine We ?_
   refine WC.take (i:=11) (bm 15 4095) rfl kr kr kr rfl (fun _ _=>(R.fieldB h33 zCn)) ?_
   refine WC.next (rs:=[12]) ⟨H337,((hle328.trans hle333).trans hle338),S.drop _ (.cons _ (.cons_cons _ (.cons _ .slnil)))⟩ kr (List.cons_ne_nil _ _) (all1 ?_)
   refine Nxt.mk (o:=_) (bm 15 8191) rfl rfl ?_
   refine W.storeSl (α:=Str) (i:=2) [v36,v325,v330,(str m44),v46,(str m48),(int m49),(int m50)] S R334 rfl rfl rfl lay34 (Nat.le_of_ble_eq_true rfl) rfl ?_
   intro w341 S
   refine We ?_
   refine WC.take (i:=13) (bm 15 16383) rfl kr kr kr rfl (fun _ _=>(R.fieldB h33 zCd)) ?_
   refine WC.next (rs:=[14]) ⟨H337,((hle328.trans hle333).trans hle338),S.drop _ (.cons _ (.cons_cons _ (.cons _ .slnil)))⟩ kr (List.cons_ne_nil _ _) (all1 ?_)
   refine Nxt.mk (o:=_) (bm 15 32767) rfl rfl ?_
   refine W.storeSl (α:=GField) (i:=2) [v36,v325,v330,(str m44),v335,(str m48),(int m49),(int m50)] S R339 rfl rfl rfl lay26 (Nat.le_of_ble_eq_true rfl) rfl ?_
   intro w342 S
   refine We<|WC.done ⟨H337,((hle328.trans hle333).trans hle338),S.drop _ (.cons _ (.cons_cons _ (.cons _ .slnil)))⟩ kr ?_
   have S3:=S
   replace S3:=S3.front 2 rfl
   replace S3:=S3.front 2 rfl
   replace S3:=S3.front 2 rfl
   replace S3:St w0 H0 _ H337 [.row v36 34 1 m35.length,.box b3 36 [(.slice none 0 0),(.slice none 0 0),(.slice none 0 0),(str []),(.slice none 0 0),(str []),(int 0),(int 0)],.box b1 36 [v36,v325,v330,(str m44),v335,(str m48),(int m49),(int m50)]]:=S3
   replace S3:St w0 H0 _ H337 [.row v36 34 1 m35.length,.box b3 36 [(.slice none 0 0),(.slice none 0 0),(.slice none 0 0),(str []),(.slice none 0 0),(str []),(int 0),(int 0)],.box b1 36 [v36,v325,v330,(str m44),v335,(str m48),(int m49),(int m50)]]:=S3.drop _ (.cons_cons _ (.cons_cons _ (.cons_cons _ .slnil)))
   exact ⟨H337,v325,v330,v335,h33,h34,R37,R329,R334,R339,S3⟩
  refine Nxt.mk (o:=_) (bm 15 217) rfl rfl ?_
  refine Lo 2 S<|We ?_
  refine WC.next (rs:=[1]) ⟨H32,(Hp.le.refl _),S.drop _ (.cons _ (.cons_cons _ (.cons _ .slnil)))⟩ kr (List.cons_ne_nil _ _) (all1 ?_)
  refine Nxt.mk (o:=_) (bm 15 219) rfl rfl ?_
  refine Lo 2 S<|We ?_
  refine WC.next (rs:=[2]) ⟨H32,(Hp.le.refl _),S.drop _ (.cons _ (.cons_cons _ (.cons _ .slnil)))⟩ kr (List.cons_ne_nil _ _) (all1 ?_)
  refine Nxt.mk (o:=_) (bm 15 223) rfl rfl<|W.call S rfl (zAD S.holds m38 R40 hr80) ?_
  rintro v343 w344 H345 hle346 S R347
  have R47:=Sl.mono R47 hle346
  have R43:=Sl.mono R43 hle346
  have R37:=Sl.mono R37 hle346
  refine We ?_
  refine WC.take (i:=9) (bm 15 735) rfl kr kr kr rfl (fun _ _=>(R.fieldB h33 zCf)) ?_
  refine WC.next (rs:=[5]) ⟨H345,hle346,S.drop _ (.cons _ (.cons_cons _ (.cons _ .slnil)))⟩ kr (List.cons_ne_nil _ _) (all1 ?_)
  refine Nxt.mk (o:=_) (bm 15 767) rfl rfl<|W.call S rfl (zAD S.holds m41 R43 hr86) ?_
  rintro v348 w349 H350 hle351 S R352
  have R47:=Sl.mono R47 hle351
  have R347:=Sl.mono R347 hle351
  have R37:=Sl.mono R37 hle351
  refine We ?_
  refine WC.next (rs:=[8]) ⟨H350,(hle346.trans hle351),S.drop _ (.cons _ (.cons_cons _ (.cons _ .slnil)))⟩ kr (List.cons_ne_nil _ _) (all1 ?_)
  refine Nxt.mk (o:=_) (bm 15 1023) rfl rfl<|W.call S rfl (zAH S.holds m45 R47 hr92) ?_
  rintro v353 w354 H355 hle356 S R357
  have R347:=Sl.mono R347 hle356
  have R352:=Sl.mono R352 hle356
  have R37:=Sl.mono R37 hle356
  refine We ?_
  refine WC.next (rs:=[10]) ⟨H355,((hle346.trans hle351).trans hle356),S.drop _ (.cons _ (.cons_cons _ (.cons _ .slnil)))⟩ kr (List.cons_ne_nil _ _) (all1 ?_)
  refine Nxt.mk (o:=_) (bm 15 2047) rfl rfl ?_
  refine W.storeSl (α:=Str) (i:=2) [v36,v343,v42,(str m44),v46,(str m48),(int m49),(int m50)] S R347 rfl rfl rfl lay34 (Nat.le_of_ble_eq_true rfl) rfl ?_
  intro w358 S
  refine We ?_
  refine WC.take (i:=11) (bm 15 4095) rfl kr kr kr rfl (fun _ _=>(R.fieldB h33 zCn)) ?_
  refine WC.next (rs:=[12]) ⟨H355,((hle346.trans hle351).trans hle356),S.drop _ (.cons _ (.cons_cons _ (.cons _ .slnil)))⟩ kr (List.cons_ne_nil _ _) (all1 ?_)
  refine Nxt.mk (o:=_) (bm 15 8191) rfl rfl ?_
  refine W.storeSl (α:=Str) (i:=2) [v36,v343,v348,(str m44),v46,(str m48),(int m49),(int m50)] S R352 rfl rfl rfl lay34 (Nat.le_of_ble_eq_true rfl) rfl ?_
  intro w359 S
  refine We ?_
  refine WC.take (i:=13) (bm 15 16383) rfl kr kr kr rfl (fun _ _=>(R.fieldB h33 zCd)) ?_
  refine WC.next (rs:=[14]) ⟨H355,((hle346.trans hle351).trans hle356),S.drop _ (.cons _ (.cons_cons _ (.cons _ .slnil)))⟩ kr (List.cons_ne_nil _ _) (all1 ?_)
  refine Nxt.mk (o:=_) (bm 15 32767) rfl rfl ?_
  refine W.storeSl (α:=GField) (i:=2) [v36,v343,v348,(str m44),v353,(str m48),(int m49),(int m50)] S R357 rfl rfl rfl lay26 (Nat.le_of_ble_eq_true rfl) rfl ?_
  intro w360 S
  refine We<|WC.done ⟨H355,((hle346.trans hle351).trans hle356),S.drop _ (.cons _ (.cons_cons _ (.cons _ .slnil)))⟩ kr ?_
  have S3:=S
  replace S3:=S3.front 2 rfl
  replace S3:=S3.front 2 rfl
  replace S3:=S3.front 2 rfl
  replace S3:St w0 H0 _ H355 [.row v36 34 1 m35.length,.box b3 36 [(.slice none 0 0),(.slice none 0 0),(.slice none 0 0),(str []),(.slice none 0 0),(str []),(int 0),(int 0)],.box b1 36 [v36,v343,v348,(str m44),v353,(str m48),(int m49),(int m50)]]:=S3
  replace S3:St w0 H0 _ H355 [.row v36 34 1 m35.length,.box b3 36 [(.slice none 0 0),(.slice none 0 0),(.slice none 0 0),(str []),(.slice none 0 0),(str []),(int 0),(int 0)],.box b1 36 [v36,v343,v348,(str m44),v353,(str m48),(int m49),(int m50)]]:=S3.drop _ (.cons_cons _ (.cons_cons _ (.cons_cons _ .slnil)))
  exact ⟨H355,v343,v348,v353,h33,h34,R37,R347,R352,R357,S3⟩
 rintro f w ⟨H101,v105,v107,v109,h102,h103,R104,R106,R108,R110,S⟩
 refine Ws<|Wg ?_
 refine WL.w (R.loadBN (i:=2) (vs:=[v36,v105,v107,(str m44),v109,(str m48),(int m49),(int m50)]) S h102 rfl lay36 rfl rfl) ?_
 refine W.store (i:=1) [v36,v105,v107,(str m44),v109,(str m48),(int m49),(int m50)] S h103 rfl rfl lay36 rfl (AllOne.all (l:=[v36,v105,v107,(str m44),v109,(str m48),(int m49),(int m50)]) (.cons (Sl.oneC R104) (.cons (Sl.oneC R106) (.cons (Sl.oneC R108) (.cons rfl (.cons (Sl.oneC R110) (.cons rfl (.cons rfl (.cons rfl .nil))))))))) (Nat.le_of_ble_eq_true rfl) rfl ?_
 intro w361 S
 refine We ?_
 obtain rfl:=oi h
 refine WP.ret (Out.one rfl S (Res.cellB (i:=1) (cs:=[v36,v105,v107,(str m44),v109,(str m48),(int m49),(int m50)]) S h103 rfl lay36 rfl rfl) ?_)
 exact ⟨_,_,_,_,rfl,R104,R106,R108,R110⟩
end Go.Proofs

/- A part of the proof of laws of the seat: written by program over the translation. -/
import Derived.Test.YtipgfplekgdoiaaGreatDoorEng38
import Derived.Test.YtipgfplekgdoiaaGreatDoorEng32
import Derived.Test.YtipgfplekgdoiaaGreatDoorGenK17
namespace Go.Proofs
set_option maxHeartbeats 4000000
set_option maxRecDepth 10000
open Go.Eng Go.Eng.Pure
set_option linter.unusedVariables false
theorem zQJ {w0:World} {H0:Hp} (hw:Holds w0 H0) (p_e:GEntry) {vp_e0:Value} {vp_e1:Value} {vp_e2:Value} {vp_e4:Value} (Rp_e0:Sl (α:=(List Str)) H0 vp_e0 p_e.fKeys) (Rp_e1:Sl (α:=Str) H0 vp_e1 p_e.fVary) (Rp_e2:Sl (α:=Str) H0 vp_e2 p_e.fSnapshot) (Rp_e4:Sl (α:=GField) H0 vp_e4 p_e.fFields) {r:GEntry} (h:zQT p_e=some r) :
  Con Tryz.prog 51 [(agg [vp_e0,vp_e1,vp_e2,(str p_e.fReason),vp_e4,(str p_e.fBody),(int p_e.fRequested),(int p_e.fReceived)])] w0 H0 (fun H' v=>∃ u1 u2 u3 u4:Value,v=(agg [u1,u2,u3,(str r.fReason),u4,(str r.fBody),(int r.fRequested),(int r.fReceived)])∧Sl (α:=(List Str)) H' u1 r.fKeys∧Sl (α:=Str) H' u2 r.fVary∧Sl (α:=Str) H' u3 r.fSnapshot∧Sl (α:=GField) H' u4 r.fFields):=by
 refine Con.mk (N:=38) Tryz.func51 rfl rfl kr rfl ?_
 have S:=St.start hw
 refine Ws<|Wg ?_
 refine W.box [vp_e0,vp_e1,vp_e2,(str p_e.fReason),vp_e4,(str p_e.fBody),(int p_e.fRequested),(int p_e.fReceived)] S rfl rfl ?_
 intro b1 w2 S
 refine W.alloc [(.slice none 0 0),(.slice none 0 0),(.slice none 0 0),(str []),(.slice none 0 0),(str []),(int 0),(int 0)] S zer36 ?_
 intro b3 w4 S
 refine We<|Ws<|Wg ?_
 refine WL.w (R.loadBN (i:=1) (vs:=[vp_e0,vp_e1,vp_e2,(str p_e.fReason),vp_e4,(str p_e.fBody),(int p_e.fRequested),(int p_e.fReceived)]) S rfl rfl lay36 rfl rfl) ?_
 refine W.alloc [(.slice none 0 0),(.slice none 0 0),(.slice none 0 0),(str []),(.slice none 0 0),(str []),(int 0),(int 0)] S zer36 ?_
 intro b5 w6 S
 refine W.store (i:=0) [vp_e0,vp_e1,vp_e2,(str p_e.fReason),vp_e4,(str p_e.fBody),(int p_e.fRequested),(int p_e.fReceived)] S rfl rfl rfl lay36 rfl (AllOne.all (l:=[vp_e0,vp_e1,vp_e2,(str p_e.fReason),vp_e4,(str p_e.fBody),(int p_e.fRequested),(int p_e.fReceived)]) (.cons (Sl.oneC Rp_e0) (.cons (Sl.oneC Rp_e1) (.cons (Sl.oneC Rp_e2) (.cons rfl (.cons (Sl.oneC Rp_e4) (.cons rfl (.cons rfl (.cons rfl .nil))))))))) (Nat.le_of_ble_eq_true rfl) rfl ?_
 intro w7 S
 refine We<|Ws<|Wg<|Fb ?_
 refine W.store (i:=0) [(.slice none 0 0),vp_e1,vp_e2,(str p_e.fReason),vp_e4,(str p_e.fBody),(int p_e.fRequested),(int p_e.fReceived)] S rfl rfl rfl lay33 rfl (AllOne.all (l:=[(.slice none 0 0)]) (.cons rfl .nil)) (Nat.le_of_ble_eq_true rfl) rfl ?_
 intro w8 S
 refine We<|Ws<|Ws<|Wg<|A<|We ?_
 obtain ⟨v9,hv10⟩:∃ v:Value,v=.slice none 0 0:=⟨_,rfl⟩
 have R11:Sl (α:=(List Str)) H0 v9 []:=by rw [hv10]; exact Sl.nil
 replace S:=(show ∀ {w:World},St w0 H0 w H0 [.box b5 36 [(.slice none 0 0),vp_e1,vp_e2,(str p_e.fReason),vp_e4,(str p_e.fBody),(int p_e.fRequested),(int p_e.fReceived)],.box b3 36 [(.slice none 0 0),(.slice none 0 0),(.slice none 0 0),(str []),(.slice none 0 0),(str []),(int 0),(int 0)],.box b1 36 [vp_e0,vp_e1,vp_e2,(str p_e.fReason),vp_e4,(str p_e.fBody),(int p_e.fRequested),(int p_e.fReceived)]]→St w0 H0 w H0 [.box b5 36 [v9,vp_e1,vp_e2,(str p_e.fReason),vp_e4,(str p_e.fBody),(int p_e.fRequested),(int p_e.fReceived)],.box b3 36 [(.slice none 0 0),(.slice none 0 0),(.slice none 0 0),(str []),(.slice none 0 0),(str []),(int 0),(int 0)],.box b1 36 [vp_e0,vp_e1,vp_e2,(str p_e.fReason),vp_e4,(str p_e.fBody),(int p_e.fRequested),(int p_e.fReceived)]] from fun S=>by rw [hv10]; exact S) S
 replace S:=St.addNilV hv10 S 34 1
 refine B h fun r57 hr58 h=>WP.cut (fun f w=>match r57 with | (m38,m41,m44,m47,m48,m51,m52,m53)=>∃ (H34:Hp) (v39:Value) (v42:Value) (v45:Value) (v49:Value),f 1=(ptr b1 0)∧f 2=(ptr b3 0)∧f 3=(ptr b5 0)∧Sl (α:=(List Str)) H34 v39 m38∧Sl (α:=Str) H34 v42 m41∧Sl (α:=Str) H34 v45 m44∧Sl (α:=GField) H34 v49 m48∧Sl (α:=(List Str)) H34 vp_e0 p_e.fKeys∧Sl (α:=Str) H34 vp_e1 p_e.fVary∧Sl (α:=Str) H34 vp_e2 p_e.fSnapshot∧Sl (α:=GField) H34 vp_e4 p_e.fFields∧St w0 H0 w H34 [.row v39 34 1 m38.length,.box b5 36 [v39,v42,v45,(str m47),v49,(str m51),(int m52),(int m53)],.box b3 36 [(.slice none 0 0),(.slice none 0 0),(.slice none 0 0),(str []),(.slice none 0 0),(str []),(int 0),(int 0)],.box b1 36 [vp_e0,vp_e1,vp_e2,(str p_e.fReason),vp_e4,(str p_e.fBody),(int p_e.fRequested),(int p_e.fReceived)]]) ?_ ?_
 ·refine Wb ?_
  refine WP.loopM (zQH p_e) (fun s f w=>match s with | (i_16,m18,m21,m24,m27,m28,m31,m32,m33)=>∃ (H12:Hp) (v19:Value) (v22:Value) (v25:Value) (v29:Value),f 1=(ptr b1 0)∧f 2=(ptr b3 0)∧f 3=(ptr b5 0)∧f 4=(int i_16)∧Sl (α:=(List Str)) H12 v19 m18∧Sl (α:=Str) H12 v22 m21∧Sl (α:=Str) H12 v25 m24∧Sl (α:=GField) H12 v29 m28∧Sl (α:=(List Str)) H12 vp_e0 p_e.fKeys∧Sl (α:=Str) H12 vp_e1 p_e.fVary∧Sl (α:=Str) H12 vp_e2 p_e.fSnapshot∧Sl (α:=GField) H12 vp_e4 p_e.fFields∧St w0 H0 w H12 [.row v19 34 1 m18.length,.box b5 36 [v19,v22,v25,(str m27),v29,(str m31),(int m32),(int m33)],.box b3 36 [(.slice none 0 0),(.slice none 0 0),(.slice none 0 0),(str []),(.slice none 0 0),(str []),(int 0),(int 0)],.box b1 36 [vp_e0,vp_e1,vp_e2,(str p_e.fReason),vp_e4,(str p_e.fBody),(int p_e.fRequested),(int p_e.fReceived)]]) (0,([]:List (List Str)),p_e.fVary,p_e.fSnapshot,p_e.fReason,p_e.fFields,p_e.fBody,p_e.fRequested,p_e.fReceived) r57 hr58 ?_ ?_
  ·exact ⟨H0,v9,vp_e1,vp_e2,vp_e4,rfl,rfl,rfl,rfl,R11,Rp_e1,Rp_e2,Rp_e4,Rp_e0,Rp_e1,Rp_e2,Rp_e4,S⟩
  intro s f w hI y54 hy55 hy56
  obtain ⟨i_16,m18,m21,m24,m27,m28,m31,m32,m33⟩:=s
  obtain ⟨H12,v19,v22,v25,v29,h13,h14,h15,h17,R20,R23,R26,R30,Rp_e0,Rp_e1,Rp_e2,Rp_e4,S⟩:=hI
  refine Ws<|Ws<|Wg<|M' h17<|Fb' h13 ?_
  refine Lo 3 S<|Nq Rp_e0<|La<|We ?_
  rcases condE hy55 with ⟨hc59,hy55⟩ | ⟨hc59,hy55⟩
  ·refine CT hc59<|Wk<|Ws<|Wb<|WP.draw kr 12 rfl (bm 12 0) rfl ?_
   have S:=S.drew
   refine WA.take (i:=0) (bm 12 1) rfl kr kr kr rfl (fun _=>(R.fieldB h15 zJC)) ?_
   refine WA.take (i:=2) (bm 12 5) rfl kr kr kr rfl (fun _=>(R.fieldB h13 zJC)) ?_
   refine WA.take (i:=4) (bm 12 21) rfl kr kr kr rfl (fun _=>(R.mv (v:=int i_16) h17)) ?_
   refine WA.two (i:=1) (j:=3) (bm 12 23) (bm 12 29) rfl rfl kr rfl rfl ?_ ?_
   ·refine Lo 1 S<|We<|WA.one (i:=3) (bm 12 31) rfl kr rfl ?_
    refine Lo 3 S<|We<|WA.one (i:=5) (bm 12 63) rfl kr rfl<|B hy55 fun x60 hx60 hy55=>W.idx (α:=(List Str)) Rp_e0 rfl rfl el33 hx60 ?_
    rintro a61 _ hA62 ⟨v63,rfl,R64⟩
    refine We<|WA.one (i:=6) (bm 12 127) rfl kr rfl ?_
    refine Lq S hA62<|We<|WA.one (i:=7) (bm 12 255) rfl kr rfl ?_
    have S:=S.addNil 9 1
    refine B hy55 fun l65 hl65 hy55=>W.app (α:=Str) (i:=0) S el34 rfl rfl rfl Sl.nil R64 hl65 ?_
    intro v66 w67 H68 hle69 R70 S
    have Rp_e0:=Sl.mono Rp_e0 hle69
    have R20:=Sl.mono R20 hle69
    have hA62:=At.mono hA62 hle69 (by simp)
    have R64:=Sl.mono R64 hle69
    have R23:=Sl.mono R23 hle69
    have R26:=Sl.mono R26 hle69
    have R30:=Sl.mono R30 hle69
    have Rp_e1:=Sl.mono Rp_e1 hle69
    have Rp_e2:=Sl.mono Rp_e2 hle69
    have Rp_e4:=Sl.mono Rp_e4 hle69
    refine We<|WA.one (i:=8) (bm 12 511) rfl kr rfl<|W.bslice (α:=(List Str)) [v66] ([l65]:List (List Str)) S el33 rfl rfl rfl (by decide) (Go.Eng.encS ⟨(by rw [Sl.cellsOne R70]; rfl),_,(by rw [Sl.cellsOne R70]),R70⟩ enc0) ?_
    intro u71 w72 H73 hle74 R75 S
    have Rp_e0:=Sl.mono Rp_e0 hle74
    have R20:=Sl.mono R20 hle74
    have hA62:=At.mono hA62 hle74 (by simp)
    have R64:=Sl.mono R64 hle74
    have R70:=Sl.mono R70 hle74
    have R23:=Sl.mono R23 hle74
    have R26:=Sl.mono R26 hle74
    have R30:=Sl.mono R30 hle74
    have Rp_e1:=Sl.mono Rp_e1 hle74
    have Rp_e2:=Sl.mono Rp_e2 hle74
    have Rp_e4:=Sl.mono Rp_e4 hle74
    refine We<|WA.one (i:=9) (bm 12 1023) rfl kr rfl<|B hy55 fun l76 hl76 hy55=>W.app (α:=(List Str)) (i:=2) S el33 rfl rfl rfl R20 R75 hl76 ?_
    intro v77 w78 H79 hle80 R81 S
    have Rp_e0:=Sl.mono Rp_e0 hle80
    have R20:=Sl.mono R20 hle80
    have hA62:=At.mono hA62 hle80 (by simp)
    have R64:=Sl.mono R64 hle80
    have R70:=Sl.mono R70 hle80
    have R75:=Sl.mono R75 hle80
    have R23:=Sl.mono R23 hle80
    have R26:=Sl.mono R26 hle80
    have R30:=Sl.mono R30 hle80
    have Rp_e1:=Sl.mono Rp_e1 hle80
    have Rp_e2:=Sl.mono Rp_e2 hle80
    have Rp_e4:=Sl.mono Rp_e4 hle80
    refine We ?_
    refine WA.take (i:=10) (bm 12 2047) rfl kr kr kr rfl (fun _=>(R.fieldB h15 zJC))<|WA.one (i:=11) (bm 12 4095) rfl kr rfl ?_
    refine W.storeSl (α:=(List Str)) (i:=3) [v77,v22,v25,(str m27),v29,(str m31),(int m32),(int m33)] S R81 rfl rfl rfl lay33 (Nat.le_of_ble_eq_true rfl) rfl ?_
    intro w82 S
    refine We<|WA.done kr<|Wg<|M' h17<|Lg<|A<|We ?_
    obtain rfl:=oi hy55
    exact ⟨rfl,⟨H79,v77,v22,v25,v29,h13,h14,h15,rfl,R81,R23,R26,R30,Rp_e0,Rp_e1,Rp_e2,Rp_e4,(S.drop _ (.cons _ (.cons _ (.cons_cons _ (.cons_cons _ (.cons_cons _ (.cons_cons _ .slnil)))))))⟩⟩
   refine Lo 3 S<|We ?_
   refine WA.two (i:=1) (j:=5) (bm 12 31) (bm 12 61) rfl rfl kr rfl rfl ?_ ?_
   ·refine Lo 1 S<|We<|WA.one (i:=5) (bm 12 63) rfl kr rfl<|B hy55 fun x60 hx60 hy55=>W.idx (α:=(List Str)) Rp_e0 rfl rfl el33 hx60 ?_
    rintro a61 _ hA62 ⟨v63,rfl,R64⟩
    refine We<|WA.one (i:=6) (bm 12 127) rfl kr rfl ?_
    refine Lq S hA62<|We<|WA.one (i:=7) (bm 12 255) rfl kr rfl ?_
    have S:=S.addNil 9 1
    refine B hy55 fun l65 hl65 hy55=>W.app (α:=Str) (i:=0) S el34 rfl rfl rfl Sl.nil R64 hl65 ?_
    intro v66 w67 H68 hle69 R70 S
    have Rp_e0:=Sl.mono Rp_e0 hle69
    have R20:=Sl.mono R20 hle69
    have hA62:=At.mono hA62 hle69 (by simp)
    have R64:=Sl.mono R64 hle69
    have R23:=Sl.mono R23 hle69
    have R26:=Sl.mono R26 hle69
    have R30:=Sl.mono R30 hle69
    have Rp_e1:=Sl.mono Rp_e1 hle69
    have Rp_e2:=Sl.mono Rp_e2 hle69
    have Rp_e4:=Sl.mono Rp_e4 hle69
    refine We<|WA.one (i:=8) (bm 12 511) rfl kr rfl<|W.bslice (α:=(List Str)) [v66] ([l65]:List (List Str)) S el33 rfl rfl rfl (by decide) (Go.Eng.encS ⟨(by rw [Sl.cellsOne R70]; rfl),_,(by rw [Sl.cellsOne R70]),R70⟩ enc0) ?_
    intro u71 w72 H73 hle74 R75 S
    have Rp_e0:=Sl.mono Rp_e0 hle74
    have R20:=Sl.mono R20 hle74
    have hA62:=At.mono hA62 hle74 (by simp)
    have R64:=Sl.mono R64 hle74
    have R70:=Sl.mono R70 hle74
    have R23:=Sl.mono R23 hle74
    have R26:=Sl.mono R26 hle74
    have R30:=Sl.mono R30 hle74
    have Rp_e1:=Sl.mono Rp_e1 hle74
    have Rp_e2:=Sl.mono Rp_e2 hle74
    have Rp_e4:=Sl.mono Rp_e4 hle74
    refine We<|WA.one (i:=9) (bm 12 1023) rfl kr rfl<|B hy55 fun l76 hl76 hy55=>W.app (α:=(List Str)) (i:=2) S el33 rfl rfl rfl R20 R75 hl76 ?_
    intro v77 w78 H79 hle80 R81 S
    have Rp_e0:=Sl.mono Rp_e0 hle80
    have R20:=Sl.mono R20 hle80
    have hA62:=At.mono hA62 hle80 (by simp)
    have R64:=Sl.mono R64 hle80
    have R70:=Sl.mono R70 hle80
    have R75:=Sl.mono R75 hle80
    have R23:=Sl.mono R23 hle80
    have R26:=Sl.mono R26 hle80
    have R30:=Sl.mono R30 hle80
    have Rp_e1:=Sl.mono Rp_e1 hle80
    have Rp_e2:=Sl.mono Rp_e2 hle80
    have Rp_e4:=Sl.mono Rp_e4 hle80
    refine We ?_
    refine WA.take (i:=10) (bm 12 2047) rfl kr kr kr rfl (fun _=>(R.fieldB h15 zJC))<|WA.one (i:=11) (bm 12 4095) rfl kr rfl ?_
    refine W.storeSl (α:=(List Str)) (i:=3) [v77,v22,v25,(str m27),v29,(str m31),(int m32),(int m33)] S R81 rfl rfl rfl lay33 (Nat.le_of_ble_eq_true rfl) rfl ?_
    intro w82 S
    refine We<|WA.done kr<|Wg<|M' h17<|Lg<|A<|We ?_
    obtain rfl:=oi hy55
    exact ⟨rfl,⟨H79,v77,v22,v25,v29,h13,h14,h15,rfl,R81,R23,R26,R30,Rp_e0,Rp_e1,Rp_e2,Rp_e4,(S.drop _ (.cons _ (.cons _ (.cons_cons _ (.cons_cons _ (.cons_cons _ (.cons_cons _ .slnil)))))))⟩⟩
   refine B hy55 fun x60 hx60 hy55=>W.idx (α:=(List Str)) Rp_e0 rfl rfl el33 hx60 ?_
   rintro a61 _ hA62 ⟨v63,rfl,R64⟩
   refine We ?_
   refine WA.two (i:=1) (j:=6) (bm 12 63) (bm 12 125) rfl rfl kr rfl rfl ?_ ?_
   ·refine Lo 1 S<|We<|WA.one (i:=6) (bm 12 127) rfl kr rfl ?_
    refine Lq S hA62<|We<|WA.one (i:=7) (bm 12 255) rfl kr rfl ?_
    have S:=S.addNil 9 1
    refine B hy55 fun l65 hl65 hy55=>W.app (α:=Str) (i:=0) S el34 rfl rfl rfl Sl.nil R64 hl65 ?_
    intro v66 w67 H68 hle69 R70 S
    have Rp_e0:=Sl.mono Rp_e0 hle69
    have hA62:=At.mono hA62 hle69 (by simp)
    have R64:=Sl.mono R64 hle69
    have R20:=Sl.mono R20 hle69
    have R23:=Sl.mono R23 hle69
    have R26:=Sl.mono R26 hle69
    have R30:=Sl.mono R30 hle69
    have Rp_e1:=Sl.mono Rp_e1 hle69
    have Rp_e2:=Sl.mono Rp_e2 hle69
    have Rp_e4:=Sl.mono Rp_e4 hle69
    refine We<|WA.one (i:=8) (bm 12 511) rfl kr rfl<|W.bslice (α:=(List Str)) [v66] ([l65]:List (List Str)) S el33 rfl rfl rfl (by decide) (Go.Eng.encS ⟨(by rw [Sl.cellsOne R70]; rfl),_,(by rw [Sl.cellsOne R70]),R70⟩ enc0) ?_
    intro u71 w72 H73 hle74 R75 S
    have Rp_e0:=Sl.mono Rp_e0 hle74
    have hA62:=At.mono hA62 hle74 (by simp)
    have R64:=Sl.mono R64 hle74
    have R20:=Sl.mono R20 hle74
    have R70:=Sl.mono R70 hle74
    have R23:=Sl.mono R23 hle74
    have R26:=Sl.mono R26 hle74
    have R30:=Sl.mono R30 hle74
    have Rp_e1:=Sl.mono Rp_e1 hle74
    have Rp_e2:=Sl.mono Rp_e2 hle74
    have Rp_e4:=Sl.mono Rp_e4 hle74
    refine We<|WA.one (i:=9) (bm 12 1023) rfl kr rfl<|B hy55 fun l76 hl76 hy55=>W.app (α:=(List Str)) (i:=2) S el33 rfl rfl rfl R20 R75 hl76 ?_
    intro v77 w78 H79 hle80 R81 S
    have Rp_e0:=Sl.mono Rp_e0 hle80
    have hA62:=At.mono hA62 hle80 (by simp)
    have R64:=Sl.mono R64 hle80
    have R20:=Sl.mono R20 hle80
    have R70:=Sl.mono R70 hle80
    have R75:=Sl.mono R75 hle80
    have R23:=Sl.mono R23 hle80
    have R26:=Sl.mono R26 hle80
    have R30:=Sl.mono R30 hle80
    have Rp_e1:=Sl.mono Rp_e1 hle80
    have Rp_e2:=Sl.mono Rp_e2 hle80
    have Rp_e4:=Sl.mono Rp_e4 hle80
    refine We ?_
    refine WA.take (i:=10) (bm 12 2047) rfl kr kr kr rfl (fun _=>(R.fieldB h15 zJC))<|WA.one (i:=11) (bm 12 4095) rfl kr rfl ?_
    refine W.storeSl (α:=(List Str)) (i:=3) [v77,v22,v25,(str m27),v29,(str m31),(int m32),(int m33)] S R81 rfl rfl rfl lay33 (Nat.le_of_ble_eq_true rfl) rfl ?_
    intro w82 S
    refine We<|WA.done kr<|Wg<|M' h17<|Lg<|A<|We ?_
    obtain rfl:=oi hy55
    exact ⟨rfl,⟨H79,v77,v22,v25,v29,h13,h14,h15,rfl,R81,R23,R26,R30,Rp_e0,Rp_e1,Rp_e2,Rp_e4,(S.drop _ (.cons _ (.cons _ (.cons_cons _ (.cons_cons _ (.cons_cons _ (.cons_cons _ .slnil)))))))⟩⟩
   refine Lq S hA62<|We ?_
   refine WA.two (i:=1) (j:=7) (bm 12 127) (bm 12 253) rfl rfl kr rfl rfl ?_ ?_
   ·refine Lo 1 S<|We<|WA.one (i:=7) (bm 12 255) rfl kr rfl ?_
    have S:=S.addNil 9 1
    refine B hy55 fun l65 hl65 hy55=>W.app (α:=Str) (i:=0) S el34 rfl rfl rfl Sl.nil R64 hl65 ?_
    intro v66 w67 H68 hle69 R70 S
    have Rp_e0:=Sl.mono Rp_e0 hle69
    have R64:=Sl.mono R64 hle69
    have R20:=Sl.mono R20 hle69
    have R23:=Sl.mono R23 hle69
    have R26:=Sl.mono R26 hle69
    have R30:=Sl.mono R30 hle69
    have Rp_e1:=Sl.mono Rp_e1 hle69
    have Rp_e2:=Sl.mono Rp_e2 hle69
    have Rp_e4:=Sl.mono Rp_e4 hle69
    refine We<|WA.one (i:=8) (bm 12 511) rfl kr rfl<|W.bslice (α:=(List Str)) [v66] ([l65]:List (List Str)) S el33 rfl rfl rfl (by decide) (Go.Eng.encS ⟨(by rw [Sl.cellsOne R70]; rfl),_,(by rw [Sl.cellsOne R70]),R70⟩ enc0) ?_
    intro u71 w72 H73 hle74 R75 S
    have Rp_e0:=Sl.mono Rp_e0 hle74
    have R64:=Sl.mono R64 hle74
    have R20:=Sl.mono R20 hle74
    have R70:=Sl.mono R70 hle74
    have R23:=Sl.mono R23 hle74
    have R26:=Sl.mono R26 hle74
    have R30:=Sl.mono R30 hle74
    have Rp_e1:=Sl.mono Rp_e1 hle74
    have Rp_e2:=Sl.mono Rp_e2 hle74
    have Rp_e4:=Sl.mono Rp_e4 hle74
    refine We<|WA.one (i:=9) (bm 12 1023) rfl kr rfl<|B hy55 fun l76 hl76 hy55=>W.app (α:=(List Str)) (i:=2) S el33 rfl rfl rfl R20 R75 hl76 ?_
    intro v77 w78 H79 hle80 R81 S
    have Rp_e0:=Sl.mono Rp_e0 hle80
    have R64:=Sl.mono R64 hle80
    have R20:=Sl.mono R20 hle80
    have R70:=Sl.mono R70 hle80
    have R75:=Sl.mono R75 hle80
    have R23:=Sl.mono R23 hle80
    have R26:=Sl.mono R26 hle80
    have R30:=Sl.mono R30 hle80
    have Rp_e1:=Sl.mono Rp_e1 hle80
    have Rp_e2:=Sl.mono Rp_e2 hle80
    have Rp_e4:=Sl.mono Rp_e4 hle80
    refine We ?_
    refine WA.take (i:=10) (bm 12 2047) rfl kr kr kr rfl (fun _=>(R.fieldB h15 zJC))<|WA.one (i:=11) (bm 12 4095) rfl kr rfl ?_
    refine W.storeSl (α:=(List Str)) (i:=3) [v77,v22,v25,(str m27),v29,(str m31),(int m32),(int m33)] S R81 rfl rfl rfl lay33 (Nat.le_of_ble_eq_true rfl) rfl ?_
    intro w82 S
    refine We<|WA.done kr<|Wg<|M' h17<|Lg<|A<|We ?_
    obtain rfl:=oi hy55
    exact ⟨rfl,⟨H79,v77,v22,v25,v29,h13,h14,h15,rfl,R81,R23,R26,R30,Rp_e0,Rp_e1,Rp_e2,Rp_e4,(S.drop _ (.cons _ (.cons _ (.cons_cons _ (.cons_cons _ (.cons_cons _ (.cons_cons _ .slnil)))))))⟩⟩
   have S:=S.addNil 9 1
   refine B hy55 fun l65 hl65 hy55=>W.app (α:=Str) (i:=0) S el34 rfl rfl rfl Sl.nil R64 hl65 ?_
   intro v66 w67 H68 hle69 R70 S
   have Rp_e0:=Sl.mono Rp_e0 hle69
   have R20:=Sl.mono R20 hle69
   have R23:=Sl.mono R23 hle69
   have R26:=Sl.mono R26 hle69
   have R30:=Sl.mono R30 hle69
   have Rp_e1:=Sl.mono Rp_e1 hle69
   have Rp_e2:=Sl.mono Rp_e2 hle69
   have Rp_e4:=Sl.mono Rp_e4 hle69
   refine We ?_
   refine WA.two (i:=1) (j:=8) (bm 12 255) (bm 12 509) rfl rfl kr rfl rfl ?_ ?_
   ·refine Lo 2 S<|We<|WA.one (i:=8) (bm 12 511) rfl kr rfl<|W.bslice (α:=(List Str)) [v66] ([l65]:List (List Str)) S el33 rfl rfl rfl (by decide) (Go.Eng.encS ⟨(by rw [Sl.cellsOne R70]; rfl),_,(by rw [Sl.cellsOne R70]),R70⟩ enc0) ?_
    intro u71 w72 H73 hle74 R75 S
    have Rp_e0:=Sl.mono Rp_e0 hle74
    have R70:=Sl.mono R70 hle74
    have R20:=Sl.mono R20 hle74
    have R23:=Sl.mono R23 hle74
    have R26:=Sl.mono R26 hle74
    have R30:=Sl.mono R30 hle74
    have Rp_e1:=Sl.mono Rp_e1 hle74
    have Rp_e2:=Sl.mono Rp_e2 hle74
    have Rp_e4:=Sl.mono Rp_e4 hle74
    refine We<|WA.one (i:=9) (bm 12 1023) rfl kr rfl<|B hy55 fun l76 hl76 hy55=>W.app (α:=(List Str)) (i:=2) S el33 rfl rfl rfl R20 R75 hl76 ?_
    intro v77 w78 H79 hle80 R81 S
    have Rp_e0:=Sl.mono Rp_e0 hle80
    have R70:=Sl.mono R70 hle80
    have R20:=Sl.mono R20 hle80
    have R75:=Sl.mono R75 hle80
    have R23:=Sl.mono R23 hle80
    have R26:=Sl.mono R26 hle80
    have R30:=Sl.mono R30 hle80
    have Rp_e1:=Sl.mono Rp_e1 hle80
    have Rp_e2:=Sl.mono Rp_e2 hle80
    have Rp_e4:=Sl.mono Rp_e4 hle80
    refine We ?_
    refine WA.take (i:=10) (bm 12 2047) rfl kr kr kr rfl (fun _=>(R.fieldB h15 zJC))<|WA.one (i:=11) (bm 12 4095) rfl kr rfl ?_
    refine W.storeSl (α:=(List Str)) (i:=3) [v77,v22,v25,(str m27),v29,(str m31),(int m32),(int m33)] S R81 rfl rfl rfl lay33 (Nat.le_of_ble_eq_true rfl) rfl ?_
    intro w82 S
    refine We<|WA.done kr<|Wg<|M' h17<|Lg<|A<|We ?_
    obtain rfl:=oi hy55
    exact ⟨rfl,⟨H79,v77,v22,v25,v29,h13,h14,h15,rfl,R81,R23,R26,R30,Rp_e0,Rp_e1,Rp_e2,Rp_e4,(S.drop _ (.cons _ (.cons _ (.cons_cons _ (.cons_cons _ (.cons_cons _ (.cons_cons _ .slnil)))))))⟩⟩
   refine W.bslice (α:=(List Str)) [v66] ([l65]:List (List Str)) S el33 rfl rfl rfl (by decide) (Go.Eng.encS ⟨(by rw [Sl.cellsOne R70]; rfl),_,(by rw [Sl.cellsOne R70]),R70⟩ enc0) ?_
   intro u71 w72 H73 hle74 R75 S
   have Rp_e0:=Sl.mono Rp_e0 hle74
   have R20:=Sl.mono R20 hle74
   have R23:=Sl.mono R23 hle74
   have R26:=Sl.mono R26 hle74
   have R30:=Sl.mono R30 hle74
   have Rp_e1:=Sl.mono Rp_e1 hle74
   have Rp_e2:=Sl.mono Rp_e2 hle74
   have Rp_e4:=Sl.mono Rp_e4 hle74
   refine We<|WA.one (i:=1) (bm 12 511) rfl kr rfl ?_
   refine Lo 3 S<|We<|WA.one (i:=9) (bm 12 1023) rfl kr rfl<|B hy55 fun l76 hl76 hy55=>W.app (α:=(List Str)) (i:=2) S el33 rfl rfl rfl R20 R75 hl76 ?_
   intro v77 w78 H79 hle80 R81 S
   have Rp_e0:=Sl.mono Rp_e0 hle80
   have R20:=Sl.mono R20 hle80
   have R23:=Sl.mono R23 hle80
   have R26:=Sl.mono R26 hle80
   have R30:=Sl.mono R30 hle80
   have Rp_e1:=Sl.mono Rp_e1 hle80
   have Rp_e2:=Sl.mono Rp_e2 hle80
   have Rp_e4:=Sl.mono Rp_e4 hle80
   refine We ?_
   refine WA.take (i:=10) (bm 12 2047) rfl kr kr kr rfl (fun _=>(R.fieldB h15 zJC))<|WA.one (i:=11) (bm 12 4095) rfl kr rfl ?_
   refine W.storeSl (α:=(List Str)) (i:=3) [v77,v22,v25,(str m27),v29,(str m31),(int m32),(int m33)] S R81 rfl rfl rfl lay33 (Nat.le_of_ble_eq_true rfl) rfl ?_
   intro w82 S
   refine We<|WA.done kr<|Wg<|M' h17<|Lg<|A<|We ?_
   obtain rfl:=oi hy55
   exact ⟨rfl,⟨H79,v77,v22,v25,v29,h13,h14,h15,rfl,R81,R23,R26,R30,Rp_e0,Rp_e1,Rp_e2,Rp_e4,(S.drop _ (.cons _ (.cons _ (.cons_cons _ (.cons_cons _ (.cons_cons _ (.cons_cons _ .slnil)))))))⟩⟩
  refine CF hc59<|Wx ?_
  obtain rfl:=oi hy55
  obtain rfl:=hy56
  exact ⟨H12,v19,v22,v25,v29,h13,h14,h15,R20,R23,R26,R30,Rp_e0,Rp_e1,Rp_e2,Rp_e4,S⟩
 intro f w hM
 obtain ⟨m38,m41,m44,m47,m48,m51,m52,m53⟩:=r57
 obtain ⟨H34,v39,v42,v45,v49,h35,h36,h37,R40,R43,R46,R50,Rp_e0,Rp_e1,Rp_e2,Rp_e4,S⟩:=hM
 refine Ws<|Wg<|Fb' h35 ?_
 refine Lo 3 S ?_
 have S:=S.addNil 9 1
 refine B h fun l83 hl83 h=>W.app (α:=Str) (i:=0) S el34 rfl rfl rfl Sl.nil Rp_e1 hl83 ?_
 intro v84 w85 H86 hle87 R88 S
 have R40:=Sl.mono R40 hle87
 have Rp_e2:=Sl.mono Rp_e2 hle87
 have Rp_e4:=Sl.mono Rp_e4 hle87
 refine Fb' h37 ?_
 refine W.storeSl (α:=Str) (i:=2) [v39,v84,v45,(str m47),v49,(str m51),(int m52),(int m53)] S R88 rfl rfl rfl lay34 (Nat.le_of_ble_eq_true rfl) rfl ?_
 intro w89 S
 refine We<|Ws<|Wg<|Fb' h35 ?_
 refine Lo 4 S ?_
 have S:=S.addNil 9 1
 refine B h fun l90 hl90 h=>W.app (α:=Str) (i:=0) S el34 rfl rfl rfl Sl.nil Rp_e2 hl90 ?_
 intro v91 w92 H93 hle94 R95 S
 have R88:=Sl.mono R88 hle94
 have R40:=Sl.mono R40 hle94
 have Rp_e4:=Sl.mono Rp_e4 hle94
 refine Fb' h37 ?_
 refine W.storeSl (α:=Str) (i:=3) [v39,v84,v91,(str m47),v49,(str m51),(int m52),(int m53)] S R95 rfl rfl rfl lay34 (Nat.le_of_ble_eq_true rfl) rfl ?_
 intro w96 S
 refine We<|Ws<|Wg<|Fb' h35 ?_
 refine Lo 5 S ?_
 have S:=S.addNil 64 2
 refine B h fun l97 hl97 h=>W.app (α:=GField) (i:=0) S el26 rfl rfl rfl Sl.nil Rp_e4 hl97 ?_
 intro v98 w99 H100 hle101 R102 S
 have R88:=Sl.mono R88 hle101
 have R95:=Sl.mono R95 hle101
 have R40:=Sl.mono R40 hle101
 refine Fb' h37 ?_
 refine W.storeSl (α:=GField) (i:=4) [v39,v84,v91,(str m47),v98,(str m51),(int m52),(int m53)] S R102 rfl rfl rfl lay26 (Nat.le_of_ble_eq_true rfl) rfl ?_
 intro w103 S
 refine We<|Ws<|Wg ?_
 refine WL.w (R.loadBN (i:=4) (vs:=[v39,v84,v91,(str m47),v98,(str m51),(int m52),(int m53)]) S h37 rfl lay36 rfl rfl) ?_
 refine W.store (i:=5) [v39,v84,v91,(str m47),v98,(str m51),(int m52),(int m53)] S h36 rfl rfl lay36 rfl (AllOne.all (l:=[v39,v84,v91,(str m47),v98,(str m51),(int m52),(int m53)]) (.cons (Sl.oneC R40) (.cons (Sl.oneC R88) (.cons (Sl.oneC R95) (.cons rfl (.cons (Sl.oneC R102) (.cons rfl (.cons rfl (.cons rfl .nil))))))))) (Nat.le_of_ble_eq_true rfl) rfl ?_
 intro w104 S
 refine We ?_
 obtain rfl:=oi h
 refine WP.ret (Out.one rfl S (Res.cellB (i:=5) (cs:=[v39,v84,v91,(str m47),v98,(str m51),(int m52),(int m53)]) S h36 rfl lay36 rfl rfl) ?_)
 exact ⟨_,_,_,_,rfl,R40,R88,R95,R102⟩
end Go.Proofs

/- A part of the proof of laws of the seat: written by program over the translation. -/
import Derived.Test.YtipgfplekgdoiaaGreatDoorEng38
import Derived.Test.YtipgfplekgdoiaaGreatDoorEng32
import Derived.Test.YtipgfplekgdoiaaGreatDoorGenK18
namespace Go.Proofs
set_option maxHeartbeats 4000000
set_option maxRecDepth 10000
open Go.Eng Go.Eng.Pure
set_option linter.unusedVariables false
theorem zQc {w0:World} {H0:Hp} (hw:Holds w0 H0) (p_t:GTable) {vp_t0:Value} {vp_t1:Value} (Rp_t0:Sl (α:=GAxis) H0 vp_t0 p_t.fAxes) (Rp_t1:Sl (α:=GEntry) H0 vp_t1 p_t.fEntries) {r:GTable} (h:zQa p_t=some r) :
  Con Tryz.prog 18 [(agg [vp_t0,vp_t1])] w0 H0 (fun H' v=>∃ u1 u2:Value,v=(agg [u1,u2])∧Sl (α:=GAxis) H' u1 r.fAxes∧Sl (α:=GEntry) H' u2 r.fEntries):=by
 refine Con.mk (N:=51) Tryz.func18 rfl rfl kr rfl ?_
 have S:=St.start hw
 refine Ws<|Wg ?_
 refine W.box [vp_t0,vp_t1] S rfl rfl ?_
 intro b1 w2 S
 refine W.alloc [(.slice none 0 0),(.slice none 0 0)] S zer25 ?_
 intro b3 w4 S
 refine We<|Ws<|Wg ?_
 refine W.alloc [(.slice none 0 0),(.slice none 0 0)] S zer25 ?_
 intro b5 w6 S
 refine We<|Ws<|Ws<|Wg<|A<|We ?_
 obtain ⟨v7,hv8⟩:∃ v:Value,v=.slice none 0 0:=⟨_,rfl⟩
 have R9:Sl (α:=GAxis) H0 v7 []:=by rw [hv8]; exact Sl.nil
 replace S:=(show ∀ {w:World},St w0 H0 w H0 [.box b5 25 [(.slice none 0 0),(.slice none 0 0)],.box b3 25 [(.slice none 0 0),(.slice none 0 0)],.box b1 25 [vp_t0,vp_t1]]→St w0 H0 w H0 [.box b5 25 [v7,(.slice none 0 0)],.box b3 25 [(.slice none 0 0),(.slice none 0 0)],.box b1 25 [vp_t0,vp_t1]] from fun S=>by rw [hv8]; exact S) S
 replace S:=St.addNilV hv8 S 68 2
 obtain ⟨v10,hv11⟩:∃ v:Value,v=.slice none 0 0:=⟨_,rfl⟩
 have R12:Sl (α:=GEntry) H0 v10 []:=by rw [hv11]; exact Sl.nil
 replace S:=(show ∀ {w:World},St w0 H0 w H0 [.row v7 68 2 ([]:List GAxis).length,.box b5 25 [v7,(.slice none 0 0)],.box b3 25 [(.slice none 0 0),(.slice none 0 0)],.box b1 25 [vp_t0,vp_t1]]→St w0 H0 w H0 [.row v7 68 2 ([]:List GAxis).length,.box b5 25 [v7,v10],.box b3 25 [(.slice none 0 0),(.slice none 0 0)],.box b1 25 [vp_t0,vp_t1]] from fun S=>by rw [hv11]; exact S) S
 replace S:=St.addNilV hv11 S 36 8
 refine B h fun r38 hr39 h=>WP.cut (fun f w=>match r38 with | (m29,m32)=>∃ (H25:Hp) (v30:Value) (v33:Value),f 1=(ptr b1 0)∧f 2=(ptr b3 0)∧f 3=(ptr b5 0)∧Sl (α:=GAxis) H25 v30 m29∧Sl (α:=GEntry) H25 v33 m32∧Sl (α:=GAxis) H25 vp_t0 p_t.fAxes∧Sl (α:=GEntry) H25 vp_t1 p_t.fEntries∧St w0 H0 w H25 [.row v33 36 8 m32.length,.row v30 68 2 m29.length,.box b5 25 [v30,v33],.box b3 25 [(.slice none 0 0),(.slice none 0 0)],.box b1 25 [vp_t0,vp_t1]]) ?_ ?_
 ·refine Wb ?_
  refine WP.loopM (zQW p_t) (fun s f w=>match s with | (i_17,m19,m22)=>∃ (H13:Hp) (v20:Value) (v23:Value),f 1=(ptr b1 0)∧f 2=(ptr b3 0)∧f 3=(ptr b5 0)∧f 4=(int i_17)∧Sl (α:=GAxis) H13 v20 m19∧Sl (α:=GEntry) H13 v23 m22∧Sl (α:=GAxis) H13 vp_t0 p_t.fAxes∧Sl (α:=GEntry) H13 vp_t1 p_t.fEntries∧St w0 H0 w H13 [.row v23 36 8 m22.length,.row v20 68 2 m19.length,.box b5 25 [v20,v23],.box b3 25 [(.slice none 0 0),(.slice none 0 0)],.box b1 25 [vp_t0,vp_t1]]) (0,([]:List GAxis),([]:List GEntry)) r38 hr39 ?_ ?_
  ·exact ⟨H0,v7,v10,rfl,rfl,rfl,rfl,R9,R12,Rp_t0,Rp_t1,S⟩
  intro s f w hI y35 hy36 hy37
  obtain ⟨i_17,m19,m22⟩:=s
  obtain ⟨H13,v20,v23,h14,h15,h16,h18,R21,R24,Rp_t0,Rp_t1,S⟩:=hI
  refine Ws<|Ws<|Wg<|M' h18<|Fb' h14 ?_
  refine Lo 4 S<|Nq Rp_t0<|La<|We ?_
  rcases condE hy36 with ⟨hc40,hy36⟩ | ⟨hc40,hy36⟩
  ·refine CT hc40<|Wk<|Ws<|Wb<|B hy36 fun x41 hx41 hy36=>B hy36 fun x47 hx47 hy36=>B hy36 fun l53 hl53 hy36=>B hy36 fun l64 hl64 hy36=>WP.cut (fun f w=>∃ (H71:Hp) (v76:Value),f 1=(ptr b1 0)∧f 2=(ptr b3 0)∧f 3=(ptr b5 0)∧f 4=(int i_17)∧Sl (α:=GAxis) H71 v76 l64∧Sl (α:=GEntry) H71 v23 m22∧Sl (α:=GAxis) H71 vp_t0 p_t.fAxes∧Sl (α:=GEntry) H71 vp_t1 p_t.fEntries∧St w0 H0 w H71 [.row v23 36 8 m22.length,.row v76 68 2 l64.length,.box b5 25 [v76,v23],.box b3 25 [(.slice none 0 0),(.slice none 0 0)],.box b1 25 [vp_t0,vp_t1]]) ?_ ?_
   ·refine WP.drawC (Cl w0 H0 H13 [.box b3 25 [(.slice none 0 0),(.slice none 0 0)],.box b1 25 [vp_t0,vp_t1]]) kr 20 rfl (bm 20 0) rfl ?_
    have S:=S.drew
    refine WC.take (i:=0) (bm 20 1) rfl kr kr kr rfl (fun _ _=>(R.fieldB h16 zPc)) ?_
    refine WC.take (i:=2) (bm 20 5) rfl kr kr kr rfl (fun _ _=>(R.fieldB h14 zPc)) ?_
    refine WC.take (i:=3) (bm 20 13) rfl kr kr kr rfl (fun w hw=>by obtain ⟨_,hq,S⟩:=hw; exact (R.loadB (i:=1) (v:=vp_t0) S rfl rfl lay22 rfl)) ?_
    refine WC.take (i:=4) (bm 20 29) rfl kr kr kr rfl (fun _ _=>(R.mv (v:=int i_17) h18)) ?_
    refine WC.take (i:=8) (bm 20 285) rfl kr kr kr rfl (fun _ _=>(R.fieldB h14 zPc)) ?_
    refine WC.take (i:=9) (bm 20 797) rfl kr kr kr rfl (fun w hw=>by obtain ⟨_,hq,S⟩:=hw; exact (R.loadB (i:=1) (v:=vp_t0) S rfl rfl lay22 rfl)) ?_
    refine WC.take (i:=10) (bm 20 1821) rfl kr kr kr rfl (fun _ _=>(R.mv (v:=int i_17) h18)) ?_
    refine WC.next (rs:=[1,5,11]) ⟨H13,(Hp.le.refl _),S.drop _ (.cons _ (.cons _ (.cons _ (.cons_cons _ (.cons_cons _ .slnil)))))⟩ kr (List.cons_ne_nil _ _) (allS ?_ (allS ?_ (all1 ?_)))
    ·refine Nxt.mk (o:=_) (bm 20 1823) rfl rfl ?_
     refine Lo 2 S<|We ?_
     refine WC.next (rs:=[5,11]) ⟨H13,(Hp.le.refl _),S.drop _ (.cons _ (.cons _ (.cons _ (.cons_cons _ (.cons_cons _ .slnil)))))⟩ kr (List.cons_ne_nil _ _) (allS ?_ (all1 ?_))
     ·refine Nxt.mk (o:=_) (bm 20 1855) rfl rfl<|W.idx (α:=GAxis) Rp_t0 rfl rfl el22 hx41 ?_
      rintro a81 _ hA82 ⟨v83,rfl,R84⟩
      refine We ?_
      refine WC.take (i:=6) (bm 20 1919) rfl kr kr kr rfl (fun _ _=>(R.field rfl zOL)) ?_
      have hA85:=At.add hA82 0 (by simp)
      refine WC.take (i:=7) (bm 20 2047) rfl kr kr kr rfl (fun w hw=>by obtain ⟨_,hq,S⟩:=hw; exact (R.loadH (v:=str x41.fName) S rfl (At.mono hA85 hq (by simp)) lay9 rfl)) ?_
      refine WC.next (rs:=[11]) ⟨H13,(Hp.le.refl _),S.drop _ (.cons _ (.cons _ (.cons _ (.cons_cons _ (.cons_cons _ .slnil)))))⟩ kr (List.cons_ne_nil _ _) (all1 ?_)
      refine Nxt.mk (o:=_) (bm 20 4095) rfl rfl<|W.idx (α:=GAxis) Rp_t0 rfl rfl el22 hx47 ?_
      rintro a86 _ hA87 ⟨v88,rfl,R89⟩
      refine We ?_
      refine WC.take (i:=12) (bm 20 8191) rfl kr kr kr rfl (fun _ _=>(R.field rfl zNu)) ?_
      have hA90:=At.add hA87 1 (by simp)
      refine WC.take (i:=13) (bm 20 16383) rfl kr kr kr rfl (fun w hw=>by obtain ⟨_,hq,S⟩:=hw; exact (R.loadH (v:=v88) S rfl (At.mono hA90 hq (by simp)) lay34 rfl)) ?_
      refine WC.next (rs:=[14]) ⟨H13,(Hp.le.refl _),S.drop _ (.cons _ (.cons _ (.cons _ (.cons_cons _ (.cons_cons _ .slnil)))))⟩ kr (List.cons_ne_nil _ _) (all1 ?_)
      refine Nxt.mk (o:=_) (bm 20 32767) rfl rfl ?_
      have S:=S.addNil 9 1
      refine W.app (α:=Str) (i:=0) S el34 rfl rfl rfl Sl.nil R89 hl53 ?_
      intro v91 w92 H93 hle94 R95 S
      have Rp_t0:=Sl.mono Rp_t0 hle94
      have R21:=Sl.mono R21 hle94
      have R24:=Sl.mono R24 hle94
      have Rp_t1:=Sl.mono Rp_t1 hle94
      refine We ?_
      refine WC.take (i:=15) (bm 20 65535) rfl kr kr kr rfl (fun _ _=>(R.build [(0,(str x41.fName)),(1,v91)] [(str x41.fName),v91] bp68 zer68 rfl (by obtain ⟨_,_,rfl,_⟩:=R95; rfl))) ?_
      refine WC.next (rs:=[16]) ⟨H93,hle94,S.drop _ (.cons _ (.cons _ (.cons _ (.cons _ (.cons_cons _ (.cons_cons _ .slnil))))))⟩ kr (List.cons_ne_nil _ _) (all1 ?_)
      refine Nxt.mk (o:=_) (bm 20 131071) rfl rfl<|W.bslice (α:=GAxis) [(agg [(str x41.fName),v91])] ([(⟨x41.fName,l53⟩:GAxis)]:List GAxis) S el22 rfl rfl rfl (by decide) (Go.Eng.encS ⟨rfl,_,rfl,R95⟩ enc0) ?_
      intro u96 w97 H98 hle99 R100 S
      have Rp_t0:=Sl.mono Rp_t0 hle99
      have R21:=Sl.mono R21 hle99
      have R24:=Sl.mono R24 hle99
      have Rp_t1:=Sl.mono Rp_t1 hle99
      refine We ?_
      refine WC.next (rs:=[17]) ⟨H98,(hle94.trans hle99),S.drop _ (.cons _ (.cons _ (.cons _ (.cons _ (.cons _ (.cons_cons _ (.cons_cons _ .slnil)))))))⟩ kr (List.cons_ne_nil _ _) (all1 ?_)
      refine Nxt.mk (o:=_) (bm 20 262143) rfl rfl<|W.app (α:=GAxis) (i:=3) S el22 rfl rfl rfl R21 R100 hl64 ?_
      intro v101 w102 H103 hle104 R105 S
      have Rp_t0:=Sl.mono Rp_t0 hle104
      have R21:=Sl.mono R21 hle104
      have R24:=Sl.mono R24 hle104
      have Rp_t1:=Sl.mono Rp_t1 hle104
      refine We ?_
      refine WC.take (i:=18) (bm 20 524287) rfl kr kr kr rfl (fun _ _=>(R.fieldB h16 zPc)) ?_
      refine WC.next (rs:=[19]) ⟨H103,((hle94.trans hle99).trans hle104),S.drop _ (.cons _ (.cons _ (.cons _ (.cons _ (.cons _ (.cons_cons _ (.cons_cons _ .slnil)))))))⟩ kr (List.cons_ne_nil _ _) (all1 ?_)
      refine Nxt.mk (o:=_) (bm 20 1048575) rfl rfl ?_
      refine W.storeSl (α:=GAxis) (i:=4) [v101,v23] S R105 rfl rfl rfl lay22 (Nat.le_of_ble_eq_true rfl) rfl ?_
      intro w106 S
      refine We<|WC.done ⟨H103,((hle94.trans hle99).trans hle104),S.drop _ (.cons _ (.cons _ (.cons _ (.cons _ (.cons _ (.cons_cons _ (.cons_cons _ .slnil)))))))⟩ kr ?_
      have S3:=S
      replace S3:=S3.front 6 rfl
      replace S3:=S3.front 6 rfl
      replace S3:=S3.front 6 rfl
      replace S3:=S3.front 6 rfl
      replace S3:=S3.front 6 rfl
      replace S3:St w0 H0 _ H103 [.row v23 36 8 m22.length,.row v101 68 2 l64.length,.box b5 25 [v101,v23],.box b3 25 [(.slice none 0 0),(.slice none 0 0)],.box b1 25 [vp_t0,vp_t1],.row u96 68 2 ([(⟨x41.fName,l53⟩:GAxis)]:List GAxis).length,.row v91 9 1 l53.length]:=S3
      replace S3:St w0 H0 _ H103 [.row v23 36 8 m22.length,.row v101 68 2 l64.length,.box b5 25 [v101,v23],.box b3 25 [(.slice none 0 0),(.slice none 0 0)],.box b1 25 [vp_t0,vp_t1]]:=S3.drop _ (.cons_cons _ (.cons_cons _ (.cons_cons _ (.cons_cons _ (.cons_cons _ (.cons _ (.cons _ .slnil)))))))
      exact ⟨H103,v101,h14,h15,h16,h18,R105,R24,Rp_t0,Rp_t1,S3⟩
     refine Nxt.mk (o:=_) (bm 20 3871) rfl rfl<|W.idx (α:=GAxis) Rp_t0 rfl rfl el22 hx47 ?_
     rintro a107 _ hA108 ⟨v109,rfl,R110⟩
     refine We ?_
     refine WC.take (i:=12) (bm 20 7967) rfl kr kr kr rfl (fun _ _=>(R.field rfl zNu)) ?_
     have hA111:=At.add hA108 1 (by simp)
     refine WC.take (i:=13) (bm 20 16159) rfl kr kr kr rfl (fun w hw=>by obtain ⟨_,hq,S⟩:=hw; exact (R.loadH (v:=v109) S rfl (At.mono hA111 hq (by simp)) lay34 rfl)) ?_
     refine WC.next (rs:=[5,14]) ⟨H13,(Hp.le.refl _),S.drop _ (.cons _ (.cons _ (.cons _ (.cons_cons _ (.cons_cons _ .slnil)))))⟩ kr (List.cons_ne_nil _ _) (allS ?_ (all1 ?_))
     ·refine Nxt.mk (o:=_) (bm 20 16191) rfl rfl<|W.idx (α:=GAxis) Rp_t0 rfl rfl el22 hx41 ?_
      rintro a112 _ hA113 ⟨v114,rfl,R115⟩
      refine We ?_
      refine WC.take (i:=6) (bm 20 16255) rfl kr kr kr rfl (fun _ _=>(R.field rfl zOL)) ?_
      have hA116:=At.add hA113 0 (by simp)
      refine WC.take (i:=7) (bm 20 16383) rfl kr kr kr rfl (fun w hw=>by obtain ⟨_,hq,S⟩:=hw; exact (R.loadH (v:=str x41.fName) S rfl (At.mono hA116 hq (by simp)) lay9 rfl)) ?_
      refine WC.next (rs:=[14]) ⟨H13,(Hp.le.refl _),S.drop _ (.cons _ (.cons _ (.cons _ (.cons_cons _ (.cons_cons _ .slnil)))))⟩ kr (List.cons_ne_nil _ _) (all1 ?_)
      refine Nxt.mk (o:=_) (bm 20 32767) rfl rfl ?_
      have S:=S.addNil 9 1
      refine W.app (α:=Str) (i:=0) S el34 rfl rfl rfl Sl.nil R110 hl53 ?_
      intro v117 w118 H119 hle120 R121 S
      have Rp_t0:=Sl.mono Rp_t0 hle120
      have R21:=Sl.mono R21 hle120
      have R110:=Sl.mono R110 hle120
      have R24:=Sl.mono R24 hle120
      have Rp_t1:=Sl.mono Rp_t1 hle120
      refine We ?_
      refine WC.take (i:=15) (bm 20 65535) rfl kr kr kr rfl (fun _ _=>(R.build [(0,(str x41.fName)),(1,v117)] [(str x41.fName),v117] bp68 zer68 rfl (by obtain ⟨_,_,rfl,_⟩:=R121; rfl))) ?_
      refine WC.next (rs:=[16]) ⟨H119,hle120,S.drop _ (.cons _ (.cons _ (.cons _ (.cons _ (.cons_cons _ (.cons_cons _ .slnil))))))⟩ kr (List.cons_ne_nil _ _) (all1 ?_)
      refine Nxt.mk (o:=_) (bm 20 131071) rfl rfl<|W.bslice (α:=GAxis) [(agg [(str x41.fName),v117])] ([(⟨x41.fName,l53⟩:GAxis)]:List GAxis) S el22 rfl rfl rfl (by decide) (Go.Eng.encS ⟨rfl,_,rfl,R121⟩ enc0) ?_
      intro u122 w123 H124 hle125 R126 S
      have Rp_t0:=Sl.mono Rp_t0 hle125
      have R21:=Sl.mono R21 hle125
      have R110:=Sl.mono R110 hle125
      have R24:=Sl.mono R24 hle125
      have Rp_t1:=Sl.mono Rp_t1 hle125
      refine We ?_
      refine WC.next (rs:=[17]) ⟨H124,(hle120.trans hle125),S.drop _ (.cons _ (.cons _ (.cons _ (.cons _ (.cons _ (.cons_cons _ (.cons_cons _ .slnil)))))))⟩ kr (List.cons_ne_nil _ _) (all1 ?_)
      refine Nxt.mk (o:=_) (bm 20 262143) rfl rfl<|W.app (α:=GAxis) (i:=3) S el22 rfl rfl rfl R21 R126 hl64 ?_
      intro v127 w128 H129 hle130 R131 S
      have Rp_t0:=Sl.mono Rp_t0 hle130
      have R21:=Sl.mono R21 hle130
      have R110:=Sl.mono R110 hle130
      have R24:=Sl.mono R24 hle130
      have Rp_t1:=Sl.mono Rp_t1 hle130
      refine We ?_
      refine WC.take (i:=18) (bm 20 524287) rfl kr kr kr rfl (fun _ _=>(R.fieldB h16 zPc)) ?_
      refine WC.next (rs:=[19]) ⟨H129,((hle120.trans hle125).trans hle130),S.drop _ (.cons _ (.cons _ (.cons _ (.cons _ (.cons _ (.cons_cons _ (.cons_cons _ .slnil)))))))⟩ kr (List.cons_ne_nil _ _) (all1 ?_)
      refine Nxt.mk (o:=_) (bm 20 1048575) rfl rfl ?_
      refine W.storeSl (α:=GAxis) (i:=4) [v127,v23] S R131 rfl rfl rfl lay22 (Nat.le_of_ble_eq_true rfl) rfl ?_
      intro w132 S
      refine We<|WC.done ⟨H129,((hle120.trans hle125).trans hle130),S.drop _ (.cons _ (.cons _ (.cons _ (.cons _ (.cons _ (.cons_cons _ (.cons_cons _ .slnil)))))))⟩ kr ?_
      have S3:=S
      replace S3:=S3.front 6 rfl
      replace S3:=S3.front 6 rfl
      replace S3:=S3.front 6 rfl
      replace S3:=S3.front 6 rfl
      replace S3:=S3.front 6 rfl
      replace S3:St w0 H0 _ H129 [.row v23 36 8 m22.length,.row v127 68 2 l64.length,.box b5 25 [v127,v23],.box b3 25 [(.slice none 0 0),(.slice none 0 0)],.box b1 25 [vp_t0,vp_t1],.row u122 68 2 ([(⟨x41.fName,l53⟩:GAxis)]:List GAxis).length,.row v117 9 1 l53.length]:=S3
      replace S3:St w0 H0 _ H129 [.row v23 36 8 m22.length,.row v127 68 2 l64.length,.box b5 25 [v127,v23],.box b3 25 [(.slice none 0 0),(.slice none 0 0)],.box b1 25 [vp_t0,vp_t1]]:=S3.drop _ (.cons_cons _ (.cons_cons _ (.cons_cons _ (.cons_cons _ (.cons_cons _ (.cons _ (.cons _ .slnil)))))))
      exact ⟨H129,v127,h14,h15,h16,h18,R131,R24,Rp_t0,Rp_t1,S3⟩
     refine Nxt.mk (o:=_) (bm 20 32543) rfl rfl ?_
     have S:=S.addNil 9 1
     refine W.app (α:=Str) (i:=0) S el34 rfl rfl rfl Sl.nil R110 hl53 ?_
     intro v133 w134 H135 hle136 R137 S
     have Rp_t0:=Sl.mono Rp_t0 hle136
     have R21:=Sl.mono R21 hle136
     have R24:=Sl.mono R24 hle136
     have Rp_t1:=Sl.mono Rp_t1 hle136
     refine We ?_
     refine WC.next (rs:=[5]) ⟨H135,hle136,S.drop _ (.cons _ (.cons _ (.cons _ (.cons _ (.cons_cons _ (.cons_cons _ .slnil))))))⟩ kr (List.cons_ne_nil _ _) (all1 ?_)
     refine Nxt.mk (o:=_) (bm 20 32575) rfl rfl<|W.idx (α:=GAxis) Rp_t0 rfl rfl el22 hx41 ?_
     rintro a138 _ hA139 ⟨v140,rfl,R141⟩
     refine We ?_
     refine WC.take (i:=6) (bm 20 32639) rfl kr kr kr rfl (fun _ _=>(R.field rfl zOL)) ?_
     have hA142:=At.add hA139 0 (by simp)
     refine WC.next (rs:=[7]) ⟨H135,hle136,S.drop _ (.cons _ (.cons _ (.cons _ (.cons _ (.cons_cons _ (.cons_cons _ .slnil))))))⟩ kr (List.cons_ne_nil _ _) (all1 ?_)
     refine Nxt.mk (o:=_) (bm 20 32767) rfl rfl ?_
     refine Lq S hA142<|We ?_
     refine WC.take (i:=15) (bm 20 65535) rfl kr kr kr rfl (fun _ _=>(R.build [(0,(str x41.fName)),(1,v133)] [(str x41.fName),v133] bp68 zer68 rfl (by obtain ⟨_,_,rfl,_⟩:=R137; rfl))) ?_
     refine WC.next (rs:=[16]) ⟨H135,hle136,S.drop _ (.cons _ (.cons _ (.cons _ (.cons _ (.cons_cons _ (.cons_cons _ .slnil))))))⟩ kr (List.cons_ne_nil _ _) (all1 ?_)
     refine Nxt.mk (o:=_) (bm 20 131071) rfl rfl<|W.bslice (α:=GAxis) [(agg [(str x41.fName),v133])] ([(⟨x41.fName,l53⟩:GAxis)]:List GAxis) S el22 rfl rfl rfl (by decide) (Go.Eng.encS ⟨rfl,_,rfl,R137⟩ enc0) ?_
     intro u143 w144 H145 hle146 R147 S
     have Rp_t0:=Sl.mono Rp_t0 hle146
     have R21:=Sl.mono R21 hle146
     have R24:=Sl.mono R24 hle146
     have Rp_t1:=Sl.mono Rp_t1 hle146
     refine We ?_
     refine WC.next (rs:=[17]) ⟨H145,(hle136.trans hle146),S.drop _ (.cons _ (.cons _ (.cons _ (.cons _ (.cons _ (.cons_cons _ (.cons_cons _ .slnil)))))))⟩ kr (List.cons_ne_nil _ _) (all1 ?_)
     refine Nxt.mk (o:=_) (bm 20 262143) rfl rfl<|W.app (α:=GAxis) (i:=3) S el22 rfl rfl rfl R21 R147 hl64 ?_
     intro v148 w149 H150 hle151 R152 S
     have Rp_t0:=Sl.mono Rp_t0 hle151
     have R21:=Sl.mono R21 hle151
     have R24:=Sl.mono R24 hle151
     have Rp_t1:=Sl.mono Rp_t1 hle151
     refine We ?_
     refine WC.take (i:=18) (bm 20 524287) rfl kr kr kr rfl (fun _ _=>(R.fieldB h16 zPc)) ?_
     refine WC.next (rs:=[19]) ⟨H150,((hle136.trans hle146).trans hle151),S.drop _ (.cons _ (.cons _ (.cons _ (.cons _ (.cons _ (.cons_cons _ (.cons_cons _ .slnil)))))))⟩ kr (List.cons_ne_nil _ _) (all1 ?_)
     refine Nxt.mk (o:=_) (bm 20 1048575) rfl rfl ?_
     refine W.storeSl (α:=GAxis) (i:=4) [v148,v23] S R152 rfl rfl rfl lay22 (Nat.le_of_ble_eq_true rfl) rfl ?_
     intro w153 S
     refine We<|WC.done ⟨H150,((hle136.trans hle146).trans hle151),S.drop _ (.cons _ (.cons _ (.cons _ (.cons _ (.cons _ (.cons_cons _ (.cons_cons _ .slnil)))))))⟩ kr ?_
     have S3:=S
     replace S3:=S3.front 6 rfl
     replace S3:=S3.front 6 rfl
     replace S3:=S3.front 6 rfl
     replace S3:=S3.front 6 rfl
     replace S3:=S3.front 6 rfl
     replace S3:St w0 H0 _ H150 [.row v23 36 8 m22.length,.row v148 68 2 l64.length,.box b5 25 [v148,v23],.box b3 25 [(.slice none 0 0),(.slice none 0 0)],.box b1 25 [vp_t0,vp_t1],.row u143 68 2 ([(⟨x41.fName,l53⟩:GAxis)]:List GAxis).length,.row v133 9 1 l53.length]:=S3
     replace S3:St w0 H0 _ H150 [.row v23 36 8 m22.length,.row v148 68 2 l64.length,.box b5 25 [v148,v23],.box b3 25 [(.slice none 0 0),(.slice none 0 0)],.box b1 25 [vp_t0,vp_t1]]:=S3.drop _ (.cons_cons _ (.cons_cons _ (.cons_cons _ (.cons_cons _ (.cons_cons _ (.cons _ (.cons _ .slnil)))))))
     exact ⟨H150,v148,h14,h15,h16,h18,R152,R24,Rp_t0,Rp_t1,S3⟩
    ·refine Nxt.mk (o:=_) (bm 20 1853) rfl rfl<|W.idx (α:=GAxis) Rp_t0 rfl rfl el22 hx41 ?_
     rintro a154 _ hA155 ⟨v156,rfl,R157⟩
     refine We ?_
     refine WC.take (i:=6) (bm 20 1917) rfl kr kr kr rfl (fun _ _=>(R.field rfl zOL)) ?_
     have hA158:=At.add hA155 0 (by simp)
     refine WC.take (i:=7) (bm 20 2045) rfl kr kr kr rfl (fun w hw=>by obtain ⟨_,hq,S⟩:=hw; exact (R.loadH (v:=str x41.fName) S rfl (At.mono hA158 hq (by simp)) lay9 rfl)) ?_
     refine WC.next (rs:=[1,11]) ⟨H13,(Hp.le.refl _),S.drop _ (.cons _ (.cons _ (.cons _ (.cons_cons _ (.cons_cons _ .slnil)))))⟩ kr (List.cons_ne_nil _ _) (allS ?_ (all1 ?_))
     ·refine Nxt.mk (o:=_) (bm 20 2047) rfl rfl ?_
      refine Lo 2 S<|We ?_
      refine WC.next (rs:=[11]) ⟨H13,(Hp.le.refl _),S.drop _ (.cons _ (.cons _ (.cons _ (.cons_cons _ (.cons_cons _ .slnil)))))⟩ kr (List.cons_ne_nil _ _) (all1 ?_)
      refine Nxt.mk (o:=_) (bm 20 4095) rfl rfl<|W.idx (α:=GAxis) Rp_t0 rfl rfl el22 hx47 ?_
      rintro a159 _ hA160 ⟨v161,rfl,R162⟩
      refine We ?_
      refine WC.take (i:=12) (bm 20 8191) rfl kr kr kr rfl (fun _ _=>(R.field rfl zNu)) ?_
      have hA163:=At.add hA160 1 (by simp)
      refine WC.take (i:=13) (bm 20 16383) rfl kr kr kr rfl (fun w hw=>by obtain ⟨_,hq,S⟩:=hw; exact (R.loadH (v:=v161) S rfl (At.mono hA163 hq (by simp)) lay34 rfl)) ?_
      refine WC.next (rs:=[14]) ⟨H13,(Hp.le.refl _),S.drop _ (.cons _ (.cons _ (.cons _ (.cons_cons _ (.cons_cons _ .slnil)))))⟩ kr (List.cons_ne_nil _ _) (all1 ?_)
      refine Nxt.mk (o:=_) (bm 20 32767) rfl rfl ?_
      have S:=S.addNil 9 1
      refine W.app (α:=Str) (i:=0) S el34 rfl rfl rfl Sl.nil R162 hl53 ?_
      intro v164 w165 H166 hle167 R168 S
      have Rp_t0:=Sl.mono Rp_t0 hle167
      have R21:=Sl.mono R21 hle167
      have R24:=Sl.mono R24 hle167
      have Rp_t1:=Sl.mono Rp_t1 hle167
      refine We ?_
      refine WC.take (i:=15) (bm 20 65535) rfl kr kr kr rfl (fun _ _=>(R.build [(0,(str x41.fName)),(1,v164)] [(str x41.fName),v164] bp68 zer68 rfl (by obtain ⟨_,_,rfl,_⟩:=R168; rfl))) ?_
      refine WC.next (rs:=[16]) ⟨H166,hle167,S.drop _ (.cons _ (.cons _ (.cons _ (.cons _ (.cons_cons _ (.cons_cons _ .slnil))))))⟩ kr (List.cons_ne_nil _ _) (all1 ?_)
      refine Nxt.mk (o:=_) (bm 20 131071) rfl rfl<|W.bslice (α:=GAxis) [(agg [(str x41.fName),v164])] ([(⟨x41.fName,l53⟩:GAxis)]:List GAxis) S el22 rfl rfl rfl (by decide) (Go.Eng.encS ⟨rfl,_,rfl,R168⟩ enc0) ?_
      intro u169 w170 H171 hle172 R173 S
      have Rp_t0:=Sl.mono Rp_t0 hle172
      have R21:=Sl.mono R21 hle172
      have R24:=Sl.mono R24 hle172
      have Rp_t1:=Sl.mono Rp_t1 hle172
      refine We ?_
      refine WC.next (rs:=[17]) ⟨H171,(hle167.trans hle172),S.drop _ (.cons _ (.cons _ (.cons _ (.cons _ (.cons _ (.cons_cons _ (.cons_cons _ .slnil)))))))⟩ kr (List.cons_ne_nil _ _) (all1 ?_)
      refine Nxt.mk (o:=_) (bm 20 262143) rfl rfl<|W.app (α:=GAxis) (i:=3) S el22 rfl rfl rfl R21 R173 hl64 ?_
      intro v174 w175 H176 hle177 R178 S
      have Rp_t0:=Sl.mono Rp_t0 hle177
      have R21:=Sl.mono R21 hle177
      have R24:=Sl.mono R24 hle177
      have Rp_t1:=Sl.mono Rp_t1 hle177
      refine We ?_
      refine WC.take (i:=18) (bm 20 524287) rfl kr kr kr rfl (fun _ _=>(R.fieldB h16 zPc)) ?_
      refine WC.next (rs:=[19]) ⟨H176,((hle167.trans hle172).trans hle177),S.drop _ (.cons _ (.cons _ (.cons _ (.cons _ (.cons _ (.cons_cons _ (.cons_cons _ .slnil)))))))⟩ kr (List.cons_ne_nil _ _) (all1 ?_)
      refine Nxt.mk (o:=_) (bm 20 1048575) rfl rfl ?_
      refine W.storeSl (α:=GAxis) (i:=4) [v174,v23] S R178 rfl rfl rfl lay22 (Nat.le_of_ble_eq_true rfl) rfl ?_
      intro w179 S
      refine We<|WC.done ⟨H176,((hle167.trans hle172).trans hle177),S.drop _ (.cons _ (.cons _ (.cons _ (.cons _ (.cons _ (.cons_cons _ (.cons_cons _ .slnil)))))))⟩ kr ?_
      have S3:=S
      replace S3:=S3.front 6 rfl
      replace S3:=S3.front 6 rfl
      replace S3:=S3.front 6 rfl
      replace S3:=S3.front 6 rfl
      replace S3:=S3.front 6 rfl
      replace S3:St w0 H0 _ H176 [.row v23 36 8 m22.length,.row v174 68 2 l64.length,.box b5 25 [v174,v23],.box b3 25 [(.slice none 0 0),(.slice none 0 0)],.box b1 25 [vp_t0,vp_t1],.row u169 68 2 ([(⟨x41.fName,l53⟩:GAxis)]:List GAxis).length,.row v164 9 1 l53.length]:=S3
      replace S3:St w0 H0 _ H176 [.row v23 36 8 m22.length,.row v174 68 2 l64.length,.box b5 25 [v174,v23],.box b3 25 [(.slice none 0 0),(.slice none 0 0)],.box b1 25 [vp_t0,vp_t1]]:=S3.drop _ (.cons_cons _ (.cons_cons _ (.cons_cons _ (.cons_cons _ (.cons_cons _ (.cons _ (.cons _ .slnil)))))))
      exact ⟨H176,v174,h14,h15,h16,h18,R178,R24,Rp_t0,Rp_t1,S3⟩
     refine Nxt.mk (o:=_) (bm 20 4093) rfl rfl<|W.idx (α:=GAxis) Rp_t0 rfl rfl el22 hx47 ?_
     rintro a180 _ hA181 ⟨v182,rfl,R183⟩
     refine We ?_
     refine WC.take (i:=12) (bm 20 8189) rfl kr kr kr rfl (fun _ _=>(R.field rfl zNu)) ?_
     have hA184:=At.add hA181 1 (by simp)
     refine WC.take (i:=13) (bm 20 16381) rfl kr kr kr rfl (fun w hw=>by obtain ⟨_,hq,S⟩:=hw; exact (R.loadH (v:=v182) S rfl (At.mono hA184 hq (by simp)) lay34 rfl)) ?_
     refine WC.next (rs:=[1,14]) ⟨H13,(Hp.le.refl _),S.drop _ (.cons _ (.cons _ (.cons _ (.cons_cons _ (.cons_cons _ .slnil)))))⟩ kr (List.cons_ne_nil _ _) (allS ?_ (all1 ?_))
     ·refine Nxt.mk (o:=_) (bm 20 16383) rfl rfl ?_
      refine Lo 2 S<|We ?_
      refine WC.next (rs:=[14]) ⟨H13,(Hp.le.refl _),S.drop _ (.cons _ (.cons _ (.cons _ (.cons_cons _ (.cons_cons _ .slnil)))))⟩ kr (List.cons_ne_nil _ _) (all1 ?_)
      refine Nxt.mk (o:=_) (bm 20 32767) rfl rfl ?_
      have S:=S.addNil 9 1
      refine W.app (α:=Str) (i:=0) S el34 rfl rfl rfl Sl.nil R183 hl53 ?_
      intro v185 w186 H187 hle188 R189 S
      have Rp_t0:=Sl.mono Rp_t0 hle188
      have R183:=Sl.mono R183 hle188
      have R21:=Sl.mono R21 hle188
      have R24:=Sl.mono R24 hle188
      have Rp_t1:=Sl.mono Rp_t1 hle188
      refine We ?_
      refine WC.take (i:=15) (bm 20 65535) rfl kr kr kr rfl (fun _ _=>(R.build [(0,(str x41.fName)),(1,v185)] [(str x41.fName),v185] bp68 zer68 rfl (by obtain ⟨_,_,rfl,_⟩:=R189; rfl))) ?_
      refine WC.next (rs:=[16]) ⟨H187,hle188,S.drop _ (.cons _ (.cons _ (.cons _ (.cons _ (.cons_cons _ (.cons_cons _ .slnil))))))⟩ kr (List.cons_ne_nil _ _) (all1 ?_)
      refine Nxt.mk (o:=_) (bm 20 131071) rfl rfl<|W.bslice (α:=GAxis) [(agg [(str x41.fName),v185])] ([(⟨x41.fName,l53⟩:GAxis)]:List GAxis) S el22 rfl rfl rfl (by decide) (Go.Eng.encS ⟨rfl,_,rfl,R189⟩ enc0) ?_
      intro u190 w191 H192 hle193 R194 S
      have Rp_t0:=Sl.mono Rp_t0 hle193
      have R183:=Sl.mono R183 hle193
      have R21:=Sl.mono R21 hle193
      have R24:=Sl.mono R24 hle193
      have Rp_t1:=Sl.mono Rp_t1 hle193
      refine We ?_
      refine WC.next (rs:=[17]) ⟨H192,(hle188.trans hle193),S.drop _ (.cons _ (.cons _ (.cons _ (.cons _ (.cons _ (.cons_cons _ (.cons_cons _ .slnil)))))))⟩ kr (List.cons_ne_nil _ _) (all1 ?_)
      refine Nxt.mk (o:=_) (bm 20 262143) rfl rfl<|W.app (α:=GAxis) (i:=3) S el22 rfl rfl rfl R21 R194 hl64 ?_
      intro v195 w196 H197 hle198 R199 S
      have Rp_t0:=Sl.mono Rp_t0 hle198
      have R183:=Sl.mono R183 hle198
      have R21:=Sl.mono R21 hle198
      have R24:=Sl.mono R24 hle198
      have Rp_t1:=Sl.mono Rp_t1 hle198
      refine We ?_
      refine WC.take (i:=18) (bm 20 524287) rfl kr kr kr rfl (fun _ _=>(R.fieldB h16 zPc)) ?_
      refine WC.next (rs:=[19]) ⟨H197,((hle188.trans hle193).trans hle198),S.drop _ (.cons _ (.cons _ (.cons _ (.cons _ (.cons _ (.cons_cons _ (.cons_cons _ .slnil)))))))⟩ kr (List.cons_ne_nil _ _) (all1 ?_)
      refine Nxt.mk (o:=_) (bm 20 1048575) rfl rfl ?_
      refine W.storeSl (α:=GAxis) (i:=4) [v195,v23] S R199 rfl rfl rfl lay22 (Nat.le_of_ble_eq_true rfl) rfl ?_
      intro w200 S
      refine We<|WC.done ⟨H197,((hle188.trans hle193).trans hle198),S.drop _ (.cons _ (.cons _ (.cons _ (.cons _ (.cons _ (.cons_cons _ (.cons_cons _ .slnil)))))))⟩ kr ?_
      have S3:=S
      replace S3:=S3.front 6 rfl
      replace S3:=S3.front 6 rfl
      replace S3:=S3.front 6 rfl
      replace S3:=S3.front 6 rfl
      replace S3:=S3.front 6 rfl
      replace S3:St w0 H0 _ H197 [.row v23 36 8 m22.length,.row v195 68 2 l64.length,.box b5 25 [v195,v23],.box b3 25 [(.slice none 0 0),(.slice none 0 0)],.box b1 25 [vp_t0,vp_t1],.row u190 68 2 ([(⟨x41.fName,l53⟩:GAxis)]:List GAxis).length,.row v185 9 1 l53.length]:=S3
      replace S3:St w0 H0 _ H197 [.row v23 36 8 m22.length,.row v195 68 2 l64.length,.box b5 25 [v195,v23],.box b3 25 [(.slice none 0 0),(.slice none 0 0)],.box b1 25 [vp_t0,vp_t1]]:=S3.drop _ (.cons_cons _ (.cons_cons _ (.cons_cons _ (.cons_cons _ (.cons_cons _ (.cons _ (.cons _ .slnil)))))))
      exact ⟨H197,v195,h14,h15,h16,h18,R199,R24,Rp_t0,Rp_t1,S3⟩
     refine Nxt.mk (o:=_) (bm 20 32765) rfl rfl ?_
     have S:=S.addNil 9 1
     refine W.app (α:=Str) (i:=0) S el34 rfl rfl rfl Sl.nil R183 hl53 ?_
     intro v201 w202 H203 hle204 R205 S
     have Rp_t0:=Sl.mono Rp_t0 hle204
     have R21:=Sl.mono R21 hle204
     have R24:=Sl.mono R24 hle204
     have Rp_t1:=Sl.mono Rp_t1 hle204
     refine We ?_
     refine WC.take (i:=15) (bm 20 65533) rfl kr kr kr rfl (fun _ _=>(R.build [(0,(str x41.fName)),(1,v201)] [(str x41.fName),v201] bp68 zer68 rfl (by obtain ⟨_,_,rfl,_⟩:=R205; rfl))) ?_
     refine WC.next (rs:=[1,16]) ⟨H203,hle204,S.drop _ (.cons _ (.cons _ (.cons _ (.cons _ (.cons_cons _ (.cons_cons _ .slnil))))))⟩ kr (List.cons_ne_nil _ _) (allS ?_ (all1 ?_))
     ·refine Nxt.mk (o:=_) (bm 20 65535) rfl rfl ?_
      refine Lo 3 S<|We ?_
      refine WC.next (rs:=[16]) ⟨H203,hle204,S.drop _ (.cons _ (.cons _ (.cons _ (.cons _ (.cons_cons _ (.cons_cons _ .slnil))))))⟩ kr (List.cons_ne_nil _ _) (all1 ?_)
      refine Nxt.mk (o:=_) (bm 20 131071) rfl rfl<|W.bslice (α:=GAxis) [(agg [(str x41.fName),v201])] ([(⟨x41.fName,l53⟩:GAxis)]:List GAxis) S el22 rfl rfl rfl (by decide) (Go.Eng.encS ⟨rfl,_,rfl,R205⟩ enc0) ?_
      intro u206 w207 H208 hle209 R210 S
      have Rp_t0:=Sl.mono Rp_t0 hle209
      have R205:=Sl.mono R205 hle209
      have R21:=Sl.mono R21 hle209
      have R24:=Sl.mono R24 hle209
      have Rp_t1:=Sl.mono Rp_t1 hle209
      refine We ?_
      refine WC.next (rs:=[17]) ⟨H208,(hle204.trans hle209),S.drop _ (.cons _ (.cons _ (.cons _ (.cons _ (.cons _ (.cons_cons _ (.cons_cons _ .slnil)))))))⟩ kr (List.cons_ne_nil _ _) (all1 ?_)
      refine Nxt.mk (o:=_) (bm 20 262143) rfl rfl<|W.app (α:=GAxis) (i:=3) S el22 rfl rfl rfl R21 R210 hl64 ?_
      intro v211 w212 H213 hle214 R215 S
      have Rp_t0:=Sl.mono Rp_t0 hle214
      have R205:=Sl.mono R205 hle214
      have R21:=Sl.mono R21 hle214
      have R24:=Sl.mono R24 hle214
      have Rp_t1:=Sl.mono Rp_t1 hle214
      refine We ?_
      refine WC.take (i:=18) (bm 20 524287) rfl kr kr kr rfl (fun _ _=>(R.fieldB h16 zPc)) ?_
      refine WC.next (rs:=[19]) ⟨H213,((hle204.trans hle209).trans hle214),S.drop _ (.cons _ (.cons _ (.cons _ (.cons _ (.cons _ (.cons_cons _ (.cons_cons _ .slnil)))))))⟩ kr (List.cons_ne_nil _ _) (all1 ?_)
      refine Nxt.mk (o:=_) (bm 20 1048575) rfl rfl ?_
      refine W.storeSl (α:=GAxis) (i:=4) [v211,v23] S R215 rfl rfl rfl lay22 (Nat.le_of_ble_eq_true rfl) rfl ?_
      intro w216 S
      refine We<|WC.done ⟨H213,((hle204.trans hle209).trans hle214),S.drop _ (.cons _ (.cons _ (.cons _ (.cons _ (.cons _ (.cons_cons _ (.cons_cons _ .slnil)))))))⟩ kr ?_
      have S3:=S
      replace S3:=S3.front 6 rfl
      replace S3:=S3.front 6 rfl
      replace S3:=S3.front 6 rfl
      replace S3:=S3.front 6 rfl
      replace S3:=S3.front 6 rfl
      replace S3:St w0 H0 _ H213 [.row v23 36 8 m22.length,.row v211 68 2 l64.length,.box b5 25 [v211,v23],.box b3 25 [(.slice none 0 0),(.slice none 0 0)],.box b1 25 [vp_t0,vp_t1],.row u206 68 2 ([(⟨x41.fName,l53⟩:GAxis)]:List GAxis).length,.row v201 9 1 l53.length]:=S3
      replace S3:St w0 H0 _ H213 [.row v23 36 8 m22.length,.row v211 68 2 l64.length,.box b5 25 [v211,v23],.box b3 25 [(.slice none 0 0),(.slice none 0 0)],.box b1 25 [vp_t0,vp_t1]]:=S3.drop _ (.cons_cons _ (.cons_cons _ (.cons_cons _ (.cons_cons _ (.cons_cons _ (.cons _ (.cons _ .slnil)))))))
      exact ⟨H213,v211,h14,h15,h16,h18,R215,R24,Rp_t0,Rp_t1,S3⟩
     refine Nxt.mk (o:=_) (bm 20 131069) rfl rfl<|W.bslice (α:=GAxis) [(agg [(str x41.fName),v201])] ([(⟨x41.fName,l53⟩:GAxis)]:List GAxis) S el22 rfl rfl rfl (by decide) (Go.Eng.encS ⟨rfl,_,rfl,R205⟩ enc0) ?_
     intro u217 w218 H219 hle220 R221 S
     have Rp_t0:=Sl.mono Rp_t0 hle220
     have R21:=Sl.mono R21 hle220
     have R24:=Sl.mono R24 hle220
     have Rp_t1:=Sl.mono Rp_t1 hle220
     refine We ?_
     refine WC.next (rs:=[1]) ⟨H219,(hle204.trans hle220),S.drop _ (.cons _ (.cons _ (.cons _ (.cons _ (.cons _ (.cons_cons _ (.cons_cons _ .slnil)))))))⟩ kr (List.cons_ne_nil _ _) (all1 ?_)
     refine Nxt.mk (o:=_) (bm 20 131071) rfl rfl ?_
     refine Lo 4 S<|We ?_
     refine WC.next (rs:=[17]) ⟨H219,(hle204.trans hle220),S.drop _ (.cons _ (.cons _ (.cons _ (.cons _ (.cons _ (.cons_cons _ (.cons_cons _ .slnil)))))))⟩ kr (List.cons_ne_nil _ _) (all1 ?_)
     refine Nxt.mk (o:=_) (bm 20 262143) rfl rfl<|W.app (α:=GAxis) (i:=3) S el22 rfl rfl rfl R21 R221 hl64 ?_
     intro v222 w223 H224 hle225 R226 S
     have Rp_t0:=Sl.mono Rp_t0 hle225
     have R21:=Sl.mono R21 hle225
     have R24:=Sl.mono R24 hle225
     have Rp_t1:=Sl.mono Rp_t1 hle225
     refine We ?_
     refine WC.take (i:=18) (bm 20 524287) rfl kr kr kr rfl (fun _ _=>(R.fieldB h16 zPc)) ?_
     refine WC.next (rs:=[19]) ⟨H224,((hle204.trans hle220).trans hle225),S.drop _ (.cons _ (.cons _ (.cons _ (.cons _ (.cons _ (.cons_cons _ (.cons_cons _ .slnil)))))))⟩ kr (List.cons_ne_nil _ _) (all1 ?_)
     refine Nxt.mk (o:=_) (bm 20 1048575) rfl rfl ?_
     refine W.storeSl (α:=GAxis) (i:=4) [v222,v23] S R226 rfl rfl rfl lay22 (Nat.le_of_ble_eq_true rfl) rfl ?_
     intro w227 S
     refine We<|WC.done ⟨H224,((hle204.trans hle220).trans hle225),S.drop _ (.cons _ (.cons _ (.cons _ (.cons _ (.cons _ (.cons_cons _ (.cons_cons _ .slnil)))))))⟩ kr ?_
     have S3:=S
     replace S3:=S3.front 6 rfl
     replace S3:=S3.front 6 rfl
     replace S3:=S3.front 6 rfl
     replace S3:=S3.front 6 rfl
     replace S3:=S3.front 6 rfl
     replace S3:St w0 H0 _ H224 [.row v23 36 8 m22.length,.row v222 68 2 l64.length,.box b5 25 [v222,v23],.box b3 25 [(.slice none 0 0),(.slice none 0 0)],.box b1 25 [vp_t0,vp_t1],.row u217 68 2 ([(⟨x41.fName,l53⟩:GAxis)]:List GAxis).length,.row v201 9 1 l53.length]:=S3
     replace S3:St w0 H0 _ H224 [.row v23 36 8 m22.length,.row v222 68 2 l64.length,.box b5 25 [v222,v23],.box b3 25 [(.slice none 0 0),(.slice none 0 0)],.box b1 25 [vp_t0,vp_t1]]:=S3.drop _ (.cons_cons _ (.cons_cons _ (.cons_cons _ (.cons_cons _ (.cons_cons _ (.cons _ (.cons _ .slnil)))))))
     exact ⟨H224,v222,h14,h15,h16,h18,R226,R24,Rp_t0,Rp_t1,S3⟩
    refine Nxt.mk (o:=_) (bm 20 3869) rfl rfl<|W.idx (α:=GAxis) Rp_t0 rfl rfl el22 hx47 ?_
    rintro a228 _ hA229 ⟨v230,rfl,R231⟩
    refine We ?_
    refine WC.take (i:=12) (bm 20 7965) rfl kr kr kr rfl (fun _ _=>(R.field rfl zNu)) ?_
    have hA232:=At.add hA229 1 (by simp)
    refine WC.take (i:=13) (bm 20 16157) rfl kr kr kr rfl (fun w hw=>by obtain ⟨_,hq,S⟩:=hw; exact (R.loadH (v:=v230) S rfl (At.mono hA232 hq (by simp)) lay34 rfl)) ?_
    refine WC.next (rs:=[1,5,14]) ⟨H13,(Hp.le.refl _),S.drop _ (.cons _ (.cons _ (.cons _ (.cons_cons _ (.cons_cons _ .slnil)))))⟩ kr (List.cons_ne_nil _ _) (allS ?_ (allS ?_ (all1 ?_)))
    ·refine Nxt.mk (o:=_) (bm 20 16159) rfl rfl ?_
     refine Lo 2 S<|We ?_
     refine WC.next (rs:=[5,14]) ⟨H13,(Hp.le.refl _),S.drop _ (.cons _ (.cons _ (.cons _ (.cons_cons _ (.cons_cons _ .slnil)))))⟩ kr (List.cons_ne_nil _ _) (allS ?_ (all1 ?_))
     ·refine Nxt.mk (o:=_) (bm 20 16191) rfl rfl<|W.idx (α:=GAxis) Rp_t0 rfl rfl el22 hx41 ?_
      rintro a233 _ hA234 ⟨v235,rfl,R236⟩
      refine We ?_
      refine WC.take (i:=6) (bm 20 16255) rfl kr kr kr rfl (fun _ _=>(R.field rfl zOL)) ?_
      have hA237:=At.add hA234 0 (by simp)
      refine WC.take (i:=7) (bm 20 16383) rfl kr kr kr rfl (fun w hw=>by obtain ⟨_,hq,S⟩:=hw; exact (R.loadH (v:=str x41.fName) S rfl (At.mono hA237 hq (by simp)) lay9 rfl)) ?_
      refine WC.next (rs:=[14]) ⟨H13,(Hp.le.refl _),S.drop _ (.cons _ (.cons _ (.cons _ (.cons_cons _ (.cons_cons _ .slnil)))))⟩ kr (List.cons_ne_nil _ _) (all1 ?_)
      refine Nxt.mk (o:=_) (bm 20 32767) rfl rfl ?_
      have S:=S.addNil 9 1
      refine W.app (α:=Str) (i:=0) S el34 rfl rfl rfl Sl.nil R231 hl53 ?_
      intro v238 w239 H240 hle241 R242 S
      have Rp_t0:=Sl.mono Rp_t0 hle241
      have R231:=Sl.mono R231 hle241
      have R21:=Sl.mono R21 hle241
      have R24:=Sl.mono R24 hle241
      have Rp_t1:=Sl.mono Rp_t1 hle241
      refine We ?_
      refine WC.take (i:=15) (bm 20 65535) rfl kr kr kr rfl (fun _ _=>(R.build [(0,(str x41.fName)),(1,v238)] [(str x41.fName),v238] bp68 zer68 rfl (by obtain ⟨_,_,rfl,_⟩:=R242; rfl))) ?_
      refine WC.next (rs:=[16]) ⟨H240,hle241,S.drop _ (.cons _ (.cons _ (.cons _ (.cons _ (.cons_cons _ (.cons_cons _ .slnil))))))⟩ kr (List.cons_ne_nil _ _) (all1 ?_)
      refine Nxt.mk (o:=_) (bm 20 131071) rfl rfl<|W.bslice (α:=GAxis) [(agg [(str x41.fName),v238])] ([(⟨x41.fName,l53⟩:GAxis)]:List GAxis) S el22 rfl rfl rfl (by decide) (Go.Eng.encS ⟨rfl,_,rfl,R242⟩ enc0) ?_
      intro u243 w244 H245 hle246 R247 S
      have Rp_t0:=Sl.mono Rp_t0 hle246
      have R231:=Sl.mono R231 hle246
      have R21:=Sl.mono R21 hle246
      have R24:=Sl.mono R24 hle246
      have Rp_t1:=Sl.mono Rp_t1 hle246
      refine We ?_
      refine WC.next (rs:=[17]) ⟨H245,(hle241.trans hle246),S.drop _ (.cons _ (.cons _ (.cons _ (.cons _ (.cons _ (.cons_cons _ (.cons_cons _ .slnil)))))))⟩ kr (List.cons_ne_nil _ _) (all1 ?_)
      refine Nxt.mk (o:=_) (bm 20 262143) rfl rfl<|W.app (α:=GAxis) (i:=3) S el22 rfl rfl rfl R21 R247 hl64 ?_
      intro v248 w249 H250 hle251 R252 S
      have Rp_t0:=Sl.mono Rp_t0 hle251
      have R231:=Sl.mono R231 hle251
      have R21:=Sl.mono R21 hle251
      have R24:=Sl.mono R24 hle251
      have Rp_t1:=Sl.mono Rp_t1 hle251
      refine We ?_
      refine WC.take (i:=18) (bm 20 524287) rfl kr kr kr rfl (fun _ _=>(R.fieldB h16 zPc)) ?_
      refine WC.next (rs:=[19]) ⟨H250,((hle241.trans hle246).trans hle251),S.drop _ (.cons _ (.cons _ (.cons _ (.cons _ (.cons _ (.cons_cons _ (.cons_cons _ .slnil)))))))⟩ kr (List.cons_ne_nil _ _) (all1 ?_)
      refine Nxt.mk (o:=_) (bm 20 1048575) rfl rfl ?_
      refine W.storeSl (α:=GAxis) (i:=4) [v248,v23] S R252 rfl rfl rfl lay22 (Nat.le_of_ble_eq_true rfl) rfl ?_
      intro w253 S
      refine We<|WC.done ⟨H250,((hle241.trans hle246).trans hle251),S.drop _ (.cons _ (.cons _ (.cons _ (.cons _ (.cons _ (.cons_cons _ (.cons_cons _ .slnil)))))))⟩ kr ?_
      have S3:=S
      replace S3:=S3.front 6 rfl
      replace S3:=S3.front 6 rfl
      replace S3:=S3.front 6 rfl
      replace S3:=S3.front 6 rfl
      replace S3:=S3.front 6 rfl
      replace S3:St w0 H0 _ H250 [.row v23 36 8 m22.length,.row v248 68 2 l64.length,.box b5 25 [v248,v23],.box b3 25 [(.slice none 0 0),(.slice none 0 0)],.box b1 25 [vp_t0,vp_t1],.row u243 68 2 ([(⟨x41.fName,l53⟩:GAxis)]:List GAxis).length,.row v238 9 1 l53.length]:=S3
      replace S3:St w0 H0 _ H250 [.row v23 36 8 m22.length,.row v248 68 2 l64.length,.box b5 25 [v248,v23],.box b3 25 [(.slice none 0 0),(.slice none 0 0)],.box b1 25 [vp_t0,vp_t1]]:=S3.drop _ (.cons_cons _ (.cons_cons _ (.cons_cons _ (.cons_cons _ (.cons_cons _ (.cons _ (.cons _ .slnil)))))))
      exact ⟨H250,v248,h14,h15,h16,h18,R252,R24,Rp_t0,Rp_t1,S3⟩
     refine Nxt.mk (o:=_) (bm 20 32543) rfl rfl ?_
     have S:=S.addNil 9 1
     refine W.app (α:=Str) (i:=0) S el34 rfl rfl rfl Sl.nil R231 hl53 ?_
     intro v254 w255 H256 hle257 R258 S
     have Rp_t0:=Sl.mono Rp_t0 hle257
     have R231:=Sl.mono R231 hle257
     have R21:=Sl.mono R21 hle257
     have R24:=Sl.mono R24 hle257
     have Rp_t1:=Sl.mono Rp_t1 hle257
     refine We ?_
     refine WC.next (rs:=[5]) ⟨H256,hle257,S.drop _ (.cons _ (.cons _ (.cons _ (.cons _ (.cons_cons _ (.cons_cons _ .slnil))))))⟩ kr (List.cons_ne_nil _ _) (all1 ?_)
     refine Nxt.mk (o:=_) (bm 20 32575) rfl rfl<|W.idx (α:=GAxis) Rp_t0 rfl rfl el22 hx41 ?_
     rintro a259 _ hA260 ⟨v261,rfl,R262⟩
     refine We ?_
     refine WC.take (i:=6) (bm 20 32639) rfl kr kr kr rfl (fun _ _=>(R.field rfl zOL)) ?_
     have hA263:=At.add hA260 0 (by simp)
     refine WC.next (rs:=[7]) ⟨H256,hle257,S.drop _ (.cons _ (.cons _ (.cons _ (.cons _ (.cons_cons _ (.cons_cons _ .slnil))))))⟩ kr (List.cons_ne_nil _ _) (all1 ?_)
     refine Nxt.mk (o:=_) (bm 20 32767) rfl rfl ?_
     refine Lq S hA263<|We ?_
     refine WC.take (i:=15) (bm 20 65535) rfl kr kr kr rfl (fun _ _=>(R.build [(0,(str x41.fName)),(1,v254)] [(str x41.fName),v254] bp68 zer68 rfl (by obtain ⟨_,_,rfl,_⟩:=R258; rfl))) ?_
     refine WC.next (rs:=[16]) ⟨H256,hle257,S.drop _ (.cons _ (.cons _ (.cons _ (.cons _ (.cons_cons _ (.cons_cons _ .slnil))))))⟩ kr (List.cons_ne_nil _ _) (all1 ?_)
     refine Nxt.mk (o:=_) (bm 20 131071) rfl rfl<|W.bslice (α:=GAxis) [(agg [(str x41.fName),v254])] ([(⟨x41.fName,l53⟩:GAxis)]:List GAxis) S el22 rfl rfl rfl (by decide) (Go.Eng.encS ⟨rfl,_,rfl,R258⟩ enc0) ?_
     intro u264 w265 H266 hle267 R268 S
     have Rp_t0:=Sl.mono Rp_t0 hle267
     have R231:=Sl.mono R231 hle267
     have R21:=Sl.mono R21 hle267
     have R24:=Sl.mono R24 hle267
     have Rp_t1:=Sl.mono Rp_t1 hle267
     refine We ?_
     refine WC.next (rs:=[17]) ⟨H266,(hle257.trans hle267),S.drop _ (.cons _ (.cons _ (.cons _ (.cons _ (.cons _ (.cons_cons _ (.cons_cons _ .slnil)))))))⟩ kr (List.cons_ne_nil _ _) (all1 ?_)
     refine Nxt.mk (o:=_) (bm 20 262143) rfl rfl<|W.app (α:=GAxis) (i:=3) S el22 rfl rfl rfl R21 R268 hl64 ?_
     intro v269 w270 H271 hle272 R273 S
     have Rp_t0:=Sl.mono Rp_t0 hle272
     have R231:=Sl.mono R231 hle272
     have R21:=Sl.mono R21 hle272
     have R24:=Sl.mono R24 hle272
     have Rp_t1:=Sl.mono Rp_t1 hle272
     refine We ?_
     refine WC.take (i:=18) (bm 20 524287) rfl kr kr kr rfl (fun _ _=>(R.fieldB h16 zPc)) ?_
     refine WC.next (rs:=[19]) ⟨H271,((hle257.trans hle267).trans hle272),S.drop _ (.cons _ (.cons _ (.cons _ (.cons _ (.cons _ (.cons_cons _ (.cons_cons _ .slnil)))))))⟩ kr (List.cons_ne_nil _ _) (all1 ?_)
     refine Nxt.mk (o:=_) (bm 20 1048575) rfl rfl ?_
     refine W.storeSl (α:=GAxis) (i:=4) [v269,v23] S R273 rfl rfl rfl lay22 (Nat.le_of_ble_eq_true rfl) rfl ?_
     intro w274 S
     refine We<|WC.done ⟨H271,((hle257.trans hle267).trans hle272),S.drop _ (.cons _ (.cons _ (.cons _ (.cons _ (.cons _ (.cons_cons _ (.cons_cons _ .slnil)))))))⟩ kr ?_
     have S3:=S
     replace S3:=S3.front 6 rfl
     replace S3:=S3.front 6 rfl
     replace S3:=S3.front 6 rfl
     replace S3:=S3.front 6 rfl
     replace S3:=S3.front 6 rfl
     replace S3:St w0 H0 _ H271 [.row v23 36 8 m22.length,.row v269 68 2 l64.length,.box b5 25 [v269,v23],.box b3 25 [(.slice none 0 0),(.slice none 0 0)],.box b1 25 [vp_t0,vp_t1],.row u264 68 2 ([(⟨x41.fName,l53⟩:GAxis)]:List GAxis).length,.row v254 9 1 l53.length]:=S3
     replace S3:St w0 H0 _ H271 [.row v23 36 8 m22.length,.row v269 68 2 l64.length,.box b5 25 [v269,v23],.box b3 25 [(.slice none 0 0),(.slice none 0 0)],.box b1 25 [vp_t0,vp_t1]]:=S3.drop _ (.cons_cons _ (.cons_cons _ (.cons_cons _ (.cons_cons _ (.cons_cons _ (.cons _ (.cons _ .slnil)))))))
     exact ⟨H271,v269,h14,h15,h16,h18,R273,R24,Rp_t0,Rp_t1,S3⟩
    ·refine Nxt.mk (o:=_) (bm 20 16189) rfl rfl<|W.idx (α:=GAxis) Rp_t0 rfl rfl el22 hx41 ?_
     rintro a275 _ hA276 ⟨v277,rfl,R278⟩
     refine We ?_
     refine WC.take (i:=6) (bm 20 16253) rfl kr kr kr rfl (fun _ _=>(R.field rfl zOL)) ?_
     have hA279:=At.add hA276 0 (by simp)
     refine WC.take (i:=7) (bm 20 16381) rfl kr kr kr rfl (fun w hw=>by obtain ⟨_,hq,S⟩:=hw; exact (R.loadH (v:=str x41.fName) S rfl (At.mono hA279 hq (by simp)) lay9 rfl)) ?_
     refine WC.next (rs:=[1,14]) ⟨H13,(Hp.le.refl _),S.drop _ (.cons _ (.cons _ (.cons _ (.cons_cons _ (.cons_cons _ .slnil)))))⟩ kr (List.cons_ne_nil _ _) (allS ?_ (all1 ?_))
     ·refine Nxt.mk (o:=_) (bm 20 16383) rfl rfl ?_
      refine Lo 2 S<|We ?_
      refine WC.next (rs:=[14]) ⟨H13,(Hp.le.refl _),S.drop _ (.cons _ (.cons _ (.cons _ (.cons_cons _ (.cons_cons _ .slnil)))))⟩ kr (List.cons_ne_nil _ _) (all1 ?_)
      refine Nxt.mk (o:=_) (bm 20 32767) rfl rfl ?_
      have S:=S.addNil 9 1
      refine W.app (α:=Str) (i:=0) S el34 rfl rfl rfl Sl.nil R231 hl53 ?_
      intro v280 w281 H282 hle283 R284 S
      have Rp_t0:=Sl.mono Rp_t0 hle283
      have R231:=Sl.mono R231 hle283
      have R21:=Sl.mono R21 hle283
      have R24:=Sl.mono R24 hle283
      have Rp_t1:=Sl.mono Rp_t1 hle283
      refine We ?_
      refine WC.take (i:=15) (bm 20 65535) rfl kr kr kr rfl (fun _ _=>(R.build [(0,(str x41.fName)),(1,v280)] [(str x41.fName),v280] bp68 zer68 rfl (by obtain ⟨_,_,rfl,_⟩:=R284; rfl))) ?_
      refine WC.next (rs:=[16]) ⟨H282,hle283,S.drop _ (.cons _ (.cons _ (.cons _ (.cons _ (.cons_cons _ (.cons_cons _ .slnil))))))⟩ kr (List.cons_ne_nil _ _) (all1 ?_)
      refine Nxt.mk (o:=_) (bm 20 131071) rfl rfl<|W.bslice (α:=GAxis) [(agg [(str x41.fName),v280])] ([(⟨x41.fName,l53⟩:GAxis)]:List GAxis) S el22 rfl rfl rfl (by decide) (Go.Eng.encS ⟨rfl,_,rfl,R284⟩ enc0) ?_
      intro u285 w286 H287 hle288 R289 S
      have Rp_t0:=Sl.mono Rp_t0 hle288
      have R231:=Sl.mono R231 hle288
      have R21:=Sl.mono R21 hle288
      have R24:=Sl.mono R24 hle288
      have Rp_t1:=Sl.mono Rp_t1 hle288
      refine We ?_
      refine WC.next (rs:=[17]) ⟨H287,(hle283.trans hle288),S.drop _ (.cons _ (.cons _ (.cons _ (.cons _ (.cons _ (.cons_cons _ (.cons_cons _ .slnil)))))))⟩ kr (List.cons_ne_nil _ _) (all1 ?_)
      refine Nxt.mk (o:=_) (bm 20 262143) rfl rfl<|W.app (α:=GAxis) (i:=3) S el22 rfl rfl rfl R21 R289 hl64 ?_
      intro v290 w291 H292 hle293 R294 S
      have Rp_t0:=Sl.mono Rp_t0 hle293
      have R231:=Sl.mono R231 hle293
      have R21:=Sl.mono R21 hle293
      have R24:=Sl.mono R24 hle293
      have Rp_t1:=Sl.mono Rp_t1 hle293
      refine We ?_
      refine WC.take (i:=18) (bm 20 524287) rfl kr kr kr rfl (fun _ _=>(R.fieldB h16 zPc)) ?_
      refine WC.next (rs:=[19]) ⟨H292,((hle283.trans hle288).trans hle293),S.drop _ (.cons _ (.cons _ (.cons _ (.cons _ (.cons _ (.cons_cons _ (.cons_cons _ .slnil)))))))⟩ kr (List.cons_ne_nil _ _) (all1 ?_)
      refine Nxt.mk (o:=_) (bm 20 1048575) rfl rfl ?_
      refine W.storeSl (α:=GAxis) (i:=4) [v290,v23] S R294 rfl rfl rfl lay22 (Nat.le_of_ble_eq_true rfl) rfl ?_
      intro w295 S
      refine We<|WC.done ⟨H292,((hle283.trans hle288).trans hle293),S.drop _ (.cons _ (.cons _ (.cons _ (.cons _ (.cons _ (.cons_cons _ (.cons_cons _ .slnil)))))))⟩ kr ?_
      have S3:=S
      replace S3:=S3.front 6 rfl
      replace S3:=S3.front 6 rfl
      replace S3:=S3.front 6 rfl
      replace S3:=S3.front 6 rfl
      replace S3:=S3.front 6 rfl
      replace S3:St w0 H0 _ H292 [.row v23 36 8 m22.length,.row v290 68 2 l64.length,.box b5 25 [v290,v23],.box b3 25 [(.slice none 0 0),(.slice none 0 0)],.box b1 25 [vp_t0,vp_t1],.row u285 68 2 ([(⟨x41.fName,l53⟩:GAxis)]:List GAxis).length,.row v280 9 1 l53.length]:=S3
      replace S3:St w0 H0 _ H292 [.row v23 36 8 m22.length,.row v290 68 2 l64.length,.box b5 25 [v290,v23],.box b3 25 [(.slice none 0 0),(.slice none 0 0)],.box b1 25 [vp_t0,vp_t1]]:=S3.drop _ (.cons_cons _ (.cons_cons _ (.cons_cons _ (.cons_cons _ (.cons_cons _ (.cons _ (.cons _ .slnil)))))))
      exact ⟨H292,v290,h14,h15,h16,h18,R294,R24,Rp_t0,Rp_t1,S3⟩
     refine Nxt.mk (o:=_) (bm 20 32765) rfl rfl ?_
     have S:=S.addNil 9 1
     refine W.app (α:=Str) (i:=0) S el34 rfl rfl rfl Sl.nil R231 hl53 ?_
     intro v296 w297 H298 hle299 R300 S
     have Rp_t0:=Sl.mono Rp_t0 hle299
     have R231:=Sl.mono R231 hle299
     have R21:=Sl.mono R21 hle299
     have R24:=Sl.mono R24 hle299
     have Rp_t1:=Sl.mono Rp_t1 hle299
     refine We ?_
     refine WC.take (i:=15) (bm 20 65533) rfl kr kr kr rfl (fun _ _=>(R.build [(0,(str x41.fName)),(1,v296)] [(str x41.fName),v296] bp68 zer68 rfl (by obtain ⟨_,_,rfl,_⟩:=R300; rfl))) ?_
     refine WC.next (rs:=[1,16]) ⟨H298,hle299,S.drop _ (.cons _ (.cons _ (.cons _ (.cons _ (.cons_cons _ (.cons_cons _ .slnil))))))⟩ kr (List.cons_ne_nil _ _) (allS ?_ (all1 ?_))
     ·refine Nxt.mk (o:=_) (bm 20 65535) rfl rfl ?_
      refine Lo 3 S<|We ?_
      refine WC.next (rs:=[16]) ⟨H298,hle299,S.drop _ (.cons _ (.cons _ (.cons _ (.cons _ (.cons_cons _ (.cons_cons _ .slnil))))))⟩ kr (List.cons_ne_nil _ _) (all1 ?_)
      refine Nxt.mk (o:=_) (bm 20 131071) rfl rfl<|W.bslice (α:=GAxis) [(agg [(str x41.fName),v296])] ([(⟨x41.fName,l53⟩:GAxis)]:List GAxis) S el22 rfl rfl rfl (by decide) (Go.Eng.encS ⟨rfl,_,rfl,R300⟩ enc0) ?_
      intro u301 w302 H303 hle304 R305 S
      have Rp_t0:=Sl.mono Rp_t0 hle304
      have R231:=Sl.mono R231 hle304
      have R300:=Sl.mono R300 hle304
      have R21:=Sl.mono R21 hle304
      have R24:=Sl.mono R24 hle304
      have Rp_t1:=Sl.mono Rp_t1 hle304
      refine We ?_
      refine WC.next (rs:=[17]) ⟨H303,(hle299.trans hle304),S.drop _ (.cons _ (.cons _ (.cons _ (.cons _ (.cons _ (.cons_cons _ (.cons_cons _ .slnil)))))))⟩ kr (List.cons_ne_nil _ _) (all1 ?_)
      refine Nxt.mk (o:=_) (bm 20 262143) rfl rfl<|W.app (α:=GAxis) (i:=3) S el22 rfl rfl rfl R21 R305 hl64 ?_
      intro v306 w307 H308 hle309 R310 S
      have Rp_t0:=Sl.mono Rp_t0 hle309
      have R231:=Sl.mono R231 hle309
      have R300:=Sl.mono R300 hle309
      have R21:=Sl.mono R21 hle309
      have R24:=Sl.mono R24 hle309
      have Rp_t1:=Sl.mono Rp_t1 hle309
      refine We ?_
      refine WC.take (i:=18) (bm 20 524287) rfl kr kr kr rfl (fun _ _=>(R.fieldB h16 zPc)) ?_
      refine WC.next (rs:=[19]) ⟨H308,((hle299.trans hle304).trans hle309),S.drop _ (.cons _ (.cons _ (.cons _ (.cons _ (.cons _ (.cons_cons _ (.cons_cons _ .slnil)))))))⟩ kr (List.cons_ne_nil _ _) (all1 ?_)
      refine Nxt.mk (o:=_) (bm 20 1048575) rfl rfl ?_
      refine W.storeSl (α:=GAxis) (i:=4) [v306,v23] S R310 rfl rfl rfl lay22 (Nat.le_of_ble_eq_true rfl) rfl ?_
      intro w311 S
      refine We<|WC.done ⟨H308,((hle299.trans hle304).trans hle309),S.drop _ (.cons _ (.cons _ (.cons _ (.cons _ (.cons _ (.cons_cons _ (.cons_cons _ .slnil)))))))⟩ kr ?_
      have S3:=S
      replace S3:=S3.front 6 rfl
      replace S3:=S3.front 6 rfl
      replace S3:=S3.front 6 rfl
      replace S3:=S3.front 6 rfl
      replace S3:=S3.front 6 rfl
      replace S3:St w0 H0 _ H308 [.row v23 36 8 m22.length,.row v306 68 2 l64.length,.box b5 25 [v306,v23],.box b3 25 [(.slice none 0 0),(.slice none 0 0)],.box b1 25 [vp_t0,vp_t1],.row u301 68 2 ([(⟨x41.fName,l53⟩:GAxis)]:List GAxis).length,.row v296 9 1 l53.length]:=S3
      replace S3:St w0 H0 _ H308 [.row v23 36 8 m22.length,.row v306 68 2 l64.length,.box b5 25 [v306,v23],.box b3 25 [(.slice none 0 0),(.slice none 0 0)],.box b1 25 [vp_t0,vp_t1]]:=S3.drop _ (.cons_cons _ (.cons_cons _ (.cons_cons _ (.cons_cons _ (.cons_cons _ (.cons _ (.cons _ .slnil)))))))
      exact ⟨H308,v306,h14,h15,h16,h18,R310,R24,Rp_t0,Rp_t1,S3⟩
     refine Nxt.mk (o:=_) (bm 20 131069) rfl rfl<|W.bslice (α:=GAxis) [(agg [(str x41.fName),v296])] ([(⟨x41.fName,l53⟩:GAxis)]:List GAxis) S el22 rfl rfl rfl (by decide) (Go.Eng.encS ⟨rfl,_,rfl,R300⟩ enc0) ?_
     intro u312 w313 H314 hle315 R316 S
     have Rp_t0:=Sl.mono Rp_t0 hle315
     have R231:=Sl.mono R231 hle315
     have R21:=Sl.mono R21 hle315
     have R24:=Sl.mono R24 hle315
     have Rp_t1:=Sl.mono Rp_t1 hle315
     refine We ?_
     refine WC.next (rs:=[1]) ⟨H314,(hle299.trans hle315),S.drop _ (.cons _ (.cons _ (.cons _ (.cons _ (.cons _ (.cons_cons _ (.cons_cons _ .slnil)))))))⟩ kr (List.cons_ne_nil _ _) (all1 ?_)
     refine Nxt.mk (o:=_) (bm 20 131071) rfl rfl ?_
     refine Lo 4 S<|We ?_
     refine WC.next (rs:=[17]) ⟨H314,(hle299.trans hle315),S.drop _ (.cons _ (.cons _ (.cons _ (.cons _ (.cons _ (.cons_cons _ (.cons_cons _ .slnil)))))))⟩ kr (List.cons_ne_nil _ _) (all1 ?_)
     refine Nxt.mk (o:=_) (bm 20 262143) rfl rfl<|W.app (α:=GAxis) (i:=3) S el22 rfl rfl rfl R21 R316 hl64 ?_
     intro v317 w318 H319 hle320 R321 S
     have Rp_t0:=Sl.mono Rp_t0 hle320
     have R231:=Sl.mono R231 hle320
     have R21:=Sl.mono R21 hle320
     have R24:=Sl.mono R24 hle320
     have Rp_t1:=Sl.mono Rp_t1 hle320
     refine We ?_
     refine WC.take (i:=18) (bm 20 524287) rfl kr kr kr rfl (fun _ _=>(R.fieldB h16 zPc)) ?_
     refine WC.next (rs:=[19]) ⟨H319,((hle299.trans hle315).trans hle320),S.drop _ (.cons _ (.cons _ (.cons _ (.cons _ (.cons _ (.cons_cons _ (.cons_cons _ .slnil)))))))⟩ kr (List.cons_ne_nil _ _) (all1 ?_)
     refine Nxt.mk (o:=_) (bm 20 1048575) rfl rfl ?_
     refine W.storeSl (α:=GAxis) (i:=4) [v317,v23] S R321 rfl rfl rfl lay22 (Nat.le_of_ble_eq_true rfl) rfl ?_
     intro w322 S
     refine We<|WC.done ⟨H319,((hle299.trans hle315).trans hle320),S.drop _ (.cons _ (.cons _ (.cons _ (.cons _ (.cons _ (.cons_cons _ (.cons_cons _ .slnil)))))))⟩ kr ?_
     have S3:=S
     replace S3:=S3.front 6 rfl
     replace S3:=S3.front 6 rfl
     replace S3:=S3.front 6 rfl
     replace S3:=S3.front 6 rfl
     replace S3:=S3.front 6 rfl
     replace S3:St w0 H0 _ H319 [.row v23 36 8 m22.length,.row v317 68 2 l64.length,.box b5 25 [v317,v23],.box b3 25 [(.slice none 0 0),(.slice none 0 0)],.box b1 25 [vp_t0,vp_t1],.row u312 68 2 ([(⟨x41.fName,l53⟩:GAxis)]:List GAxis).length,.row v296 9 1 l53.length]:=S3
     replace S3:St w0 H0 _ H319 [.row v23 36 8 m22.length,.row v317 68 2 l64.length,.box b5 25 [v317,v23],.box b3 25 [(.slice none 0 0),(.slice none 0 0)],.box b1 25 [vp_t0,vp_t1]]:=S3.drop _ (.cons_cons _ (.cons_cons _ (.cons_cons _ (.cons_cons _ (.cons_cons _ (.cons _ (.cons _ .slnil)))))))
     exact ⟨H319,v317,h14,h15,h16,h18,R321,R24,Rp_t0,Rp_t1,S3⟩
    refine Nxt.mk (o:=_) (bm 20 32541) rfl rfl ?_
    have S:=S.addNil 9 1
    refine W.app (α:=Str) (i:=0) S el34 rfl rfl rfl Sl.nil R231 hl53 ?_
    intro v323 w324 H325 hle326 R327 S
    have Rp_t0:=Sl.mono Rp_t0 hle326
    have R21:=Sl.mono R21 hle326
    have R24:=Sl.mono R24 hle326
    have Rp_t1:=Sl.mono Rp_t1 hle326
    refine We ?_
    refine WC.next (rs:=[1,5]) ⟨H325,hle326,S.drop _ (.cons _ (.cons _ (.cons _ (.cons _ (.cons_cons _ (.cons_cons _ .slnil))))))⟩ kr (List.cons_ne_nil _ _) (allS ?_ (all1 ?_))
    ·refine Nxt.mk (o:=_) (bm 20 32543) rfl rfl ?_
     refine Lo 3 S<|We ?_
     refine WC.next (rs:=[5]) ⟨H325,hle326,S.drop _ (.cons _ (.cons _ (.cons _ (.cons _ (.cons_cons _ (.cons_cons _ .slnil))))))⟩ kr (List.cons_ne_nil _ _) (all1 ?_)
     refine Nxt.mk (o:=_) (bm 20 32575) rfl rfl<|W.idx (α:=GAxis) Rp_t0 rfl rfl el22 hx41 ?_
     rintro a328 _ hA329 ⟨v330,rfl,R331⟩
     refine We ?_
     refine WC.take (i:=6) (bm 20 32639) rfl kr kr kr rfl (fun _ _=>(R.field rfl zOL)) ?_
     have hA332:=At.add hA329 0 (by simp)
     refine WC.next (rs:=[7]) ⟨H325,hle326,S.drop _ (.cons _ (.cons _ (.cons _ (.cons _ (.cons_cons _ (.cons_cons _ .slnil))))))⟩ kr (List.cons_ne_nil _ _) (all1 ?_)
     refine Nxt.mk (o:=_) (bm 20 32767) rfl rfl ?_
     refine Lq S hA332<|We ?_
     refine WC.take (i:=15) (bm 20 65535) rfl kr kr kr rfl (fun _ _=>(R.build [(0,(str x41.fName)),(1,v323)] [(str x41.fName),v323] bp68 zer68 rfl (by obtain ⟨_,_,rfl,_⟩:=R327; rfl))) ?_
     refine WC.next (rs:=[16]) ⟨H325,hle326,S.drop _ (.cons _ (.cons _ (.cons _ (.cons _ (.cons_cons _ (.cons_cons _ .slnil))))))⟩ kr (List.cons_ne_nil _ _) (all1 ?_)
     refine Nxt.mk (o:=_) (bm 20 131071) rfl rfl<|W.bslice (α:=GAxis) [(agg [(str x41.fName),v323])] ([(⟨x41.fName,l53⟩:GAxis)]:List GAxis) S el22 rfl rfl rfl (by decide) (Go.Eng.encS ⟨rfl,_,rfl,R327⟩ enc0) ?_
     intro u333 w334 H335 hle336 R337 S
     have Rp_t0:=Sl.mono Rp_t0 hle336
     have R327:=Sl.mono R327 hle336
     have R21:=Sl.mono R21 hle336
     have R24:=Sl.mono R24 hle336
     have Rp_t1:=Sl.mono Rp_t1 hle336
     refine We ?_
     refine WC.next (rs:=[17]) ⟨H335,(hle326.trans hle336),S.drop _ (.cons _ (.cons _ (.cons _ (.cons _ (.cons _ (.cons_cons _ (.cons_cons _ .slnil)))))))⟩ kr (List.cons_ne_nil _ _) (all1 ?_)
     refine Nxt.mk (o:=_) (bm 20 262143) rfl rfl<|W.app (α:=GAxis) (i:=3) S el22 rfl rfl rfl R21 R337 hl64 ?_
     intro v338 w339 H340 hle341 R342 S
     have Rp_t0:=Sl.mono Rp_t0 hle341
     have R327:=Sl.mono R327 hle341
     have R21:=Sl.mono R21 hle341
     have R24:=Sl.mono R24 hle341
     have Rp_t1:=Sl.mono Rp_t1 hle341
     refine We ?_
     refine WC.take (i:=18) (bm 20 524287) rfl kr kr kr rfl (fun _ _=>(R.fieldB h16 zPc)) ?_
     refine WC.next (rs:=[19]) ⟨H340,((hle326.trans hle336).trans hle341),S.drop _ (.cons _ (.cons _ (.cons _ (.cons _ (.cons _ (.cons_cons _ (.cons_cons _ .slnil)))))))⟩ kr (List.cons_ne_nil _ _) (all1 ?_)
     refine Nxt.mk (o:=_) (bm 20 1048575) rfl rfl ?_
     refine W.storeSl (α:=GAxis) (i:=4) [v338,v23] S R342 rfl rfl rfl lay22 (Nat.le_of_ble_eq_true rfl) rfl ?_
     intro w343 S
     refine We<|WC.done ⟨H340,((hle326.trans hle336).trans hle341),S.drop _ (.cons _ (.cons _ (.cons _ (.cons _ (.cons _ (.cons_cons _ (.cons_cons _ .slnil)))))))⟩ kr ?_
     have S3:=S
     replace S3:=S3.front 6 rfl
     replace S3:=S3.front 6 rfl
     replace S3:=S3.front 6 rfl
     replace S3:=S3.front 6 rfl
     replace S3:=S3.front 6 rfl
     replace S3:St w0 H0 _ H340 [.row v23 36 8 m22.length,.row v338 68 2 l64.length,.box b5 25 [v338,v23],.box b3 25 [(.slice none 0 0),(.slice none 0 0)],.box b1 25 [vp_t0,vp_t1],.row u333 68 2 ([(⟨x41.fName,l53⟩:GAxis)]:List GAxis).length,.row v323 9 1 l53.length]:=S3
     replace S3:St w0 H0 _ H340 [.row v23 36 8 m22.length,.row v338 68 2 l64.length,.box b5 25 [v338,v23],.box b3 25 [(.slice none 0 0),(.slice none 0 0)],.box b1 25 [vp_t0,vp_t1]]:=S3.drop _ (.cons_cons _ (.cons_cons _ (.cons_cons _ (.cons_cons _ (.cons_cons _ (.cons _ (.cons _ .slnil)))))))
     exact ⟨H340,v338,h14,h15,h16,h18,R342,R24,Rp_t0,Rp_t1,S3⟩
    refine Nxt.mk (o:=_) (bm 20 32573) rfl rfl<|W.idx (α:=GAxis) Rp_t0 rfl rfl el22 hx41 ?_
    rintro a344 _ hA345 ⟨v346,rfl,R347⟩
    refine We ?_
    refine WC.take (i:=6) (bm 20 32637) rfl kr kr kr rfl (fun _ _=>(R.field rfl zOL)) ?_
    have hA348:=At.add hA345 0 (by simp)
    refine WC.next (rs:=[1,7]) ⟨H325,hle326,S.drop _ (.cons _ (.cons _ (.cons _ (.cons _ (.cons_cons _ (.cons_cons _ .slnil))))))⟩ kr (List.cons_ne_nil _ _) (allS ?_ (all1 ?_))
    ·refine Nxt.mk (o:=_) (bm 20 32639) rfl rfl ?_
     refine Lo 3 S<|We ?_
     refine WC.next (rs:=[7]) ⟨H325,hle326,S.drop _ (.cons _ (.cons _ (.cons _ (.cons _ (.cons_cons _ (.cons_cons _ .slnil))))))⟩ kr (List.cons_ne_nil _ _) (all1 ?_)
     refine Nxt.mk (o:=_) (bm 20 32767) rfl rfl ?_
     refine Lq S hA348<|We ?_
     refine WC.take (i:=15) (bm 20 65535) rfl kr kr kr rfl (fun _ _=>(R.build [(0,(str x41.fName)),(1,v323)] [(str x41.fName),v323] bp68 zer68 rfl (by obtain ⟨_,_,rfl,_⟩:=R327; rfl))) ?_
     refine WC.next (rs:=[16]) ⟨H325,hle326,S.drop _ (.cons _ (.cons _ (.cons _ (.cons _ (.cons_cons _ (.cons_cons _ .slnil))))))⟩ kr (List.cons_ne_nil _ _) (all1 ?_)
     refine Nxt.mk (o:=_) (bm 20 131071) rfl rfl<|W.bslice (α:=GAxis) [(agg [(str x41.fName),v323])] ([(⟨x41.fName,l53⟩:GAxis)]:List GAxis) S el22 rfl rfl rfl (by decide) (Go.Eng.encS ⟨rfl,_,rfl,R327⟩ enc0) ?_
     intro u349 w350 H351 hle352 R353 S
     have Rp_t0:=Sl.mono Rp_t0 hle352
     have R327:=Sl.mono R327 hle352
     have hA348:=At.mono hA348 hle352 (by simp)
     have R21:=Sl.mono R21 hle352
     have R24:=Sl.mono R24 hle352
     have Rp_t1:=Sl.mono Rp_t1 hle352
     refine We ?_
     refine WC.next (rs:=[17]) ⟨H351,(hle326.trans hle352),S.drop _ (.cons _ (.cons _ (.cons _ (.cons _ (.cons _ (.cons_cons _ (.cons_cons _ .slnil)))))))⟩ kr (List.cons_ne_nil _ _) (all1 ?_)
     refine Nxt.mk (o:=_) (bm 20 262143) rfl rfl<|W.app (α:=GAxis) (i:=3) S el22 rfl rfl rfl R21 R353 hl64 ?_
     intro v354 w355 H356 hle357 R358 S
     have Rp_t0:=Sl.mono Rp_t0 hle357
     have R327:=Sl.mono R327 hle357
     have hA348:=At.mono hA348 hle357 (by simp)
     have R21:=Sl.mono R21 hle357
     have R24:=Sl.mono R24 hle357
     have Rp_t1:=Sl.mono Rp_t1 hle357
     refine We ?_
     refine WC.take (i:=18) (bm 20 524287) rfl kr kr kr rfl (fun _ _=>(R.fieldB h16 zPc)) ?_
     refine WC.next (rs:=[19]) ⟨H356,((hle326.trans hle352).trans hle357),S.drop _ (.cons _ (.cons _ (.cons _ (.cons _ (.cons _ (.cons_cons _ (.cons_cons _ .slnil)))))))⟩ kr (List.cons_ne_nil _ _) (all1 ?_)
     refine Nxt.mk (o:=_) (bm 20 1048575) rfl rfl ?_
     refine W.storeSl (α:=GAxis) (i:=4) [v354,v23] S R358 rfl rfl rfl lay22 (Nat.le_of_ble_eq_true rfl) rfl ?_
     intro w359 S
     refine We<|WC.done ⟨H356,((hle326.trans hle352).trans hle357),S.drop _ (.cons _ (.cons _ (.cons _ (.cons _ (.cons _ (.cons_cons _ (.cons_cons _ .slnil)))))))⟩ kr ?_
     have S3:=S
     replace S3:=S3.front 6 rfl
     replace S3:=S3.front 6 rfl
     replace S3:=S3.front 6 rfl
     replace S3:=S3.front 6 rfl
     replace S3:=S3.front 6 rfl
     replace S3:St w0 H0 _ H356 [.row v23 36 8 m22.length,.row v354 68 2 l64.length,.box b5 25 [v354,v23],.box b3 25 [(.slice none 0 0),(.slice none 0 0)],.box b1 25 [vp_t0,vp_t1],.row u349 68 2 ([(⟨x41.fName,l53⟩:GAxis)]:List GAxis).length,.row v323 9 1 l53.length]:=S3
     replace S3:St w0 H0 _ H356 [.row v23 36 8 m22.length,.row v354 68 2 l64.length,.box b5 25 [v354,v23],.box b3 25 [(.slice none 0 0),(.slice none 0 0)],.box b1 25 [vp_t0,vp_t1]]:=S3.drop _ (.cons_cons _ (.cons_cons _ (.cons_cons _ (.cons_cons _ (.cons_cons _ (.cons _ (.cons _ .slnil)))))))
     exact ⟨H356,v354,h14,h15,h16,h18,R358,R24,Rp_t0,Rp_t1,S3⟩
    refine Nxt.mk (o:=_) (bm 20 32765) rfl rfl ?_
    refine Lq S hA348<|We ?_
    refine WC.take (i:=15) (bm 20 65533) rfl kr kr kr rfl (fun _ _=>(R.build [(0,(str x41.fName)),(1,v323)] [(str x41.fName),v323] bp68 zer68 rfl (by obtain ⟨_,_,rfl,_⟩:=R327; rfl))) ?_
    refine WC.next (rs:=[1,16]) ⟨H325,hle326,S.drop _ (.cons _ (.cons _ (.cons _ (.cons _ (.cons_cons _ (.cons_cons _ .slnil))))))⟩ kr (List.cons_ne_nil _ _) (allS ?_ (all1 ?_))
    ·refine Nxt.mk (o:=_) (bm 20 65535) rfl rfl ?_
     refine Lo 3 S<|We ?_
     refine WC.next (rs:=[16]) ⟨H325,hle326,S.drop _ (.cons _ (.cons _ (.cons _ (.cons _ (.cons_cons _ (.cons_cons _ .slnil))))))⟩ kr (List.cons_ne_nil _ _) (all1 ?_)
     refine Nxt.mk (o:=_) (bm 20 131071) rfl rfl<|W.bslice (α:=GAxis) [(agg [(str x41.fName),v323])] ([(⟨x41.fName,l53⟩:GAxis)]:List GAxis) S el22 rfl rfl rfl (by decide) (Go.Eng.encS ⟨rfl,_,rfl,R327⟩ enc0) ?_
     intro u360 w361 H362 hle363 R364 S
     have Rp_t0:=Sl.mono Rp_t0 hle363
     have R327:=Sl.mono R327 hle363
     have R21:=Sl.mono R21 hle363
     have R24:=Sl.mono R24 hle363
     have Rp_t1:=Sl.mono Rp_t1 hle363
     refine We ?_
     refine WC.next (rs:=[17]) ⟨H362,(hle326.trans hle363),S.drop _ (.cons _ (.cons _ (.cons _ (.cons _ (.cons _ (.cons_cons _ (.cons_cons _ .slnil)))))))⟩ kr (List.cons_ne_nil _ _) (all1 ?_)
     refine Nxt.mk (o:=_) (bm 20 262143) rfl rfl<|W.app (α:=GAxis) (i:=3) S el22 rfl rfl rfl R21 R364 hl64 ?_
     intro v365 w366 H367 hle368 R369 S
     have Rp_t0:=Sl.mono Rp_t0 hle368
     have R327:=Sl.mono R327 hle368
     have R21:=Sl.mono R21 hle368
     have R24:=Sl.mono R24 hle368
     have Rp_t1:=Sl.mono Rp_t1 hle368
     refine We ?_
     refine WC.take (i:=18) (bm 20 524287) rfl kr kr kr rfl (fun _ _=>(R.fieldB h16 zPc)) ?_
     refine WC.next (rs:=[19]) ⟨H367,((hle326.trans hle363).trans hle368),S.drop _ (.cons _ (.cons _ (.cons _ (.cons _ (.cons _ (.cons_cons _ (.cons_cons _ .slnil)))))))⟩ kr (List.cons_ne_nil _ _) (all1 ?_)
     refine Nxt.mk (o:=_) (bm 20 1048575) rfl rfl ?_
     refine W.storeSl (α:=GAxis) (i:=4) [v365,v23] S R369 rfl rfl rfl lay22 (Nat.le_of_ble_eq_true rfl) rfl ?_
     intro w370 S
     refine We<|WC.done ⟨H367,((hle326.trans hle363).trans hle368),S.drop _ (.cons _ (.cons _ (.cons _ (.cons _ (.cons _ (.cons_cons _ (.cons_cons _ .slnil)))))))⟩ kr ?_
     have S3:=S
     replace S3:=S3.front 6 rfl
     replace S3:=S3.front 6 rfl
     replace S3:=S3.front 6 rfl
     replace S3:=S3.front 6 rfl
     replace S3:=S3.front 6 rfl
     replace S3:St w0 H0 _ H367 [.row v23 36 8 m22.length,.row v365 68 2 l64.length,.box b5 25 [v365,v23],.box b3 25 [(.slice none 0 0),(.slice none 0 0)],.box b1 25 [vp_t0,vp_t1],.row u360 68 2 ([(⟨x41.fName,l53⟩:GAxis)]:List GAxis).length,.row v323 9 1 l53.length]:=S3
     replace S3:St w0 H0 _ H367 [.row v23 36 8 m22.length,.row v365 68 2 l64.length,.box b5 25 [v365,v23],.box b3 25 [(.slice none 0 0),(.slice none 0 0)],.box b1 25 [vp_t0,vp_t1]]:=S3.drop _ (.cons_cons _ (.cons_cons _ (.cons_cons _ (.cons_cons _ (.cons_cons _ (.cons _ (.cons _ .slnil)))))))
     exact ⟨H367,v365,h14,h15,h16,h18,R369,R24,Rp_t0,Rp_t1,S3⟩
    refine Nxt.mk (o:=_) (bm 20 131069) rfl rfl<|W.bslice (α:=GAxis) [(agg [(str x41.fName),v323])] ([(⟨x41.fName,l53⟩:GAxis)]:List GAxis) S el22 rfl rfl rfl (by decide) (Go.Eng.encS ⟨rfl,_,rfl,R327⟩ enc0) ?_
    intro u371 w372 H373 hle374 R375 S
    have Rp_t0:=Sl.mono Rp_t0 hle374
    have R21:=Sl.mono R21 hle374
    have R24:=Sl.mono R24 hle374
    have Rp_t1:=Sl.mono Rp_t1 hle374
    refine We ?_
    refine WC.next (rs:=[1]) ⟨H373,(hle326.trans hle374),S.drop _ (.cons _ (.cons _ (.cons _ (.cons _ (.cons _ (.cons_cons _ (.cons_cons _ .slnil)))))))⟩ kr (List.cons_ne_nil _ _) (all1 ?_)
    refine Nxt.mk (o:=_) (bm 20 131071) rfl rfl ?_
    refine Lo 4 S<|We ?_
    refine WC.next (rs:=[17]) ⟨H373,(hle326.trans hle374),S.drop _ (.cons _ (.cons _ (.cons _ (.cons _ (.cons _ (.cons_cons _ (.cons_cons _ .slnil)))))))⟩ kr (List.cons_ne_nil _ _) (all1 ?_)
    refine Nxt.mk (o:=_) (bm 20 262143) rfl rfl<|W.app (α:=GAxis) (i:=3) S el22 rfl rfl rfl R21 R375 hl64 ?_
    intro v376 w377 H378 hle379 R380 S
    have Rp_t0:=Sl.mono Rp_t0 hle379
    have R21:=Sl.mono R21 hle379
    have R24:=Sl.mono R24 hle379
    have Rp_t1:=Sl.mono Rp_t1 hle379
    refine We ?_
    refine WC.take (i:=18) (bm 20 524287) rfl kr kr kr rfl (fun _ _=>(R.fieldB h16 zPc)) ?_
    refine WC.next (rs:=[19]) ⟨H378,((hle326.trans hle374).trans hle379),S.drop _ (.cons _ (.cons _ (.cons _ (.cons _ (.cons _ (.cons_cons _ (.cons_cons _ .slnil)))))))⟩ kr (List.cons_ne_nil _ _) (all1 ?_)
    refine Nxt.mk (o:=_) (bm 20 1048575) rfl rfl ?_
    refine W.storeSl (α:=GAxis) (i:=4) [v376,v23] S R380 rfl rfl rfl lay22 (Nat.le_of_ble_eq_true rfl) rfl ?_
    intro w381 S
    refine We<|WC.done ⟨H378,((hle326.trans hle374).trans hle379),S.drop _ (.cons _ (.cons _ (.cons _ (.cons _ (.cons _ (.cons_cons _ (.cons_cons _ .slnil)))))))⟩ kr ?_
    have S3:=S
    replace S3:=S3.front 6 rfl
    replace S3:=S3.front 6 rfl
    replace S3:=S3.front 6 rfl
    replace S3:=S3.front 6 rfl
    replace S3:=S3.front 6 rfl
    replace S3:St w0 H0 _ H378 [.row v23 36 8 m22.length,.row v376 68 2 l64.length,.box b5 25 [v376,v23],.box b3 25 [(.slice none 0 0),(.slice none 0 0)],.box b1 25 [vp_t0,vp_t1],.row u371 68 2 ([(⟨x41.fName,l53⟩:GAxis)]:List GAxis).length,.row v323 9 1 l53.length]:=S3
    replace S3:St w0 H0 _ H378 [.row v23 36 8 m22.length,.row v376 68 2 l64.length,.box b5 25 [v376,v23],.box b3 25 [(.slice none 0 0),(.slice none 0 0)],.box b1 25 [vp_t0,vp_t1]]:=S3.drop _ (.cons_cons _ (.cons_cons _ (.cons_cons _ (.cons_cons _ (.cons_cons _ (.cons _ (.cons _ .slnil)))))))
    exact ⟨H378,v376,h14,h15,h16,h18,R380,R24,Rp_t0,Rp_t1,S3⟩
   rintro f w ⟨H71,v76,h72,h73,h74,h75,R77,R78,R79,R80,S⟩
   refine Wg<|M' h75<|Lg<|A<|We ?_
   obtain rfl:=oi hy36
   exact ⟨rfl,⟨H71,v76,v23,h72,h73,h74,rfl,R77,R78,R79,R80,S⟩⟩
  refine CF hc40<|Wx ?_
  obtain rfl:=oi hy36
  obtain rfl:=hy37
  exact ⟨H13,v20,v23,h14,h15,h16,R21,R24,Rp_t0,Rp_t1,S⟩
 intro f w hM
 obtain ⟨m29,m32⟩:=r38
 obtain ⟨H25,v30,v33,h26,h27,h28,R31,R34,Rp_t0,Rp_t1,S⟩:=hM
 refine Ws<|Ws<|Wg<|A<|We<|B h fun r406 hr407 h=>WP.cut (fun f w=>match r406 with | (m397,m400)=>∃ (H394:Hp) (v398:Value) (v401:Value),f 2=(ptr b3 0)∧f 3=(ptr b5 0)∧Sl (α:=GAxis) H394 v398 m397∧Sl (α:=GEntry) H394 v401 m400∧St w0 H0 w H394 [.row v401 36 8 m400.length,.row v398 68 2 m397.length,.box b5 25 [v398,v401],.box b3 25 [(.slice none 0 0),(.slice none 0 0)]]) ?_ ?_
 ·refine Wb ?_
  refine WP.loopM (zQV p_t) (fun s f w=>match s with | (i_386,m388,m391)=>∃ (H382:Hp) (v389:Value) (v392:Value),f 1=(ptr b1 0)∧f 2=(ptr b3 0)∧f 3=(ptr b5 0)∧f 5=(int i_386)∧Sl (α:=GAxis) H382 v389 m388∧Sl (α:=GEntry) H382 v392 m391∧Sl (α:=GAxis) H382 vp_t0 p_t.fAxes∧Sl (α:=GEntry) H382 vp_t1 p_t.fEntries∧St w0 H0 w H382 [.row v392 36 8 m391.length,.row v389 68 2 m388.length,.box b5 25 [v389,v392],.box b3 25 [(.slice none 0 0),(.slice none 0 0)],.box b1 25 [vp_t0,vp_t1]]) (0,m29,m32) r406 hr407 ?_ ?_
  ·exact ⟨H25,v30,v33,h26,h27,h28,rfl,R31,R34,Rp_t0,Rp_t1,S⟩
  intro s f w hI y403 hy404 hy405
  obtain ⟨i_386,m388,m391⟩:=s
  obtain ⟨H382,v389,v392,h383,h384,h385,h387,R390,R393,Rp_t0,Rp_t1,S⟩:=hI
  refine Ws<|Ws<|Wg<|M' h387<|Fb' h383 ?_
  refine Lo 4 S<|Nq Rp_t1<|La<|We ?_
  rcases condE hy404 with ⟨hc408,hy404⟩ | ⟨hc408,hy404⟩
  ·refine CT hc408<|Wk<|Ws<|Wb<|WP.draw kr 12 rfl (bm 12 0) rfl ?_
   have S:=S.drew
   refine WA.take (i:=0) (bm 12 1) rfl kr kr kr rfl (fun _=>(R.fieldB h385 zE9)) ?_
   refine WA.take (i:=2) (bm 12 5) rfl kr kr kr rfl (fun _=>(R.fieldB h383 zE9)) ?_
   refine WA.take (i:=4) (bm 12 21) rfl kr kr kr rfl (fun _=>(R.mv (v:=int i_386) h387)) ?_
   refine WA.two (i:=1) (j:=3) (bm 12 23) (bm 12 29) rfl rfl kr rfl rfl ?_ ?_
   ·refine Lo 2 S<|We<|WA.one (i:=3) (bm 12 31) rfl kr rfl ?_
    refine Lo 4 S<|We<|WA.one (i:=5) (bm 12 63) rfl kr rfl<|B hy404 fun x409 hx409 hy404=>W.idx (α:=GEntry) Rp_t1 rfl rfl el23 hx409 ?_
    rintro a410 _ hA411 ⟨v412,v414,v416,v418,rfl,R413,R415,R417,R419⟩
    refine We<|WA.one (i:=6) (bm 12 127) rfl kr rfl ?_
    refine WL.w (R.loadHN (vs:=[v412,v414,v416,(str x409.fReason),v418,(str x409.fBody),(int x409.fRequested),(int x409.fReceived)]) S rfl hA411 lay36 rfl rfl)<|We<|WA.one (i:=7) (bm 12 255) rfl kr rfl<|B hy404 fun r420 hr420 hy404=>W.call S rfl (zQJ S.holds x409 R413 R415 R417 R419 hr420) ?_
    rintro v421 w422 H423 hle424 S ⟨u425,u427,u429,u431,rfl,R426,R428,R430,R432⟩
    have Rp_t1:=Sl.mono Rp_t1 hle424
    have R393:=Sl.mono R393 hle424
    have hA411:=At.mono hA411 hle424 (by simp)
    have R413:=Sl.mono R413 hle424
    have R415:=Sl.mono R415 hle424
    have R417:=Sl.mono R417 hle424
    have R419:=Sl.mono R419 hle424
    have R390:=Sl.mono R390 hle424
    have Rp_t0:=Sl.mono Rp_t0 hle424
    refine We<|WA.one (i:=8) (bm 12 511) rfl kr rfl<|W.bslice (α:=GEntry) [(agg [u425,u427,u429,(str r420.fReason),u431,(str r420.fBody),(int r420.fRequested),(int r420.fReceived)])] ([r420]:List GEntry) S el23 rfl rfl rfl (by decide) (Go.Eng.encS ⟨rfl,_,_,_,_,rfl,R426,R428,R430,R432⟩ enc0) ?_
    intro u433 w434 H435 hle436 R437 S
    have Rp_t1:=Sl.mono Rp_t1 hle436
    have R393:=Sl.mono R393 hle436
    have hA411:=At.mono hA411 hle436 (by simp)
    have R413:=Sl.mono R413 hle436
    have R415:=Sl.mono R415 hle436
    have R417:=Sl.mono R417 hle436
    have R419:=Sl.mono R419 hle436
    have R426:=Sl.mono R426 hle436
    have R428:=Sl.mono R428 hle436
    have R430:=Sl.mono R430 hle436
    have R432:=Sl.mono R432 hle436
    have R390:=Sl.mono R390 hle436
    have Rp_t0:=Sl.mono Rp_t0 hle436
    refine We<|WA.one (i:=9) (bm 12 1023) rfl kr rfl<|B hy404 fun l438 hl438 hy404=>W.app (α:=GEntry) (i:=1) S el23 rfl rfl rfl R393 R437 hl438 ?_
    intro v439 w440 H441 hle442 R443 S
    have Rp_t1:=Sl.mono Rp_t1 hle442
    have R393:=Sl.mono R393 hle442
    have hA411:=At.mono hA411 hle442 (by simp)
    have R413:=Sl.mono R413 hle442
    have R415:=Sl.mono R415 hle442
    have R417:=Sl.mono R417 hle442
    have R419:=Sl.mono R419 hle442
    have R426:=Sl.mono R426 hle442
    have R428:=Sl.mono R428 hle442
    have R430:=Sl.mono R430 hle442
    have R432:=Sl.mono R432 hle442
    have R437:=Sl.mono R437 hle442
    have R390:=Sl.mono R390 hle442
    have Rp_t0:=Sl.mono Rp_t0 hle442
    refine We ?_
    refine WA.take (i:=10) (bm 12 2047) rfl kr kr kr rfl (fun _=>(R.fieldB h385 zE9))<|WA.one (i:=11) (bm 12 4095) rfl kr rfl ?_
    refine W.storeSl (α:=GEntry) (i:=3) [v389,v439] S R443 rfl rfl rfl lay23 (Nat.le_of_ble_eq_true rfl) rfl ?_
    intro w444 S
    refine We<|WA.done kr<|Wg<|M' h387<|Lg<|A<|We ?_
    obtain rfl:=oi hy404
    exact ⟨rfl,⟨H441,v389,v439,h383,h384,h385,rfl,R390,R443,Rp_t0,Rp_t1,(S.drop _ (.cons _ (.cons_cons _ (.cons_cons _ (.cons_cons _ (.cons_cons _ (.cons_cons _ .slnil)))))))⟩⟩
   refine Lo 4 S<|We ?_
   refine WA.two (i:=1) (j:=5) (bm 12 31) (bm 12 61) rfl rfl kr rfl rfl ?_ ?_
   ·refine Lo 2 S<|We<|WA.one (i:=5) (bm 12 63) rfl kr rfl<|B hy404 fun x409 hx409 hy404=>W.idx (α:=GEntry) Rp_t1 rfl rfl el23 hx409 ?_
    rintro a410 _ hA411 ⟨v412,v414,v416,v418,rfl,R413,R415,R417,R419⟩
    refine We<|WA.one (i:=6) (bm 12 127) rfl kr rfl ?_
    refine WL.w (R.loadHN (vs:=[v412,v414,v416,(str x409.fReason),v418,(str x409.fBody),(int x409.fRequested),(int x409.fReceived)]) S rfl hA411 lay36 rfl rfl)<|We<|WA.one (i:=7) (bm 12 255) rfl kr rfl<|B hy404 fun r420 hr420 hy404=>W.call S rfl (zQJ S.holds x409 R413 R415 R417 R419 hr420) ?_
    rintro v421 w422 H423 hle424 S ⟨u425,u427,u429,u431,rfl,R426,R428,R430,R432⟩
    have Rp_t1:=Sl.mono Rp_t1 hle424
    have R393:=Sl.mono R393 hle424
    have hA411:=At.mono hA411 hle424 (by simp)
    have R413:=Sl.mono R413 hle424
    have R415:=Sl.mono R415 hle424
    have R417:=Sl.mono R417 hle424
    have R419:=Sl.mono R419 hle424
    have R390:=Sl.mono R390 hle424
    have Rp_t0:=Sl.mono Rp_t0 hle424
    refine We<|WA.one (i:=8) (bm 12 511) rfl kr rfl<|W.bslice (α:=GEntry) [(agg [u425,u427,u429,(str r420.fReason),u431,(str r420.fBody),(int r420.fRequested),(int r420.fReceived)])] ([r420]:List GEntry) S el23 rfl rfl rfl (by decide) (Go.Eng.encS ⟨rfl,_,_,_,_,rfl,R426,R428,R430,R432⟩ enc0) ?_
    intro u433 w434 H435 hle436 R437 S
    have Rp_t1:=Sl.mono Rp_t1 hle436
    have R393:=Sl.mono R393 hle436
    have hA411:=At.mono hA411 hle436 (by simp)
    have R413:=Sl.mono R413 hle436
    have R415:=Sl.mono R415 hle436
    have R417:=Sl.mono R417 hle436
    have R419:=Sl.mono R419 hle436
    have R426:=Sl.mono R426 hle436
    have R428:=Sl.mono R428 hle436
    have R430:=Sl.mono R430 hle436
    have R432:=Sl.mono R432 hle436
    have R390:=Sl.mono R390 hle436
    have Rp_t0:=Sl.mono Rp_t0 hle436
    refine We<|WA.one (i:=9) (bm 12 1023) rfl kr rfl<|B hy404 fun l438 hl438 hy404=>W.app (α:=GEntry) (i:=1) S el23 rfl rfl rfl R393 R437 hl438 ?_
    intro v439 w440 H441 hle442 R443 S
    have Rp_t1:=Sl.mono Rp_t1 hle442
    have R393:=Sl.mono R393 hle442
    have hA411:=At.mono hA411 hle442 (by simp)
    have R413:=Sl.mono R413 hle442
    have R415:=Sl.mono R415 hle442
    have R417:=Sl.mono R417 hle442
    have R419:=Sl.mono R419 hle442
    have R426:=Sl.mono R426 hle442
    have R428:=Sl.mono R428 hle442
    have R430:=Sl.mono R430 hle442
    have R432:=Sl.mono R432 hle442
    have R437:=Sl.mono R437 hle442
    have R390:=Sl.mono R390 hle442
    have Rp_t0:=Sl.mono Rp_t0 hle442
    refine We ?_
    refine WA.take (i:=10) (bm 12 2047) rfl kr kr kr rfl (fun _=>(R.fieldB h385 zE9))<|WA.one (i:=11) (bm 12 4095) rfl kr rfl ?_
    refine W.storeSl (α:=GEntry) (i:=3) [v389,v439] S R443 rfl rfl rfl lay23 (Nat.le_of_ble_eq_true rfl) rfl ?_
    intro w444 S
    refine We<|WA.done kr<|Wg<|M' h387<|Lg<|A<|We ?_
    obtain rfl:=oi hy404
    exact ⟨rfl,⟨H441,v389,v439,h383,h384,h385,rfl,R390,R443,Rp_t0,Rp_t1,(S.drop _ (.cons _ (.cons_cons _ (.cons_cons _ (.cons_cons _ (.cons_cons _ (.cons_cons _ .slnil)))))))⟩⟩
   refine B hy404 fun x409 hx409 hy404=>W.idx (α:=GEntry) Rp_t1 rfl rfl el23 hx409 ?_
   rintro a410 _ hA411 ⟨v412,v414,v416,v418,rfl,R413,R415,R417,R419⟩
   refine We ?_
   refine WA.two (i:=1) (j:=6) (bm 12 63) (bm 12 125) rfl rfl kr rfl rfl ?_ ?_
   ·refine Lo 2 S<|We<|WA.one (i:=6) (bm 12 127) rfl kr rfl ?_
    refine WL.w (R.loadHN (vs:=[v412,v414,v416,(str x409.fReason),v418,(str x409.fBody),(int x409.fRequested),(int x409.fReceived)]) S rfl hA411 lay36 rfl rfl)<|We<|WA.one (i:=7) (bm 12 255) rfl kr rfl<|B hy404 fun r420 hr420 hy404=>W.call S rfl (zQJ S.holds x409 R413 R415 R417 R419 hr420) ?_
    rintro v421 w422 H423 hle424 S ⟨u425,u427,u429,u431,rfl,R426,R428,R430,R432⟩
    have Rp_t1:=Sl.mono Rp_t1 hle424
    have hA411:=At.mono hA411 hle424 (by simp)
    have R413:=Sl.mono R413 hle424
    have R415:=Sl.mono R415 hle424
    have R417:=Sl.mono R417 hle424
    have R419:=Sl.mono R419 hle424
    have R393:=Sl.mono R393 hle424
    have R390:=Sl.mono R390 hle424
    have Rp_t0:=Sl.mono Rp_t0 hle424
    refine We<|WA.one (i:=8) (bm 12 511) rfl kr rfl<|W.bslice (α:=GEntry) [(agg [u425,u427,u429,(str r420.fReason),u431,(str r420.fBody),(int r420.fRequested),(int r420.fReceived)])] ([r420]:List GEntry) S el23 rfl rfl rfl (by decide) (Go.Eng.encS ⟨rfl,_,_,_,_,rfl,R426,R428,R430,R432⟩ enc0) ?_
    intro u433 w434 H435 hle436 R437 S
    have Rp_t1:=Sl.mono Rp_t1 hle436
    have hA411:=At.mono hA411 hle436 (by simp)
    have R413:=Sl.mono R413 hle436
    have R415:=Sl.mono R415 hle436
    have R417:=Sl.mono R417 hle436
    have R419:=Sl.mono R419 hle436
    have R393:=Sl.mono R393 hle436
    have R426:=Sl.mono R426 hle436
    have R428:=Sl.mono R428 hle436
    have R430:=Sl.mono R430 hle436
    have R432:=Sl.mono R432 hle436
    have R390:=Sl.mono R390 hle436
    have Rp_t0:=Sl.mono Rp_t0 hle436
    refine We<|WA.one (i:=9) (bm 12 1023) rfl kr rfl<|B hy404 fun l438 hl438 hy404=>W.app (α:=GEntry) (i:=1) S el23 rfl rfl rfl R393 R437 hl438 ?_
    intro v439 w440 H441 hle442 R443 S
    have Rp_t1:=Sl.mono Rp_t1 hle442
    have hA411:=At.mono hA411 hle442 (by simp)
    have R413:=Sl.mono R413 hle442
    have R415:=Sl.mono R415 hle442
    have R417:=Sl.mono R417 hle442
    have R419:=Sl.mono R419 hle442
    have R393:=Sl.mono R393 hle442
    have R426:=Sl.mono R426 hle442
    have R428:=Sl.mono R428 hle442
    have R430:=Sl.mono R430 hle442
    have R432:=Sl.mono R432 hle442
    have R437:=Sl.mono R437 hle442
    have R390:=Sl.mono R390 hle442
    have Rp_t0:=Sl.mono Rp_t0 hle442
    refine We ?_
    refine WA.take (i:=10) (bm 12 2047) rfl kr kr kr rfl (fun _=>(R.fieldB h385 zE9))<|WA.one (i:=11) (bm 12 4095) rfl kr rfl ?_
    refine W.storeSl (α:=GEntry) (i:=3) [v389,v439] S R443 rfl rfl rfl lay23 (Nat.le_of_ble_eq_true rfl) rfl ?_
    intro w444 S
    refine We<|WA.done kr<|Wg<|M' h387<|Lg<|A<|We ?_
    obtain rfl:=oi hy404
    exact ⟨rfl,⟨H441,v389,v439,h383,h384,h385,rfl,R390,R443,Rp_t0,Rp_t1,(S.drop _ (.cons _ (.cons_cons _ (.cons_cons _ (.cons_cons _ (.cons_cons _ (.cons_cons _ .slnil)))))))⟩⟩
   refine WL.w (R.loadHN (vs:=[v412,v414,v416,(str x409.fReason),v418,(str x409.fBody),(int x409.fRequested),(int x409.fReceived)]) S rfl hA411 lay36 rfl rfl)<|We ?_
   refine WA.two (i:=1) (j:=7) (bm 12 127) (bm 12 253) rfl rfl kr rfl rfl ?_ ?_
   ·refine Lo 2 S<|We<|WA.one (i:=7) (bm 12 255) rfl kr rfl<|B hy404 fun r420 hr420 hy404=>W.call S rfl (zQJ S.holds x409 R413 R415 R417 R419 hr420) ?_
    rintro v421 w422 H423 hle424 S ⟨u425,u427,u429,u431,rfl,R426,R428,R430,R432⟩
    have Rp_t1:=Sl.mono Rp_t1 hle424
    have R413:=Sl.mono R413 hle424
    have R415:=Sl.mono R415 hle424
    have R417:=Sl.mono R417 hle424
    have R419:=Sl.mono R419 hle424
    have R393:=Sl.mono R393 hle424
    have R390:=Sl.mono R390 hle424
    have Rp_t0:=Sl.mono Rp_t0 hle424
    refine We<|WA.one (i:=8) (bm 12 511) rfl kr rfl<|W.bslice (α:=GEntry) [(agg [u425,u427,u429,(str r420.fReason),u431,(str r420.fBody),(int r420.fRequested),(int r420.fReceived)])] ([r420]:List GEntry) S el23 rfl rfl rfl (by decide) (Go.Eng.encS ⟨rfl,_,_,_,_,rfl,R426,R428,R430,R432⟩ enc0) ?_
    intro u433 w434 H435 hle436 R437 S
    have Rp_t1:=Sl.mono Rp_t1 hle436
    have R413:=Sl.mono R413 hle436
    have R415:=Sl.mono R415 hle436
    have R417:=Sl.mono R417 hle436
    have R419:=Sl.mono R419 hle436
    have R393:=Sl.mono R393 hle436
    have R426:=Sl.mono R426 hle436
    have R428:=Sl.mono R428 hle436
    have R430:=Sl.mono R430 hle436
    have R432:=Sl.mono R432 hle436
    have R390:=Sl.mono R390 hle436
    have Rp_t0:=Sl.mono Rp_t0 hle436
    refine We<|WA.one (i:=9) (bm 12 1023) rfl kr rfl<|B hy404 fun l438 hl438 hy404=>W.app (α:=GEntry) (i:=1) S el23 rfl rfl rfl R393 R437 hl438 ?_
    intro v439 w440 H441 hle442 R443 S
    have Rp_t1:=Sl.mono Rp_t1 hle442
    have R413:=Sl.mono R413 hle442
    have R415:=Sl.mono R415 hle442
    have R417:=Sl.mono R417 hle442
    have R419:=Sl.mono R419 hle442
    have R393:=Sl.mono R393 hle442
    have R426:=Sl.mono R426 hle442
    have R428:=Sl.mono R428 hle442
    have R430:=Sl.mono R430 hle442
    have R432:=Sl.mono R432 hle442
    have R437:=Sl.mono R437 hle442
    have R390:=Sl.mono R390 hle442
    have Rp_t0:=Sl.mono Rp_t0 hle442
    refine We ?_
    refine WA.take (i:=10) (bm 12 2047) rfl kr kr kr rfl (fun _=>(R.fieldB h385 zE9))<|WA.one (i:=11) (bm 12 4095) rfl kr rfl ?_
    refine W.storeSl (α:=GEntry) (i:=3) [v389,v439] S R443 rfl rfl rfl lay23 (Nat.le_of_ble_eq_true rfl) rfl ?_
    intro w444 S
    refine We<|WA.done kr<|Wg<|M' h387<|Lg<|A<|We ?_
    obtain rfl:=oi hy404
    exact ⟨rfl,⟨H441,v389,v439,h383,h384,h385,rfl,R390,R443,Rp_t0,Rp_t1,(S.drop _ (.cons _ (.cons_cons _ (.cons_cons _ (.cons_cons _ (.cons_cons _ (.cons_cons _ .slnil)))))))⟩⟩
   refine B hy404 fun r420 hr420 hy404=>W.call S rfl (zQJ S.holds x409 R413 R415 R417 R419 hr420) ?_
   rintro v421 w422 H423 hle424 S ⟨u425,u427,u429,u431,rfl,R426,R428,R430,R432⟩
   have Rp_t1:=Sl.mono Rp_t1 hle424
   have R390:=Sl.mono R390 hle424
   have R393:=Sl.mono R393 hle424
   have Rp_t0:=Sl.mono Rp_t0 hle424
   refine We ?_
   refine WA.two (i:=1) (j:=8) (bm 12 255) (bm 12 509) rfl rfl kr rfl rfl ?_ ?_
   ·refine Lo 2 S<|We<|WA.one (i:=8) (bm 12 511) rfl kr rfl<|W.bslice (α:=GEntry) [(agg [u425,u427,u429,(str r420.fReason),u431,(str r420.fBody),(int r420.fRequested),(int r420.fReceived)])] ([r420]:List GEntry) S el23 rfl rfl rfl (by decide) (Go.Eng.encS ⟨rfl,_,_,_,_,rfl,R426,R428,R430,R432⟩ enc0) ?_
    intro u433 w434 H435 hle436 R437 S
    have Rp_t1:=Sl.mono Rp_t1 hle436
    have R426:=Sl.mono R426 hle436
    have R428:=Sl.mono R428 hle436
    have R430:=Sl.mono R430 hle436
    have R432:=Sl.mono R432 hle436
    have R393:=Sl.mono R393 hle436
    have R390:=Sl.mono R390 hle436
    have Rp_t0:=Sl.mono Rp_t0 hle436
    refine We<|WA.one (i:=9) (bm 12 1023) rfl kr rfl<|B hy404 fun l438 hl438 hy404=>W.app (α:=GEntry) (i:=1) S el23 rfl rfl rfl R393 R437 hl438 ?_
    intro v439 w440 H441 hle442 R443 S
    have Rp_t1:=Sl.mono Rp_t1 hle442
    have R426:=Sl.mono R426 hle442
    have R428:=Sl.mono R428 hle442
    have R430:=Sl.mono R430 hle442
    have R432:=Sl.mono R432 hle442
    have R393:=Sl.mono R393 hle442
    have R437:=Sl.mono R437 hle442
    have R390:=Sl.mono R390 hle442
    have Rp_t0:=Sl.mono Rp_t0 hle442
    refine We ?_
    refine WA.take (i:=10) (bm 12 2047) rfl kr kr kr rfl (fun _=>(R.fieldB h385 zE9))<|WA.one (i:=11) (bm 12 4095) rfl kr rfl ?_
    refine W.storeSl (α:=GEntry) (i:=3) [v389,v439] S R443 rfl rfl rfl lay23 (Nat.le_of_ble_eq_true rfl) rfl ?_
    intro w444 S
    refine We<|WA.done kr<|Wg<|M' h387<|Lg<|A<|We ?_
    obtain rfl:=oi hy404
    exact ⟨rfl,⟨H441,v389,v439,h383,h384,h385,rfl,R390,R443,Rp_t0,Rp_t1,(S.drop _ (.cons _ (.cons_cons _ (.cons_cons _ (.cons_cons _ (.cons_cons _ (.cons_cons _ .slnil)))))))⟩⟩
   refine W.bslice (α:=GEntry) [(agg [u425,u427,u429,(str r420.fReason),u431,(str r420.fBody),(int r420.fRequested),(int r420.fReceived)])] ([r420]:List GEntry) S el23 rfl rfl rfl (by decide) (Go.Eng.encS ⟨rfl,_,_,_,_,rfl,R426,R428,R430,R432⟩ enc0) ?_
   intro u433 w434 H435 hle436 R437 S
   have Rp_t1:=Sl.mono Rp_t1 hle436
   have R390:=Sl.mono R390 hle436
   have R393:=Sl.mono R393 hle436
   have Rp_t0:=Sl.mono Rp_t0 hle436
   refine We<|WA.one (i:=1) (bm 12 511) rfl kr rfl ?_
   refine Lo 3 S<|We<|WA.one (i:=9) (bm 12 1023) rfl kr rfl<|B hy404 fun l438 hl438 hy404=>W.app (α:=GEntry) (i:=1) S el23 rfl rfl rfl R393 R437 hl438 ?_
   intro v439 w440 H441 hle442 R443 S
   have Rp_t1:=Sl.mono Rp_t1 hle442
   have R393:=Sl.mono R393 hle442
   have R390:=Sl.mono R390 hle442
   have Rp_t0:=Sl.mono Rp_t0 hle442
   refine We ?_
   refine WA.take (i:=10) (bm 12 2047) rfl kr kr kr rfl (fun _=>(R.fieldB h385 zE9))<|WA.one (i:=11) (bm 12 4095) rfl kr rfl ?_
   refine W.storeSl (α:=GEntry) (i:=3) [v389,v439] S R443 rfl rfl rfl lay23 (Nat.le_of_ble_eq_true rfl) rfl ?_
   intro w444 S
   refine We<|WA.done kr<|Wg<|M' h387<|Lg<|A<|We ?_
   obtain rfl:=oi hy404
   exact ⟨rfl,⟨H441,v389,v439,h383,h384,h385,rfl,R390,R443,Rp_t0,Rp_t1,(S.drop _ (.cons _ (.cons_cons _ (.cons_cons _ (.cons_cons _ (.cons_cons _ (.cons_cons _ .slnil)))))))⟩⟩
  refine CF hc408<|Wx ?_
  obtain rfl:=oi hy404
  obtain rfl:=hy405
  exact ⟨H382,v389,v392,h384,h385,R390,R393,(S.drop _ (.cons_cons _ (.cons_cons _ (.cons_cons _ (.cons_cons _ (.cons _ .slnil))))))⟩
 intro f w hM
 obtain ⟨m397,m400⟩:=r406
 obtain ⟨H394,v398,v401,h395,h396,R399,R402,S⟩:=hM
 refine Ws<|Wg ?_
 refine WL.w (R.loadBN (i:=2) (vs:=[v398,v401]) S h396 rfl lay25 rfl rfl) ?_
 refine W.store (i:=3) [v398,v401] S h395 rfl rfl lay25 rfl (AllOne.all (l:=[v398,v401]) (.cons (Sl.oneC R399) (.cons (Sl.oneC R402) .nil))) (Nat.le_of_ble_eq_true rfl) rfl ?_
 intro w445 S
 refine We ?_
 obtain rfl:=oi h
 refine WP.ret (Out.one rfl S (Res.cellB (i:=3) (cs:=[v398,v401]) S h395 rfl lay25 rfl rfl) ?_)
 exact ⟨_,_,rfl,R399,R402⟩
end Go.Proofs

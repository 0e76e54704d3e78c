/- A part of the proof of laws of the seat: written by program over the translation. -/
import Derived.Test.YtipgfplekgdoiaaGreatDoorEng38
import Derived.Test.YtipgfplekgdoiaaGreatDoorEng32
import Derived.Test.YtipgfplekgdoiaaGreatDoorGenK12
namespace Go.Proofs
set_option maxHeartbeats 4000000
set_option maxRecDepth 10000
open Go.Eng Go.Eng.Pure
set_option linter.unusedVariables false
theorem zJ6 {w0:World} {H0:Hp} (hw:Holds w0 H0) (p_axes:(List GAxis)) (p_l:(List GField)) (p_strict:Bool) {vp_axes:Value} {vp_l:Value} (Rp_axes:Sl (α:=GAxis) H0 vp_axes p_axes) (Rp_l:Sl (α:=GField) H0 vp_l p_l) {r:(List (List Str))} (h:zIM p_axes p_l p_strict=some r) :
  Con Tryz.prog 55 [vp_axes,vp_l,(boo p_strict)] w0 H0 (fun H' v=>Sl (α:=(List Str)) H' v r):=by
 refine Con.mk (N:=63) Tryz.func55 rfl rfl kr rfl ?_
 have S:=St.start hw
 refine Ws<|Wg<|A<|We<|Ws<|Ws<|Wg<|M<|B h fun r1 hr1 h=>W.call S rfl (zJo S.holds p_axes Rp_axes hr1) ?_
 rintro v2 w3 H4 hle5 S rfl
 have Rp_axes:=Sl.mono Rp_axes hle5
 have Rp_l:=Sl.mono Rp_l hle5
 refine No<|We ?_
 rcases condE h with ⟨hc6,h⟩ | ⟨hc6,h⟩
 ·refine CT hc6<|Ws<|Wg<|A<|We ?_
  obtain rfl:=oi h
  refine WP.ret (Out.one rfl S rfl ?_)
  exact Sl.nil
 refine CF hc6<|Wk<|Ws<|Wg<|W.bslice (α:=(List Str)) [(.slice none 0 0)] ([([]:List Str)]:List (List Str)) S el33 rfl rfl rfl (by decide) (Go.Eng.encS ⟨rfl,_,rfl,Sl.nil⟩ enc0) ?_
 intro u7 w8 H9 hle10 R11 S
 have Rp_axes:=Sl.mono Rp_axes hle10
 have Rp_l:=Sl.mono Rp_l hle10
 refine A<|We<|Ws<|Ws<|Wg<|A<|We<|B h fun out_23 hr31 h=>WP.cut (fun f w=>∃ (H22:Hp) (v24:Value),f 7=v24∧Sl (α:=(List Str)) H22 v24 out_23∧St w0 H0 w H22 [.row v24 34 1 out_23.length]) ?_ ?_
 ·refine Wb ?_
  refine WP.loopM (zCy p_axes p_l p_strict) (fun s f w=>match s with | (out_16,i_20)=>∃ (H12:Hp) (v17:Value),f 0=vp_axes∧f 1=vp_l∧f 2=(boo p_strict)∧f 7=v17∧f 8=(int i_20)∧Sl (α:=GAxis) H12 vp_axes p_axes∧Sl (α:=GField) H12 vp_l p_l∧Sl (α:=(List Str)) H12 v17 out_16∧St w0 H0 w H12 [.row v17 34 1 out_16.length]) (([([]:List Str)]:List (List Str)),0) out_23 hr31 ?_ ?_
  ·exact ⟨H9,u7,rfl,rfl,rfl,rfl,rfl,Rp_axes,Rp_l,R11,S⟩
  intro s f w hI y27 hy28 hy29
  obtain ⟨out_16,i_20⟩:=s
  obtain ⟨H12,v17,h13,h14,h15,h19,h21,Rp_axes,Rp_l,R18,S⟩:=hI
  refine Ws<|Ws<|Wg<|M' h21<|M' h13<|Nq Rp_axes<|La<|We ?_
  rcases condE hy28 with ⟨hc32,hy28⟩ | ⟨hc32,hy28⟩
  ·refine CT hc32<|Wk<|Ws<|Wb<|Ws<|Wg<|M' h13<|M' h21<|B hy28 fun x33 hx33 hy28=>W.idx (α:=GAxis) Rp_axes rfl rfl el22 hx33 ?_
   rintro a34 _ hA35 ⟨v36,rfl,R37⟩
   refine WL.w (R.loadHN (vs:=[(str x33.fName),v36]) S rfl hA35 lay68 rfl rfl)<|M' h14<|M' h15<|B hy28 fun r38 hr38 hy28=>W.call S rfl (zJX S.holds x33 p_l p_strict R37 Rp_l hr38) ?_
   rintro v39 w40 H41 hle42 S R43
   have Rp_axes:=Sl.mono Rp_axes hle42
   have Rp_l:=Sl.mono Rp_l hle42
   have R18:=Sl.mono R18 hle42
   refine A<|We<|Ws<|Wg<|A<|We<|Ws<|Ws<|Wg<|A<|We ?_
   have S:=S.addNil 34 1
   refine B hy28 fun next_62 hr70 hy28=>WP.cut (fun f w=>∃ (H57:Hp) (v63:Value),f 0=vp_axes∧f 1=vp_l∧f 2=(boo p_strict)∧f 8=(int i_20)∧f 10=v63∧Sl (α:=GAxis) H57 vp_axes p_axes∧Sl (α:=GField) H57 vp_l p_l∧Sl (α:=(List Str)) H57 v63 next_62∧St w0 H0 w H57 [.row v63 34 1 next_62.length]) ?_ ?_
   ·refine Wb ?_
    refine WP.loopM (zCz out_16 r38) (fun s f w=>match s with | (next_51,k_55)=>∃ (H44:Hp) (v52:Value),f 0=vp_axes∧f 1=vp_l∧f 2=(boo p_strict)∧f 7=v17∧f 8=(int i_20)∧f 9=v39∧f 10=v52∧f 11=(int k_55)∧Sl (α:=GAxis) H44 vp_axes p_axes∧Sl (α:=GField) H44 vp_l p_l∧Sl (α:=(List Str)) H44 v17 out_16∧Sl (α:=Str) H44 v39 r38∧Sl (α:=(List Str)) H44 v52 next_51∧St w0 H0 w H44 [.row v52 34 1 next_51.length,.row v17 34 1 out_16.length]) (([]:List (List Str)),0) next_62 hr70 ?_ ?_
    ·exact ⟨H41,.slice none 0 0,h13,h14,h15,h19,h21,rfl,rfl,rfl,Rp_axes,Rp_l,R18,R43,Sl.nil,S⟩
    intro s f w hI y66 hy67 hy68
    obtain ⟨next_51,k_55⟩:=s
    obtain ⟨H44,v52,h45,h46,h47,h48,h49,h50,h54,h56,Rp_axes,Rp_l,R18,R43,R53,S⟩:=hI
    refine Ws<|Ws<|Wg<|M' h56<|M' h48<|Nq R18<|La<|We ?_
    rcases condE hy67 with ⟨hc71,hy67⟩ | ⟨hc71,hy67⟩
    ·refine CT hc71<|Wk<|Ws<|Wb<|Ws<|Wg<|A<|We<|B hy67 fun next_93 hr102 hy67=>WP.cut (fun f w=>∃ (H86:Hp) (v94:Value),f 0=vp_axes∧f 1=vp_l∧f 2=(boo p_strict)∧f 7=v17∧f 8=(int i_20)∧f 9=v39∧f 10=v94∧f 11=(int k_55)∧Sl (α:=GAxis) H86 vp_axes p_axes∧Sl (α:=GField) H86 vp_l p_l∧Sl (α:=(List Str)) H86 v17 out_16∧Sl (α:=Str) H86 v39 r38∧Sl (α:=(List Str)) H86 v94 next_93∧St w0 H0 w H86 [.row v94 34 1 next_93.length,.row v17 34 1 out_16.length]) ?_ ?_
     ·refine Wb ?_
      refine WP.loopM (zC4 out_16 r38 k_55) (fun s f w=>match s with | (next_79,j_84)=>∃ (H72:Hp) (v80:Value),f 0=vp_axes∧f 1=vp_l∧f 2=(boo p_strict)∧f 7=v17∧f 8=(int i_20)∧f 9=v39∧f 10=v80∧f 11=(int k_55)∧f 12=(int j_84)∧Sl (α:=GAxis) H72 vp_axes p_axes∧Sl (α:=GField) H72 vp_l p_l∧Sl (α:=(List Str)) H72 v17 out_16∧Sl (α:=Str) H72 v39 r38∧Sl (α:=(List Str)) H72 v80 next_79∧St w0 H0 w H72 [.row v80 34 1 next_79.length,.row v17 34 1 out_16.length]) (next_51,0) next_93 hr102 ?_ ?_
      ·exact ⟨H44,v52,h45,h46,h47,h48,h49,h50,h54,h56,rfl,Rp_axes,Rp_l,R18,R43,R53,S⟩
      intro s f w hI y98 hy99 hy100
      obtain ⟨next_79,j_84⟩:=s
      obtain ⟨H72,v80,h73,h74,h75,h76,h77,h78,h82,h83,h85,Rp_axes,Rp_l,R18,R43,R81,S⟩:=hI
      refine Ws<|Ws<|Wg<|M' h85<|M' h78<|Nq R43<|La<|We ?_
      rcases condE hy99 with ⟨hc103,hy99⟩ | ⟨hc103,hy99⟩
      ·refine CT hc103<|Wk<|Ws<|Wb<|B hy99 fun x104 hx104 hy99=>B hy99 fun l109 hl109 hy99=>B hy99 fun x115 hx115 hy99=>B hy99 fun l123 hl123 hy99=>B hy99 fun l134 hl134 hy99=>WP.cut (fun f w=>∃ (H140:Hp) (v152:Value),f 0=vp_axes∧f 1=vp_l∧f 2=(boo p_strict)∧f 7=v17∧f 8=(int i_20)∧f 9=v39∧f 10=v152∧f 11=(int k_55)∧f 12=(int j_84)∧Sl (α:=GAxis) H140 vp_axes p_axes∧Sl (α:=GField) H140 vp_l p_l∧Sl (α:=(List Str)) H140 v17 out_16∧Sl (α:=Str) H140 v39 r38∧Sl (α:=(List Str)) H140 v152 l134∧St w0 H0 w H140 [.row v152 34 1 l134.length,.row v17 34 1 out_16.length]) ?_ ?_
       ·refine WP.drawC (Cl w0 H0 H72 []) kr 15 rfl (bm 15 0) rfl ?_
        have S:=S.drew
        refine WC.take (i:=0) (bm 15 1) rfl kr kr kr rfl (fun _ _=>(R.mv (v:=v80) h82)) ?_
        refine WC.take (i:=1) (bm 15 3) rfl kr kr kr rfl (fun _ _=>(R.mv (v:=v17) h76)) ?_
        refine WC.take (i:=2) (bm 15 7) rfl kr kr kr rfl (fun _ _=>(R.mv (v:=int k_55) h83)) ?_
        refine WC.take (i:=6) (bm 15 71) rfl kr kr kr rfl (fun _ _=>(R.mv (v:=v39) h78)) ?_
        refine WC.take (i:=7) (bm 15 199) rfl kr kr kr rfl (fun _ _=>(R.mv (v:=int j_84) h85)) ?_
        refine WC.next (rs:=[3,8]) ⟨H72,(Hp.le.refl _),S.drop _ (.cons _ (.cons _ .slnil))⟩ kr (List.cons_ne_nil _ _) (allS ?_ (all1 ?_))
        ·refine Nxt.mk (o:=_) (bm 15 207) rfl rfl<|W.idx (α:=(List Str)) R18 rfl rfl el33 hx104 ?_
         rintro a156 _ hA157 ⟨v158,rfl,R159⟩
         refine We ?_
         refine WC.take (i:=4) (bm 15 223) rfl kr kr kr rfl (fun w hw=>by obtain ⟨_,hq,S⟩:=hw; exact (R.loadH (v:=v158) S rfl (At.mono hA157 hq (by simp)) lay34 rfl)) ?_
         refine WC.next (rs:=[5,8]) ⟨H72,(Hp.le.refl _),S.drop _ (.cons _ (.cons _ .slnil))⟩ kr (List.cons_ne_nil _ _) (allS ?_ (all1 ?_))
         ·refine Nxt.mk (o:=_) (bm 15 255) rfl rfl ?_
          have S:=S.addNil 9 1
          refine W.app (α:=Str) (i:=0) S el34 rfl rfl rfl Sl.nil R159 hl109 ?_
          intro v160 w161 H162 hle163 R164 S
          have Rp_axes:=Sl.mono Rp_axes hle163
          have Rp_l:=Sl.mono Rp_l hle163
          have R18:=Sl.mono R18 hle163
          have R43:=Sl.mono R43 hle163
          have R81:=Sl.mono R81 hle163
          have R159:=Sl.mono R159 hle163
          refine We ?_
          refine WC.next (rs:=[8]) ⟨H162,hle163,S.drop _ (.cons _ (.cons _ (.cons _ .slnil)))⟩ kr (List.cons_ne_nil _ _) (all1 ?_)
          refine Nxt.mk (o:=_) (bm 15 511) rfl rfl<|W.idx (α:=Str) R43 rfl rfl el34 hx115 ?_
          rintro a165 _ hA166 rfl
          refine We ?_
          refine WC.next (rs:=[9]) ⟨H162,hle163,S.drop _ (.cons _ (.cons _ (.cons _ .slnil)))⟩ kr (List.cons_ne_nil _ _) (all1 ?_)
          refine Nxt.mk (o:=_) (bm 15 1023) rfl rfl ?_
          refine Lq S hA166<|We ?_
          refine WC.next (rs:=[10]) ⟨H162,hle163,S.drop _ (.cons _ (.cons _ (.cons _ .slnil)))⟩ kr (List.cons_ne_nil _ _) (all1 ?_)
          refine Nxt.mk (o:=_) (bm 15 2047) rfl rfl<|W.bslice (α:=Str) [(str x115)] ([x115]:List Str) S el34 rfl rfl rfl (by decide) (Go.Eng.encS ⟨rfl,rfl⟩ enc0) ?_
          intro u167 w168 H169 hle170 R171 S
          have Rp_axes:=Sl.mono Rp_axes hle170
          have Rp_l:=Sl.mono Rp_l hle170
          have R18:=Sl.mono R18 hle170
          have R43:=Sl.mono R43 hle170
          have R81:=Sl.mono R81 hle170
          have R159:=Sl.mono R159 hle170
          have R164:=Sl.mono R164 hle170
          refine We ?_
          refine WC.next (rs:=[11]) ⟨H169,(hle163.trans hle170),S.drop _ (.cons _ (.cons _ (.cons _ (.cons _ .slnil))))⟩ kr (List.cons_ne_nil _ _) (all1 ?_)
          refine Nxt.mk (o:=_) (bm 15 4095) rfl rfl<|W.app (α:=Str) (i:=1) S el34 rfl rfl rfl R164 R171 hl123 ?_
          intro v172 w173 H174 hle175 R176 S
          have Rp_axes:=Sl.mono Rp_axes hle175
          have Rp_l:=Sl.mono Rp_l hle175
          have R18:=Sl.mono R18 hle175
          have R43:=Sl.mono R43 hle175
          have R81:=Sl.mono R81 hle175
          have R159:=Sl.mono R159 hle175
          refine We ?_
          refine WC.next (rs:=[12]) ⟨H174,((hle163.trans hle170).trans hle175),S.drop _ (.cons _ (.cons _ (.cons _ (.cons _ .slnil))))⟩ kr (List.cons_ne_nil _ _) (all1 ?_)
          refine Nxt.mk (o:=_) (bm 15 8191) rfl rfl<|W.bslice (α:=(List Str)) [v172] ([l123]:List (List Str)) S el33 rfl rfl rfl (by decide) (Go.Eng.encS ⟨(by rw [Sl.cellsOne R176]; rfl),_,(by rw [Sl.cellsOne R176]),R176⟩ enc0) ?_
          intro u177 w178 H179 hle180 R181 S
          have Rp_axes:=Sl.mono Rp_axes hle180
          have Rp_l:=Sl.mono Rp_l hle180
          have R18:=Sl.mono R18 hle180
          have R43:=Sl.mono R43 hle180
          have R81:=Sl.mono R81 hle180
          have R159:=Sl.mono R159 hle180
          refine We ?_
          refine WC.next (rs:=[13]) ⟨H179,(((hle163.trans hle170).trans hle175).trans hle180),S.drop _ (.cons _ (.cons _ (.cons _ (.cons _ (.cons _ .slnil)))))⟩ kr (List.cons_ne_nil _ _) (all1 ?_)
          refine Nxt.mk (o:=_) (bm 15 16383) rfl rfl<|W.app (α:=(List Str)) (i:=3) S el33 rfl rfl rfl R81 R181 hl134 ?_
          intro v182 w183 H184 hle185 R186 S
          have Rp_axes:=Sl.mono Rp_axes hle185
          have Rp_l:=Sl.mono Rp_l hle185
          have R18:=Sl.mono R18 hle185
          have R43:=Sl.mono R43 hle185
          have R81:=Sl.mono R81 hle185
          have R159:=Sl.mono R159 hle185
          refine We ?_
          refine WC.take (i:=14) (bm 15 32767) rfl kr kr kr rfl (fun _ _=>(R.as (v:=v182) rfl))<|WC.done ⟨H184,((((hle163.trans hle170).trans hle175).trans hle180).trans hle185),S.drop _ (.cons _ (.cons _ (.cons _ (.cons _ (.cons _ .slnil)))))⟩ kr ?_
          have S3:=S
          replace S3:=S3.front 4 rfl
          replace S3:=S3.front 4 rfl
          replace S3:St w0 H0 _ H184 [.row v182 34 1 l134.length,.row v17 34 1 out_16.length,.row u177 34 1 ([l123]:List (List Str)).length,.row u167 9 1 ([x115]:List Str).length,.row v172 9 1 l123.length]:=S3
          replace S3:St w0 H0 _ H184 [.row v182 34 1 l134.length,.row v17 34 1 out_16.length]:=S3.drop _ (.cons_cons _ (.cons_cons _ (.cons _ (.cons _ (.cons _ .slnil)))))
          exact ⟨H184,v182,h73,h74,h75,h76,h77,h78,rfl,h83,h85,Rp_axes,Rp_l,R18,R43,R186,S3⟩
         refine Nxt.mk (o:=_) (bm 15 479) rfl rfl<|W.idx (α:=Str) R43 rfl rfl el34 hx115 ?_
         rintro a187 _ hA188 rfl
         refine We ?_
         refine WC.take (i:=9) (bm 15 991) rfl kr kr kr rfl (fun w hw=>by obtain ⟨_,hq,S⟩:=hw; exact (R.loadH (v:=str x115) S rfl (At.mono hA188 hq (by simp)) lay9 rfl)) ?_
         refine WC.next (rs:=[5,10]) ⟨H72,(Hp.le.refl _),S.drop _ (.cons _ (.cons _ .slnil))⟩ kr (List.cons_ne_nil _ _) (allS ?_ (all1 ?_))
         ·refine Nxt.mk (o:=_) (bm 15 1023) rfl rfl ?_
          have S:=S.addNil 9 1
          refine W.app (α:=Str) (i:=0) S el34 rfl rfl rfl Sl.nil R159 hl109 ?_
          intro v189 w190 H191 hle192 R193 S
          have Rp_axes:=Sl.mono Rp_axes hle192
          have Rp_l:=Sl.mono Rp_l hle192
          have R18:=Sl.mono R18 hle192
          have R43:=Sl.mono R43 hle192
          have R81:=Sl.mono R81 hle192
          have R159:=Sl.mono R159 hle192
          refine We ?_
          refine WC.next (rs:=[10]) ⟨H191,hle192,S.drop _ (.cons _ (.cons _ (.cons _ .slnil)))⟩ kr (List.cons_ne_nil _ _) (all1 ?_)
          refine Nxt.mk (o:=_) (bm 15 2047) rfl rfl<|W.bslice (α:=Str) [(str x115)] ([x115]:List Str) S el34 rfl rfl rfl (by decide) (Go.Eng.encS ⟨rfl,rfl⟩ enc0) ?_
          intro u194 w195 H196 hle197 R198 S
          have Rp_axes:=Sl.mono Rp_axes hle197
          have Rp_l:=Sl.mono Rp_l hle197
          have R18:=Sl.mono R18 hle197
          have R43:=Sl.mono R43 hle197
          have R81:=Sl.mono R81 hle197
          have R159:=Sl.mono R159 hle197
          have R193:=Sl.mono R193 hle197
          refine We ?_
          refine WC.next (rs:=[11]) ⟨H196,(hle192.trans hle197),S.drop _ (.cons _ (.cons _ (.cons _ (.cons _ .slnil))))⟩ kr (List.cons_ne_nil _ _) (all1 ?_)
          refine Nxt.mk (o:=_) (bm 15 4095) rfl rfl<|W.app (α:=Str) (i:=1) S el34 rfl rfl rfl R193 R198 hl123 ?_
          intro v199 w200 H201 hle202 R203 S
          have Rp_axes:=Sl.mono Rp_axes hle202
          have Rp_l:=Sl.mono Rp_l hle202
          have R18:=Sl.mono R18 hle202
          have R43:=Sl.mono R43 hle202
          have R81:=Sl.mono R81 hle202
          have R159:=Sl.mono R159 hle202
          refine We ?_
          refine WC.next (rs:=[12]) ⟨H201,((hle192.trans hle197).trans hle202),S.drop _ (.cons _ (.cons _ (.cons _ (.cons _ .slnil))))⟩ kr (List.cons_ne_nil _ _) (all1 ?_)
          refine Nxt.mk (o:=_) (bm 15 8191) rfl rfl<|W.bslice (α:=(List Str)) [v199] ([l123]:List (List Str)) S el33 rfl rfl rfl (by decide) (Go.Eng.encS ⟨(by rw [Sl.cellsOne R203]; rfl),_,(by rw [Sl.cellsOne R203]),R203⟩ enc0) ?_
          intro u204 w205 H206 hle207 R208 S
          have Rp_axes:=Sl.mono Rp_axes hle207
          have Rp_l:=Sl.mono Rp_l hle207
          have R18:=Sl.mono R18 hle207
          have R43:=Sl.mono R43 hle207
          have R81:=Sl.mono R81 hle207
          have R159:=Sl.mono R159 hle207
          refine We ?_
          refine WC.next (rs:=[13]) ⟨H206,(((hle192.trans hle197).trans hle202).trans hle207),S.drop _ (.cons _ (.cons _ (.cons _ (.cons _ (.cons _ .slnil)))))⟩ kr (List.cons_ne_nil _ _) (all1 ?_)
          refine Nxt.mk (o:=_) (bm 15 16383) rfl rfl<|W.app (α:=(List Str)) (i:=3) S el33 rfl rfl rfl R81 R208 hl134 ?_
          intro v209 w210 H211 hle212 R213 S
          have Rp_axes:=Sl.mono Rp_axes hle212
          have Rp_l:=Sl.mono Rp_l hle212
          have R18:=Sl.mono R18 hle212
          have R43:=Sl.mono R43 hle212
          have R81:=Sl.mono R81 hle212
          have R159:=Sl.mono R159 hle212
          refine We ?_
          refine WC.take (i:=14) (bm 15 32767) rfl kr kr kr rfl (fun _ _=>(R.as (v:=v209) rfl))<|WC.done ⟨H211,((((hle192.trans hle197).trans hle202).trans hle207).trans hle212),S.drop _ (.cons _ (.cons _ (.cons _ (.cons _ (.cons _ .slnil)))))⟩ kr ?_
          have S3:=S
          replace S3:=S3.front 4 rfl
          replace S3:=S3.front 4 rfl
          replace S3:St w0 H0 _ H211 [.row v209 34 1 l134.length,.row v17 34 1 out_16.length,.row u204 34 1 ([l123]:List (List Str)).length,.row u194 9 1 ([x115]:List Str).length,.row v199 9 1 l123.length]:=S3
          replace S3:St w0 H0 _ H211 [.row v209 34 1 l134.length,.row v17 34 1 out_16.length]:=S3.drop _ (.cons_cons _ (.cons_cons _ (.cons _ (.cons _ (.cons _ .slnil)))))
          exact ⟨H211,v209,h73,h74,h75,h76,h77,h78,rfl,h83,h85,Rp_axes,Rp_l,R18,R43,R213,S3⟩
         refine Nxt.mk (o:=_) (bm 15 2015) rfl rfl<|W.bslice (α:=Str) [(str x115)] ([x115]:List Str) S el34 rfl rfl rfl (by decide) (Go.Eng.encS ⟨rfl,rfl⟩ enc0) ?_
         intro u214 w215 H216 hle217 R218 S
         have Rp_axes:=Sl.mono Rp_axes hle217
         have Rp_l:=Sl.mono Rp_l hle217
         have R18:=Sl.mono R18 hle217
         have R43:=Sl.mono R43 hle217
         have R81:=Sl.mono R81 hle217
         have R159:=Sl.mono R159 hle217
         refine We ?_
         refine WC.next (rs:=[5]) ⟨H216,hle217,S.drop _ (.cons _ (.cons _ (.cons _ .slnil)))⟩ kr (List.cons_ne_nil _ _) (all1 ?_)
         refine Nxt.mk (o:=_) (bm 15 2047) rfl rfl ?_
         have S:=S.addNil 9 1
         refine W.app (α:=Str) (i:=0) S el34 rfl rfl rfl Sl.nil R159 hl109 ?_
         intro v219 w220 H221 hle222 R223 S
         have Rp_axes:=Sl.mono Rp_axes hle222
         have Rp_l:=Sl.mono Rp_l hle222
         have R18:=Sl.mono R18 hle222
         have R43:=Sl.mono R43 hle222
         have R81:=Sl.mono R81 hle222
         have R218:=Sl.mono R218 hle222
         refine We ?_
         refine WC.next (rs:=[11]) ⟨H221,(hle217.trans hle222),S.drop _ (.cons _ (.cons _ (.cons _ (.cons _ .slnil))))⟩ kr (List.cons_ne_nil _ _) (all1 ?_)
         refine Nxt.mk (o:=_) (bm 15 4095) rfl rfl<|W.app (α:=Str) (i:=0) S el34 rfl rfl rfl R223 R218 hl123 ?_
         intro v224 w225 H226 hle227 R228 S
         have Rp_axes:=Sl.mono Rp_axes hle227
         have Rp_l:=Sl.mono Rp_l hle227
         have R18:=Sl.mono R18 hle227
         have R43:=Sl.mono R43 hle227
         have R81:=Sl.mono R81 hle227
         refine We ?_
         refine WC.next (rs:=[12]) ⟨H226,((hle217.trans hle222).trans hle227),S.drop _ (.cons _ (.cons _ (.cons _ (.cons _ .slnil))))⟩ kr (List.cons_ne_nil _ _) (all1 ?_)
         refine Nxt.mk (o:=_) (bm 15 8191) rfl rfl<|W.bslice (α:=(List Str)) [v224] ([l123]:List (List Str)) S el33 rfl rfl rfl (by decide) (Go.Eng.encS ⟨(by rw [Sl.cellsOne R228]; rfl),_,(by rw [Sl.cellsOne R228]),R228⟩ enc0) ?_
         intro u229 w230 H231 hle232 R233 S
         have Rp_axes:=Sl.mono Rp_axes hle232
         have Rp_l:=Sl.mono Rp_l hle232
         have R18:=Sl.mono R18 hle232
         have R43:=Sl.mono R43 hle232
         have R81:=Sl.mono R81 hle232
         refine We ?_
         refine WC.next (rs:=[13]) ⟨H231,(((hle217.trans hle222).trans hle227).trans hle232),S.drop _ (.cons _ (.cons _ (.cons _ (.cons _ (.cons _ .slnil)))))⟩ kr (List.cons_ne_nil _ _) (all1 ?_)
         refine Nxt.mk (o:=_) (bm 15 16383) rfl rfl<|W.app (α:=(List Str)) (i:=3) S el33 rfl rfl rfl R81 R233 hl134 ?_
         intro v234 w235 H236 hle237 R238 S
         have Rp_axes:=Sl.mono Rp_axes hle237
         have Rp_l:=Sl.mono Rp_l hle237
         have R18:=Sl.mono R18 hle237
         have R43:=Sl.mono R43 hle237
         have R81:=Sl.mono R81 hle237
         refine We ?_
         refine WC.take (i:=14) (bm 15 32767) rfl kr kr kr rfl (fun _ _=>(R.as (v:=v234) rfl))<|WC.done ⟨H236,((((hle217.trans hle222).trans hle227).trans hle232).trans hle237),S.drop _ (.cons _ (.cons _ (.cons _ (.cons _ (.cons _ .slnil)))))⟩ kr ?_
         have S3:=S
         replace S3:=S3.front 4 rfl
         replace S3:=S3.front 4 rfl
         replace S3:St w0 H0 _ H236 [.row v234 34 1 l134.length,.row v17 34 1 out_16.length,.row u229 34 1 ([l123]:List (List Str)).length,.row v224 9 1 l123.length,.row u214 9 1 ([x115]:List Str).length]:=S3
         replace S3:St w0 H0 _ H236 [.row v234 34 1 l134.length,.row v17 34 1 out_16.length]:=S3.drop _ (.cons_cons _ (.cons_cons _ (.cons _ (.cons _ (.cons _ .slnil)))))
         exact ⟨H236,v234,h73,h74,h75,h76,h77,h78,rfl,h83,h85,Rp_axes,Rp_l,R18,R43,R238,S3⟩
        refine Nxt.mk (o:=_) (bm 15 455) rfl rfl<|W.idx (α:=Str) R43 rfl rfl el34 hx115 ?_
        rintro a239 _ hA240 rfl
        refine We ?_
        refine WC.take (i:=9) (bm 15 967) rfl kr kr kr rfl (fun w hw=>by obtain ⟨_,hq,S⟩:=hw; exact (R.loadH (v:=str x115) S rfl (At.mono hA240 hq (by simp)) lay9 rfl)) ?_
        refine WC.next (rs:=[3,10]) ⟨H72,(Hp.le.refl _),S.drop _ (.cons _ (.cons _ .slnil))⟩ kr (List.cons_ne_nil _ _) (allS ?_ (all1 ?_))
        ·refine Nxt.mk (o:=_) (bm 15 975) rfl rfl<|W.idx (α:=(List Str)) R18 rfl rfl el33 hx104 ?_
         rintro a241 _ hA242 ⟨v243,rfl,R244⟩
         refine We ?_
         refine WC.take (i:=4) (bm 15 991) rfl kr kr kr rfl (fun w hw=>by obtain ⟨_,hq,S⟩:=hw; exact (R.loadH (v:=v243) S rfl (At.mono hA242 hq (by simp)) lay34 rfl)) ?_
         refine WC.next (rs:=[5,10]) ⟨H72,(Hp.le.refl _),S.drop _ (.cons _ (.cons _ .slnil))⟩ kr (List.cons_ne_nil _ _) (allS ?_ (all1 ?_))
         ·refine Nxt.mk (o:=_) (bm 15 1023) rfl rfl ?_
          have S:=S.addNil 9 1
          refine W.app (α:=Str) (i:=0) S el34 rfl rfl rfl Sl.nil R244 hl109 ?_
          intro v245 w246 H247 hle248 R249 S
          have Rp_axes:=Sl.mono Rp_axes hle248
          have Rp_l:=Sl.mono Rp_l hle248
          have R18:=Sl.mono R18 hle248
          have R43:=Sl.mono R43 hle248
          have R81:=Sl.mono R81 hle248
          have R244:=Sl.mono R244 hle248
          refine We ?_
          refine WC.next (rs:=[10]) ⟨H247,hle248,S.drop _ (.cons _ (.cons _ (.cons _ .slnil)))⟩ kr (List.cons_ne_nil _ _) (all1 ?_)
          refine Nxt.mk (o:=_) (bm 15 2047) rfl rfl<|W.bslice (α:=Str) [(str x115)] ([x115]:List Str) S el34 rfl rfl rfl (by decide) (Go.Eng.encS ⟨rfl,rfl⟩ enc0) ?_
          intro u250 w251 H252 hle253 R254 S
          have Rp_axes:=Sl.mono Rp_axes hle253
          have Rp_l:=Sl.mono Rp_l hle253
          have R18:=Sl.mono R18 hle253
          have R43:=Sl.mono R43 hle253
          have R81:=Sl.mono R81 hle253
          have R244:=Sl.mono R244 hle253
          have R249:=Sl.mono R249 hle253
          refine We ?_
          refine WC.next (rs:=[11]) ⟨H252,(hle248.trans hle253),S.drop _ (.cons _ (.cons _ (.cons _ (.cons _ .slnil))))⟩ kr (List.cons_ne_nil _ _) (all1 ?_)
          refine Nxt.mk (o:=_) (bm 15 4095) rfl rfl<|W.app (α:=Str) (i:=1) S el34 rfl rfl rfl R249 R254 hl123 ?_
          intro v255 w256 H257 hle258 R259 S
          have Rp_axes:=Sl.mono Rp_axes hle258
          have Rp_l:=Sl.mono Rp_l hle258
          have R18:=Sl.mono R18 hle258
          have R43:=Sl.mono R43 hle258
          have R81:=Sl.mono R81 hle258
          have R244:=Sl.mono R244 hle258
          refine We ?_
          refine WC.next (rs:=[12]) ⟨H257,((hle248.trans hle253).trans hle258),S.drop _ (.cons _ (.cons _ (.cons _ (.cons _ .slnil))))⟩ kr (List.cons_ne_nil _ _) (all1 ?_)
          refine Nxt.mk (o:=_) (bm 15 8191) rfl rfl<|W.bslice (α:=(List Str)) [v255] ([l123]:List (List Str)) S el33 rfl rfl rfl (by decide) (Go.Eng.encS ⟨(by rw [Sl.cellsOne R259]; rfl),_,(by rw [Sl.cellsOne R259]),R259⟩ enc0) ?_
          intro u260 w261 H262 hle263 R264 S
          have Rp_axes:=Sl.mono Rp_axes hle263
          have Rp_l:=Sl.mono Rp_l hle263
          have R18:=Sl.mono R18 hle263
          have R43:=Sl.mono R43 hle263
          have R81:=Sl.mono R81 hle263
          have R244:=Sl.mono R244 hle263
          refine We ?_
          refine WC.next (rs:=[13]) ⟨H262,(((hle248.trans hle253).trans hle258).trans hle263),S.drop _ (.cons _ (.cons _ (.cons _ (.cons _ (.cons _ .slnil)))))⟩ kr (List.cons_ne_nil _ _) (all1 ?_)
          refine Nxt.mk (o:=_) (bm 15 16383) rfl rfl<|W.app (α:=(List Str)) (i:=3) S el33 rfl rfl rfl R81 R264 hl134 ?_
          intro v265 w266 H267 hle268 R269 S
          have Rp_axes:=Sl.mono Rp_axes hle268
          have Rp_l:=Sl.mono Rp_l hle268
          have R18:=Sl.mono R18 hle268
          have R43:=Sl.mono R43 hle268
          have R81:=Sl.mono R81 hle268
          have R244:=Sl.mono R244 hle268
          refine We ?_
          refine WC.take (i:=14) (bm 15 32767) rfl kr kr kr rfl (fun _ _=>(R.as (v:=v265) rfl))<|WC.done ⟨H267,((((hle248.trans hle253).trans hle258).trans hle263).trans hle268),S.drop _ (.cons _ (.cons _ (.cons _ (.cons _ (.cons _ .slnil)))))⟩ kr ?_
          have S3:=S
          replace S3:=S3.front 4 rfl
          replace S3:=S3.front 4 rfl
          replace S3:St w0 H0 _ H267 [.row v265 34 1 l134.length,.row v17 34 1 out_16.length,.row u260 34 1 ([l123]:List (List Str)).length,.row u250 9 1 ([x115]:List Str).length,.row v255 9 1 l123.length]:=S3
          replace S3:St w0 H0 _ H267 [.row v265 34 1 l134.length,.row v17 34 1 out_16.length]:=S3.drop _ (.cons_cons _ (.cons_cons _ (.cons _ (.cons _ (.cons _ .slnil)))))
          exact ⟨H267,v265,h73,h74,h75,h76,h77,h78,rfl,h83,h85,Rp_axes,Rp_l,R18,R43,R269,S3⟩
         refine Nxt.mk (o:=_) (bm 15 2015) rfl rfl<|W.bslice (α:=Str) [(str x115)] ([x115]:List Str) S el34 rfl rfl rfl (by decide) (Go.Eng.encS ⟨rfl,rfl⟩ enc0) ?_
         intro u270 w271 H272 hle273 R274 S
         have Rp_axes:=Sl.mono Rp_axes hle273
         have Rp_l:=Sl.mono Rp_l hle273
         have R18:=Sl.mono R18 hle273
         have R43:=Sl.mono R43 hle273
         have R81:=Sl.mono R81 hle273
         have R244:=Sl.mono R244 hle273
         refine We ?_
         refine WC.next (rs:=[5]) ⟨H272,hle273,S.drop _ (.cons _ (.cons _ (.cons _ .slnil)))⟩ kr (List.cons_ne_nil _ _) (all1 ?_)
         refine Nxt.mk (o:=_) (bm 15 2047) rfl rfl ?_
         have S:=S.addNil 9 1
         refine W.app (α:=Str) (i:=0) S el34 rfl rfl rfl Sl.nil R244 hl109 ?_
         intro v275 w276 H277 hle278 R279 S
         have Rp_axes:=Sl.mono Rp_axes hle278
         have Rp_l:=Sl.mono Rp_l hle278
         have R18:=Sl.mono R18 hle278
         have R43:=Sl.mono R43 hle278
         have R81:=Sl.mono R81 hle278
         have R274:=Sl.mono R274 hle278
         refine We ?_
         refine WC.next (rs:=[11]) ⟨H277,(hle273.trans hle278),S.drop _ (.cons _ (.cons _ (.cons _ (.cons _ .slnil))))⟩ kr (List.cons_ne_nil _ _) (all1 ?_)
         refine Nxt.mk (o:=_) (bm 15 4095) rfl rfl<|W.app (α:=Str) (i:=0) S el34 rfl rfl rfl R279 R274 hl123 ?_
         intro v280 w281 H282 hle283 R284 S
         have Rp_axes:=Sl.mono Rp_axes hle283
         have Rp_l:=Sl.mono Rp_l hle283
         have R18:=Sl.mono R18 hle283
         have R43:=Sl.mono R43 hle283
         have R81:=Sl.mono R81 hle283
         refine We ?_
         refine WC.next (rs:=[12]) ⟨H282,((hle273.trans hle278).trans hle283),S.drop _ (.cons _ (.cons _ (.cons _ (.cons _ .slnil))))⟩ kr (List.cons_ne_nil _ _) (all1 ?_)
         refine Nxt.mk (o:=_) (bm 15 8191) rfl rfl<|W.bslice (α:=(List Str)) [v280] ([l123]:List (List Str)) S el33 rfl rfl rfl (by decide) (Go.Eng.encS ⟨(by rw [Sl.cellsOne R284]; rfl),_,(by rw [Sl.cellsOne R284]),R284⟩ enc0) ?_
         intro u285 w286 H287 hle288 R289 S
         have Rp_axes:=Sl.mono Rp_axes hle288
         have Rp_l:=Sl.mono Rp_l hle288
         have R18:=Sl.mono R18 hle288
         have R43:=Sl.mono R43 hle288
         have R81:=Sl.mono R81 hle288
         refine We ?_
         refine WC.next (rs:=[13]) ⟨H287,(((hle273.trans hle278).trans hle283).trans hle288),S.drop _ (.cons _ (.cons _ (.cons _ (.cons _ (.cons _ .slnil)))))⟩ kr (List.cons_ne_nil _ _) (all1 ?_)
         refine Nxt.mk (o:=_) (bm 15 16383) rfl rfl<|W.app (α:=(List Str)) (i:=3) S el33 rfl rfl rfl R81 R289 hl134 ?_
         intro v290 w291 H292 hle293 R294 S
         have Rp_axes:=Sl.mono Rp_axes hle293
         have Rp_l:=Sl.mono Rp_l hle293
         have R18:=Sl.mono R18 hle293
         have R43:=Sl.mono R43 hle293
         have R81:=Sl.mono R81 hle293
         refine We ?_
         refine WC.take (i:=14) (bm 15 32767) rfl kr kr kr rfl (fun _ _=>(R.as (v:=v290) rfl))<|WC.done ⟨H292,((((hle273.trans hle278).trans hle283).trans hle288).trans hle293),S.drop _ (.cons _ (.cons _ (.cons _ (.cons _ (.cons _ .slnil)))))⟩ kr ?_
         have S3:=S
         replace S3:=S3.front 4 rfl
         replace S3:=S3.front 4 rfl
         replace S3:St w0 H0 _ H292 [.row v290 34 1 l134.length,.row v17 34 1 out_16.length,.row u285 34 1 ([l123]:List (List Str)).length,.row v280 9 1 l123.length,.row u270 9 1 ([x115]:List Str).length]:=S3
         replace S3:St w0 H0 _ H292 [.row v290 34 1 l134.length,.row v17 34 1 out_16.length]:=S3.drop _ (.cons_cons _ (.cons_cons _ (.cons _ (.cons _ (.cons _ .slnil)))))
         exact ⟨H292,v290,h73,h74,h75,h76,h77,h78,rfl,h83,h85,Rp_axes,Rp_l,R18,R43,R294,S3⟩
        refine Nxt.mk (o:=_) (bm 15 1991) rfl rfl<|W.bslice (α:=Str) [(str x115)] ([x115]:List Str) S el34 rfl rfl rfl (by decide) (Go.Eng.encS ⟨rfl,rfl⟩ enc0) ?_
        intro u295 w296 H297 hle298 R299 S
        have Rp_axes:=Sl.mono Rp_axes hle298
        have Rp_l:=Sl.mono Rp_l hle298
        have R18:=Sl.mono R18 hle298
        have R43:=Sl.mono R43 hle298
        have R81:=Sl.mono R81 hle298
        refine We ?_
        refine WC.next (rs:=[3]) ⟨H297,hle298,S.drop _ (.cons _ (.cons _ (.cons _ .slnil)))⟩ kr (List.cons_ne_nil _ _) (all1 ?_)
        refine Nxt.mk (o:=_) (bm 15 1999) rfl rfl<|W.idx (α:=(List Str)) R18 rfl rfl el33 hx104 ?_
        rintro a300 _ hA301 ⟨v302,rfl,R303⟩
        refine We ?_
        refine WC.next (rs:=[4]) ⟨H297,hle298,S.drop _ (.cons _ (.cons _ (.cons _ .slnil)))⟩ kr (List.cons_ne_nil _ _) (all1 ?_)
        refine Nxt.mk (o:=_) (bm 15 2015) rfl rfl ?_
        refine Lq S hA301<|We ?_
        refine WC.next (rs:=[5]) ⟨H297,hle298,S.drop _ (.cons _ (.cons _ (.cons _ .slnil)))⟩ kr (List.cons_ne_nil _ _) (all1 ?_)
        refine Nxt.mk (o:=_) (bm 15 2047) rfl rfl ?_
        have S:=S.addNil 9 1
        refine W.app (α:=Str) (i:=0) S el34 rfl rfl rfl Sl.nil R303 hl109 ?_
        intro v304 w305 H306 hle307 R308 S
        have Rp_axes:=Sl.mono Rp_axes hle307
        have Rp_l:=Sl.mono Rp_l hle307
        have R18:=Sl.mono R18 hle307
        have R43:=Sl.mono R43 hle307
        have R81:=Sl.mono R81 hle307
        have R299:=Sl.mono R299 hle307
        refine We ?_
        refine WC.next (rs:=[11]) ⟨H306,(hle298.trans hle307),S.drop _ (.cons _ (.cons _ (.cons _ (.cons _ .slnil))))⟩ kr (List.cons_ne_nil _ _) (all1 ?_)
        refine Nxt.mk (o:=_) (bm 15 4095) rfl rfl<|W.app (α:=Str) (i:=0) S el34 rfl rfl rfl R308 R299 hl123 ?_
        intro v309 w310 H311 hle312 R313 S
        have Rp_axes:=Sl.mono Rp_axes hle312
        have Rp_l:=Sl.mono Rp_l hle312
        have R18:=Sl.mono R18 hle312
        have R43:=Sl.mono R43 hle312
        have R81:=Sl.mono R81 hle312
        refine We ?_
        refine WC.next (rs:=[12]) ⟨H311,((hle298.trans hle307).trans hle312),S.drop _ (.cons _ (.cons _ (.cons _ (.cons _ .slnil))))⟩ kr (List.cons_ne_nil _ _) (all1 ?_)
        refine Nxt.mk (o:=_) (bm 15 8191) rfl rfl<|W.bslice (α:=(List Str)) [v309] ([l123]:List (List Str)) S el33 rfl rfl rfl (by decide) (Go.Eng.encS ⟨(by rw [Sl.cellsOne R313]; rfl),_,(by rw [Sl.cellsOne R313]),R313⟩ enc0) ?_
        intro u314 w315 H316 hle317 R318 S
        have Rp_axes:=Sl.mono Rp_axes hle317
        have Rp_l:=Sl.mono Rp_l hle317
        have R18:=Sl.mono R18 hle317
        have R43:=Sl.mono R43 hle317
        have R81:=Sl.mono R81 hle317
        refine We ?_
        refine WC.next (rs:=[13]) ⟨H316,(((hle298.trans hle307).trans hle312).trans hle317),S.drop _ (.cons _ (.cons _ (.cons _ (.cons _ (.cons _ .slnil)))))⟩ kr (List.cons_ne_nil _ _) (all1 ?_)
        refine Nxt.mk (o:=_) (bm 15 16383) rfl rfl<|W.app (α:=(List Str)) (i:=3) S el33 rfl rfl rfl R81 R318 hl134 ?_
        intro v319 w320 H321 hle322 R323 S
        have Rp_axes:=Sl.mono Rp_axes hle322
        have Rp_l:=Sl.mono Rp_l hle322
        have R18:=Sl.mono R18 hle322
        have R43:=Sl.mono R43 hle322
        have R81:=Sl.mono R81 hle322
        refine We ?_
        refine WC.take (i:=14) (bm 15 32767) rfl kr kr kr rfl (fun _ _=>(R.as (v:=v319) rfl))<|WC.done ⟨H321,((((hle298.trans hle307).trans hle312).trans hle317).trans hle322),S.drop _ (.cons _ (.cons _ (.cons _ (.cons _ (.cons _ .slnil)))))⟩ kr ?_
        have S3:=S
        replace S3:=S3.front 4 rfl
        replace S3:=S3.front 4 rfl
        replace S3:St w0 H0 _ H321 [.row v319 34 1 l134.length,.row v17 34 1 out_16.length,.row u314 34 1 ([l123]:List (List Str)).length,.row v309 9 1 l123.length,.row u295 9 1 ([x115]:List Str).length]:=S3
        replace S3:St w0 H0 _ H321 [.row v319 34 1 l134.length,.row v17 34 1 out_16.length]:=S3.drop _ (.cons_cons _ (.cons_cons _ (.cons _ (.cons _ (.cons _ .slnil)))))
        exact ⟨H321,v319,h73,h74,h75,h76,h77,h78,rfl,h83,h85,Rp_axes,Rp_l,R18,R43,R323,S3⟩
       rintro f w ⟨H140,v152,h141,h143,h145,h146,h148,h149,h151,h154,h155,R142,R144,R147,R150,R153,S⟩
       refine Wg<|M' h155<|Lg<|A<|We ?_
       obtain rfl:=oi hy99
       exact ⟨rfl,⟨H140,v152,h141,h143,h145,h146,h148,h149,h151,h154,rfl,R142,R144,R147,R150,R153,S⟩⟩
      refine CF hc103<|Wx ?_
      obtain rfl:=oi hy99
      obtain rfl:=hy100
      exact ⟨H72,v80,h73,h74,h75,h76,h77,h78,h82,h83,Rp_axes,Rp_l,R18,R43,R81,S⟩
     rintro f w ⟨H86,v94,h87,h88,h89,h90,h91,h92,h96,h97,Rp_axes,Rp_l,R18,R43,R95,S⟩
     refine Wg<|M' h97<|Lg<|A<|We ?_
     obtain rfl:=oi hy67
     exact ⟨rfl,⟨H86,v94,h87,h88,h89,h90,h91,h92,h96,rfl,Rp_axes,Rp_l,R18,R43,R95,S⟩⟩
    refine CF hc71<|Wx ?_
    obtain rfl:=oi hy67
    obtain rfl:=hy68
    exact ⟨H44,v52,h45,h46,h47,h49,h54,Rp_axes,Rp_l,R53,(S.drop _ (.cons_cons _ (.cons _ .slnil)))⟩
   rintro f w ⟨H57,v63,h58,h59,h60,h61,h65,Rp_axes,Rp_l,R64,S⟩
   refine Wg<|M' h65<|A<|We<|Wg<|M' h61<|Lg<|A<|We ?_
   obtain rfl:=oi hy28
   exact ⟨rfl,⟨H57,v63,h58,h59,h60,rfl,rfl,Rp_axes,Rp_l,R64,S⟩⟩
  refine CF hc32<|Wx ?_
  obtain rfl:=oi hy28
  obtain rfl:=hy29
  exact ⟨H12,v17,h19,R18,S⟩
 rintro f w ⟨H22,v24,h26,R25,S⟩
 refine Ws<|Ws<|Wg<|M' h26<|Nq R25<|Lc<|We<|B h fun out_325 hj329 h=>WP.cut (fun f w=>∃ (H324:Hp) (v326:Value),f 7=v326∧Sl (α:=(List Str)) H324 v326 out_325∧St w0 H0 w H324 []) ?_ ?_
 ·rcases condE hj329 with ⟨hc331,hj329⟩ | ⟨hc331,hj329⟩
  ·refine CT hc331<|Wg<|M' h26<|B hj329 fun l332 hl332 hj329=>W.subHi (α:=(List Str)) R25 rfl rfl el33 hl332 ?_
   intro v333 R334
   refine A<|We ?_
   obtain rfl:=oi hj329
   exact ⟨H22,v333,rfl,R334,(S.drop _ (.cons _ .slnil))⟩
  refine CF hc331<|Wk ?_
  obtain rfl:=oi hj329
  exact ⟨H22,v24,h26,R25,(S.drop _ (.cons _ .slnil))⟩
 rintro f w ⟨H324,v326,h328,R327,S⟩
 refine Ws<|Wg<|M' h328<|A<|We ?_
 obtain rfl:=oi h
 refine WP.ret (Out.one rfl S rfl ?_)
 exact R327
theorem zKC {w0:World} {H0:Hp} (hw:Holds w0 H0) (p_axes:(List GAxis)) (p_l:(List GField)) (p_strict:Bool) {vp_axes:Value} {vp_l:Value} (Rp_axes:Sl (α:=GAxis) H0 vp_axes p_axes) (Rp_l:Sl (α:=GField) H0 vp_l p_l) {r:((List Str)×Bool)} (h:zHB p_axes p_l p_strict=some r) :
  Con Tryz.prog 21 [vp_axes,vp_l,(boo p_strict)] w0 H0 (fun H' v=>∃ u1:Value,v=(.tuple ⟨[u1,(boo r.2)]⟩)∧Sl (α:=Str) H' u1 r.1):=by
 refine Con.mk (N:=19) Tryz.func21 rfl rfl kr rfl ?_
 have S:=St.start hw
 refine Ws<|Wg<|A<|A<|We<|Ws<|Wg<|M<|M<|M<|B h fun r1 hr1 h=>W.call S rfl (zJ6 S.holds p_axes p_l p_strict Rp_axes Rp_l hr1) ?_
 rintro v2 w3 H4 hle5 S R6
 refine A<|We<|Ws<|Ws<|Wg<|M<|Nq R6<|Le<|We ?_
 rcases condE h with ⟨hc7,h⟩ | ⟨hc7,h⟩
 ·refine CT hc7<|Ws<|Wg<|A<|A<|We ?_
  obtain rfl:=oi h
  refine WP.ret (Out.two rfl S rfl rfl ?_)
  exact ⟨_,rfl,Sl.nil⟩
 refine CF hc7<|Wk<|Ws<|Wg<|M<|B h fun x8 hx8 h=>W.idx (α:=(List Str)) R6 rfl rfl el33 hx8 ?_
 rintro a9 _ hA10 ⟨v11,rfl,R12⟩
 refine Lq S hA10<|A<|A<|We ?_
 obtain rfl:=oi h
 refine WP.ret (Out.two rfl S rfl rfl ?_)
 exact ⟨_,rfl,R12⟩
theorem zIg {w0:World} {H0:Hp} (hw:Holds w0 H0) (p_axes:(List GAxis)) (p_a:(List Str)) (p_b:(List Str)) {vp_axes:Value} {vp_a:Value} {vp_b:Value} (Rp_axes:Sl (α:=GAxis) H0 vp_axes p_axes) (Rp_a:Sl (α:=Str) H0 vp_a p_a) (Rp_b:Sl (α:=Str) H0 vp_b p_b) {r:Bool} (h:zEv p_axes p_a p_b=some r) :
  Con Tryz.prog 22 [vp_axes,vp_a,vp_b] w0 H0 (fun H' v=>v=(boo r)):=by
 refine Con.mk (N:=41) Tryz.func22 rfl rfl kr rfl ?_
 have S:=St.start hw
 refine Ws<|Wg<|A<|We<|Ws<|Ws<|Wg<|M<|Nq Rp_a<|M<|Nq Rp_axes<|Lf ?_
 refine M ?_
 refine WL.grp 6 [14,15,16,17,18] 19 (boo (((p_a.length:Int) !=(p_axes.length:Int))||((p_b.length:Int) !=(p_axes.length:Int)))) ?_ ?_
 ·rcases boolE ((p_a.length:Int) !=(p_axes.length:Int)) with hb1 | hb1
  ·refine Gn hb1<|Gn hb1<|Gn hb1<|Gn hb1<|Gn hb1<|Pt hb1 ?_
   exact We ⟨(orT hb1),ag,rfl⟩
  refine Gy hb1<|M<|Gy hb1<|Nq Rp_b<|Gy hb1<|M<|Gy hb1<|Nq Rp_axes<|Gy hb1<|Lf<|Pf hb1 ?_
  exact We ⟨(orF hb1),ag,rfl⟩
 intro us
 refine We ?_
 rcases condE h with ⟨hc3,h⟩ | ⟨hc3,h⟩
 ·refine CT hc3<|Ws<|Wg<|A<|We ?_
  obtain rfl:=oi h
  refine WP.ret (Out.one rfl S rfl ?_)
  exact rfl
 refine CF hc3<|Wk<|Ws<|Ws<|Wg<|A<|We<|B h fun r14 hr15 h=>WP.cut (fun f w=>match r14 with | .inl _=>∃ (H10:Hp),St w0 H0 w H10 [] | .inr _=>False) ?_ ?_
 ·refine Wb ?_
  refine WP.loopM (zBh p_axes p_a p_b) (fun s f w=>match s with | i_8=>∃ (H4:Hp),f 0=vp_axes∧f 1=vp_a∧f 2=vp_b∧f 7=(int i_8)∧Sl (α:=GAxis) H4 vp_axes p_axes∧Sl (α:=Str) H4 vp_a p_a∧Sl (α:=Str) H4 vp_b p_b∧St w0 H0 w H4 []) 0 r14 hr15 ?_ ?_
  ·exact ⟨H0,rfl,rfl,rfl,rfl,Rp_axes,Rp_a,Rp_b,S⟩
  intro i_8 f w hI y11 hy12 hy13
  obtain ⟨H4,h5,h6,h7,h9,Rp_axes,Rp_a,Rp_b,S⟩:=hI
  refine Ws<|Ws<|Wg<|M' h9<|M' h5<|Nq Rp_axes<|La<|We ?_
  rcases condE hy12 with ⟨hc16,hy12⟩ | ⟨hc16,hy12⟩
  ·refine CT hc16<|Wk<|Ws<|Wb<|Ws<|WP.quiet S kr kr<|QM' h5<|QM' h9<|B hy12 fun x20 hx20 hy12=>WQ.idx (α:=GAxis) Rp_axes rfl rfl el22 hx20 ?_
   rintro a21 _ hA22 ⟨v23,rfl,R24⟩
   refine QFc ?_
   have hA25:=At.add hA22 0 (by simp)
   refine WQ.val (fun w hw=>by obtain ⟨_,hq,S⟩:=hw; exact (R.loadH (v:=str x20.fName) S rfl (At.mono hA25 hq (by simp)) lay9 rfl))<|QM' h6<|QM' h9<|B hy12 fun x26 hx26 hy12=>WQ.idx (α:=Str) Rp_a rfl rfl el34 hx26 ?_
   rintro a27 _ hA28 rfl
   refine WQ.val (fun w hw=>by obtain ⟨_,hq,S⟩:=hw; exact (R.loadH (v:=str x26) S rfl (At.mono hA28 hq (by simp)) lay9 rfl))<|QM' h7<|QM' h9<|B hy12 fun x29 hx29 hy12=>WQ.idx (α:=Str) Rp_b rfl rfl el34 hx29 ?_
   rintro a30 _ hA31 rfl
   refine WQ.val (fun w hw=>by obtain ⟨_,hq,S⟩:=hw; exact (R.loadH (v:=str x29) S rfl (At.mono hA31 hq (by simp)) lay9 rfl))<|B hy12 fun r32 hr32 hy12=>WQ.call (v:=boo r32) rfl (fun w H' hq S=>zH9 S.holds x20.fName x26 x29 hr32)<|QNo<|WQ.nil ?_
   intro w17 H18 hle19 S
   have Rp_axes:=Sl.mono Rp_axes hle19
   have Rp_a:=Sl.mono Rp_a hle19
   have Rp_b:=Sl.mono Rp_b hle19
   rcases condE hy12 with ⟨hc37,hy12⟩ | ⟨hc37,hy12⟩
   ·refine CT hc37<|Ws<|Wg<|A<|We ?_
    obtain rfl:=oi hy12
    obtain rfl:=hy13
    obtain rfl:=oi h
    refine WP.ret (Out.one rfl S rfl ?_)
    exact rfl
   refine CF hc37<|Wk<|Wg<|M' h9<|Lg<|A<|We ?_
   obtain rfl:=oi hy12
   exact ⟨rfl,⟨H18,h5,h6,h7,rfl,Rp_axes,Rp_a,Rp_b,S⟩⟩
  refine CF hc16<|Wx ?_
  obtain rfl:=oi hy12
  obtain rfl:=hy13
  exact ⟨H4,S⟩
 intro f w hM
 rcases r14 with _ | e
 ·obtain ⟨H10,S⟩:=hM
  refine Ws<|Wg<|A<|We ?_
  obtain rfl:=oi h
  refine WP.ret (Out.one rfl S rfl ?_)
  exact rfl
 exact hM.elim
theorem zHu {w0:World} {H0:Hp} (hw:Holds w0 H0) (p_name:Str) (p_l:(List GField)) {vp_l:Value} (Rp_l:Sl (α:=GField) H0 vp_l p_l) {r:Str} (h:zDs p_name p_l=some r) :
  Con Tryz.prog 87 [(str p_name),vp_l] w0 H0 (fun H' v=>v=(str r)):=by
 refine Con.mk (N:=29) Tryz.func87 rfl rfl kr rfl ?_
 have S:=St.start hw
 refine Ws<|Wg<|A<|We<|Ws<|Wg<|M<|M<|B h fun r1 hr1 h=>W.call S rfl (zGm S.holds p_l p_name Rp_l hr1) ?_
 rintro v2 w3 H4 hle5 S R6
 have Rp_l:=Sl.mono Rp_l hle5
 refine A<|We<|Ws<|Ws<|Wg<|M<|Nq R6<|Le<|We ?_
 rcases condE h with ⟨hc7,h⟩ | ⟨hc7,h⟩
 ·refine CT hc7<|Ws<|Wg<|A<|We ?_
  obtain rfl:=oi h
  refine WP.ret (Out.one rfl S rfl ?_)
  exact rfl
 refine CF hc7<|Wk<|Ws<|Ws<|Wg<|M<|B h fun r8 hr8 h=>W.call S rfl (zEx S.holds p_name hr8) ?_
 rintro v9 w10 H11 hle12 S rfl
 have Rp_l:=Sl.mono Rp_l hle12
 have R6:=Sl.mono R6 hle12
 refine Lf<|We<|B h fun j16 hj15 h=>WP.cut (fun f w=>match j16 with | .inl _=>∃ (H13:Hp),f 5=v2∧Sl (α:=Str) H13 v2 r1∧St w0 H0 w H13 [] | .inr _=>False) ?_ ?_
 ·rcases condE hj15 with ⟨hc17,hj15⟩ | ⟨hc17,hj15⟩
  ·refine CT hc17<|Ws<|Wg<|M<|M<|B hj15 fun r18 hr18 hj15=>W.call S rfl (zGj S.holds p_l p_name Rp_l hr18) ?_
   rintro v19 w20 H21 hle22 S R23
   have R6:=Sl.mono R6 hle22
   refine A<|We<|Ws<|Wg<|M<|Nq R23<|La<|We ?_
   rcases condE hj15 with ⟨hc24,hj15⟩ | ⟨hc24,hj15⟩
   ·refine CT hc24<|Ws<|Wg<|M<|B hj15 fun r25 hr25 hj15=>W.call S rfl (zGS S.holds r18 R23 hr25) ?_
    rintro v26 w27 H28 hle29 S rfl
    have R6:=Sl.mono R6 hle29
    refine B hj15 fun r30 hr30 hj15=>W.call S rfl (zBU S.holds r25 hr30) ?_
    rintro v31 w32 H33 hle34 S rfl
    have R6:=Sl.mono R6 hle34
    refine B hj15 fun s35 hs35 hj15=>Je hs35<|A<|We ?_
    obtain rfl:=oi hj15
    obtain rfl:=oi h
    refine WP.ret (Out.one rfl S rfl ?_)
    exact rfl
   refine CF hc24<|Wk ?_
   obtain rfl:=oi hj15
   exact ⟨H21,rfl,R6,S⟩
  refine CF hc17<|Wk ?_
  obtain rfl:=oi hj15
  exact ⟨H11,rfl,R6,S⟩
 intro f w hM
 rcases j16 with _ | e
 ·obtain ⟨H13,h14,R6,S⟩:=hM
  refine Ws<|Wg<|M' h14<|B h fun r36 hr36 h=>W.call S rfl (zGS S.holds r1 R6 hr36) ?_
  rintro v37 w38 H39 hle40 S rfl
  refine B h fun s41 hs41 h=>Je hs41<|A<|We ?_
  obtain rfl:=oi h
  refine WP.ret (Out.one rfl S rfl ?_)
  exact rfl
 exact hM.elim
end Go.Proofs

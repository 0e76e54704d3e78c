/- A part. -/
import Derived.Test.YtipgfplekgdoiaaGreatDoorEng38
import Derived.Test.YtipgfplekgdoiaaGreatDoorEng36
import Derived.Test.YtipgfplekgdoiaaGreatDoorGenK1
namespace Go.Proofs
set_option maxHeartbeats 4000000
set_option maxRecDepth 10000
open Go.Eng Go.Eng.Pure
set_option linter.unusedVariables false
theorem zCL {w0:World} {H0:Hp} (hw:Holds w0 H0) (z:GEntry) {cn:Value} {bi:Value} {bj:Value} {bk:Value} (ab:Sl H0 cn z.fKeys) (gz:Sl H0 bi z.fVary) (g0:Sl H0 bj z.fSnapshot) (g1:Sl H0 bk z.fFields) {r:GEntry} (h:zD6 z=some r) :
  Con Tryz.prog 50 [(agg [cn,bi,bj,(str z.fReason),bk,(str z.fBody),(int z.fRequested),(int z.fReceived)])] w0 H0 (fun H' v=>∃ u1 u2 u3 u4:Value,v=(agg [u1,u2,u3,(str r.fReason),u4,(str r.fBody),(int r.fRequested),(int r.fReceived)])∧Sl H' u1 r.fKeys∧Sl H' u2 r.fVary∧Sl H' u3 r.fSnapshot∧Sl H' u4 r.fFields):=by
 refine CM 36 Tryz.func50 hw fun S=>?_
 refine Ws<|Wg ?_
 refine W.box [cn,bi,bj,(str z.fReason),bk,(str z.fBody),(int z.fRequested),(int z.fReceived)] S rfl rfl ?_
 intro b1 w2 S
 refine W.alloc [(.slice none 0 0),(.slice none 0 0),(.slice none 0 0),(str []),(.slice none 0 0),(str []),(int 0),(int 0)] S zer36 ?_
 intro b3 w4 S
 refine We<|Ws<|Wg<|Fb ?_
 refine Lo 1 S<|A<|We<|Ws<|Wg<|Fb ?_
 refine W.store (i:=1) [(.slice none 0 0),bi,bj,(str z.fReason),bk,(str z.fBody),(int z.fRequested),(int z.fReceived)] S rfl rfl rfl lay33 rfl (AllOne.all (l:=[(.slice none 0 0)]) (.cons rfl .nil)) (Nat.le_of_ble_eq_true rfl) rfl ?_
 intro w5 S
 refine We<|Ws<|Ws<|Wg<|M<|Nq ab<|M<|We ?_
 obtain ⟨v6,er⟩:∃ v:Value,v=.slice none 0 0:=⟨_,rfl⟩
 have R8:Sl (α:=(List Str)) H0 v6 []:=by rw [er]; exact Sl.nil
 replace S:=(show ∀ {w:World},St w0 H0 w H0 [.box b3 36 [(.slice none 0 0),(.slice none 0 0),(.slice none 0 0),(str []),(.slice none 0 0),(str []),(int 0),(int 0)],.box b1 36 [(.slice none 0 0),bi,bj,(str z.fReason),bk,(str z.fBody),(int z.fRequested),(int z.fReceived)]]→St w0 H0 w H0 [.box b3 36 [(.slice none 0 0),(.slice none 0 0),(.slice none 0 0),(str []),(.slice none 0 0),(str []),(int 0),(int 0)],.box b1 36 [v6,bi,bj,(str z.fReason),bk,(str z.fBody),(int z.fRequested),(int z.fReceived)]] from fun S=>by rw [er]; exact S) S
 replace S:=St.addNilV er S 34 1
 refine B h fun es g3 h=>WP.cut (fun f w=>match es with | (co,ax,an,q,ao,t,u,x)=>∃ (ac:Hp) (p:Value) (et:Value) (ak:Value) (aa:Value),f 1=(ptr b1 0)∧f 2=(ptr b3 0)∧Sl ac p co∧Sl ac et ax∧Sl ac ak an∧Sl ac aa ao∧St w0 H0 w ac [.row p 34 1 co.length,.box b3 36 [(.slice none 0 0),(.slice none 0 0),(.slice none 0 0),(str []),(.slice none 0 0),(str []),(int 0),(int 0)],.box b1 36 [p,et,ak,(str q),aa,(str t),(int u),(int x)]]) ?_ ?_
 ·refine Wb ?_
  refine WP.loopM (zCy z) (fun s f w=>match s with | (fi,eu,fj,fk,cp,fl,cq,cr,ct)=>∃ (H9:Hp) (cu:Value) (a2:Value) (a3:Value) (a4:Value),f 1=(ptr b1 0)∧f 2=(ptr b3 0)∧f 9=cn∧f 10=(int (z.fKeys.length:Int))∧f 11=(int fi)∧Sl H9 cn z.fKeys∧Sl H9 cu eu∧Sl H9 a2 fj∧Sl H9 a3 fk∧Sl H9 a4 fl∧St w0 H0 w H9 [.row cu 34 1 eu.length,.box b3 36 [(.slice none 0 0),(.slice none 0 0),(.slice none 0 0),(str []),(.slice none 0 0),(str []),(int 0),(int 0)],.box b1 36 [cu,a2,a3,(str cp),a4,(str cq),(int cr),(int ct)]]) (0,([]:List (List Str)),z.fVary,z.fSnapshot,z.fReason,z.fFields,z.fBody,z.fRequested,z.fReceived) es g3 ?_ ?_
  ·exact ⟨H0,v6,bi,bj,bk,rfl,rfl,rfl,rfl,rfl,ab,R8,gz,g0,g1,S⟩
  intro s f w hI h1 aj g4
  obtain ⟨fi,eu,fj,fk,cp,fl,cq,cr,ct⟩:=s
  obtain ⟨H9,cu,a2,a3,a4,ba,dy,dz,d0,cv,ab,ae,af,ah,ai,S⟩:=hI
  refine Ws<|Wg<|La' cv d0<|We<|Ws ?_
  rcases condE aj with ⟨ew,aj⟩ | ⟨ew,aj⟩
  ·refine CT ew<|Wk<|Ws<|Wb<|Ws<|Wg<|B aj fun fm g5 aj=>W.idx (α:=(List Str)) ab dz cv el33 g5 ?_
   rintro h2 _ g6 ⟨g7,rfl,bb⟩
   refine Lq S g6<|A<|We<|WP.draw kr 8 rfl (bm 8 0) rfl ?_
   have S:=S.drew
   refine At_ 0 8 1 rfl (fun _=>(R.fieldB ba zD8)) ?_
   refine At_ 2 8 5 rfl (fun _=>(R.mv (v:=g7) rfl)) ?_
   refine WA.two (i:=1) (j:=3) (bm 8 7) (bm 8 13) rfl rfl kr rfl rfl ?_ ?_
   ·refine Lo 2 S<|We<|WA.one (i:=3) (bm 8 15) rfl kr rfl<|B aj fun d1 ex aj=>W.call S rfl (zAD S.holds fm bb ex) ?_
    rintro d2 g8 g9 ey S al
    have ⟨ab,bb,ae,af,ah,ai⟩:=U6 ey ab bb ae af ah ai
    refine We<|WA.one (i:=4) (bm 8 31) rfl kr rfl<|W.bslice (α:=(List Str)) [d2] ([d1]:List (List Str)) S el33 rfl rfl rfl (by decide) (Go.Eng.encS ⟨(by rw [Sl.cellsOne al]; rfl),_,(by rw [Sl.cellsOne al]),al⟩ enc0) ?_
    intro fn fo fp cw a6 S
    have ⟨ab,bb,ae,al,af,ah,ai⟩:=U7 cw ab bb ae al af ah ai
    refine We<|WA.one (i:=5) (bm 8 63) rfl kr rfl<|B aj fun fq cx aj=>W.app (α:=(List Str)) (i:=1) S el33 rfl rfl rfl ae a6 cx ?_
    intro bc fr cy cz bd S
    have ⟨ab,bb,ae,al,a6,af,ah,ai⟩:=U8 cz ab bb ae al a6 af ah ai
    refine We ?_
    refine At_ 6 8 127 rfl (fun _=>(R.fieldB ba zD8))<|WA.one (i:=7) (bm 8 255) rfl kr rfl ?_
    refine W.storeSl (α:=(List Str)) (i:=3) [bc,a2,a3,(str cp),a4,(str cq),(int cr),(int ct)] S bd rfl rfl rfl lay33 (Nat.le_of_ble_eq_true rfl) rfl ?_
    intro fs S
    refine We<|WA.done kr<|Wg<|Lg' cv rfl<|M<|We ?_
    obtain rfl:=oi aj
    exact ⟨rfl,⟨cy,bc,a2,a3,a4,ba,dy,dz,d0,rfl,ab,bd,af,ah,ai,(S.pk [1,2,3])⟩⟩
   refine B aj fun d1 ex aj=>W.call S rfl (zAD S.holds fm bb ex) ?_
   rintro d2 g8 g9 ey S al
   have ⟨ab,ae,af,ah,ai⟩:=U5 ey ab ae af ah ai
   refine We ?_
   refine WA.two (i:=1) (j:=4) (bm 8 15) (bm 8 29) rfl rfl kr rfl rfl ?_ ?_
   ·refine Lo 2 S<|We<|WA.one (i:=4) (bm 8 31) rfl kr rfl<|W.bslice (α:=(List Str)) [d2] ([d1]:List (List Str)) S el33 rfl rfl rfl (by decide) (Go.Eng.encS ⟨(by rw [Sl.cellsOne al]; rfl),_,(by rw [Sl.cellsOne al]),al⟩ enc0) ?_
    intro fn fo fp cw a6 S
    have ⟨ab,al,ae,af,ah,ai⟩:=U6 cw ab al ae af ah ai
    refine We<|WA.one (i:=5) (bm 8 63) rfl kr rfl<|B aj fun fq cx aj=>W.app (α:=(List Str)) (i:=1) S el33 rfl rfl rfl ae a6 cx ?_
    intro bc fr cy cz bd S
    have ⟨ab,al,ae,a6,af,ah,ai⟩:=U7 cz ab al ae a6 af ah ai
    refine We ?_
    refine At_ 6 8 127 rfl (fun _=>(R.fieldB ba zD8))<|WA.one (i:=7) (bm 8 255) rfl kr rfl ?_
    refine W.storeSl (α:=(List Str)) (i:=3) [bc,a2,a3,(str cp),a4,(str cq),(int cr),(int ct)] S bd rfl rfl rfl lay33 (Nat.le_of_ble_eq_true rfl) rfl ?_
    intro fs S
    refine We<|WA.done kr<|Wg<|Lg' cv rfl<|M<|We ?_
    obtain rfl:=oi aj
    exact ⟨rfl,⟨cy,bc,a2,a3,a4,ba,dy,dz,d0,rfl,ab,bd,af,ah,ai,(S.pk [1,2,3])⟩⟩
   refine W.bslice (α:=(List Str)) [d2] ([d1]:List (List Str)) S el33 rfl rfl rfl (by decide) (Go.Eng.encS ⟨(by rw [Sl.cellsOne al]; rfl),_,(by rw [Sl.cellsOne al]),al⟩ enc0) ?_
   intro fn fo fp cw a6 S
   have ⟨ab,ae,af,ah,ai⟩:=U5 cw ab ae af ah ai
   refine We<|WA.one (i:=1) (bm 8 31) rfl kr rfl ?_
   refine Lo 3 S<|We<|WA.one (i:=5) (bm 8 63) rfl kr rfl<|B aj fun fq cx aj=>W.app (α:=(List Str)) (i:=1) S el33 rfl rfl rfl ae a6 cx ?_
   intro bc fr cy cz bd S
   have ⟨ab,ae,af,ah,ai⟩:=U5 cz ab ae af ah ai
   refine We ?_
   refine At_ 6 8 127 rfl (fun _=>(R.fieldB ba zD8))<|WA.one (i:=7) (bm 8 255) rfl kr rfl ?_
   refine W.storeSl (α:=(List Str)) (i:=3) [bc,a2,a3,(str cp),a4,(str cq),(int cr),(int ct)] S bd rfl rfl rfl lay33 (Nat.le_of_ble_eq_true rfl) rfl ?_
   intro fs S
   refine We<|WA.done kr<|Wg<|Lg' cv rfl<|M<|We ?_
   obtain rfl:=oi aj
   exact ⟨rfl,⟨cy,bc,a2,a3,a4,ba,dy,dz,d0,rfl,ab,bd,af,ah,ai,(S.pk [1,2,3])⟩⟩
  refine CF ew<|Wx ?_
  obtain rfl:=oi aj
  obtain rfl:=g4
  exact ⟨H9,cu,a2,a3,a4,ba,dy,ae,af,ah,ai,S⟩
 intro f w hM
 obtain ⟨co,ax,an,q,ao,t,u,x⟩:=es
 obtain ⟨ac,p,et,ak,aa,o,aq,b,k,d,c,S⟩:=hM
 refine Ws<|B h fun ha a1 h=>B h fun hb ar h=>B h fun hc au h=>WP.cut (fun f w=>∃ (b0:Hp) (bn:Value) (bo:Value) (bp:Value),f 1=(ptr b1 0)∧f 2=(ptr b3 0)∧Sl b0 p co∧Sl b0 bn ha∧Sl b0 bo hb∧Sl b0 bp hc∧St w0 H0 w b0 [.row p 34 1 co.length,.box b3 36 [(.slice none 0 0),(.slice none 0 0),(.slice none 0 0),(str []),(.slice none 0 0),(str []),(int 0),(int 0)],.box b1 36 [p,bn,bo,(str q),bp,(str t),(int u),(int x)]]) ?_ ?_
 ·refine WP.drawC (Cl w0 H0 ac [.box b3 36 [(.slice none 0 0),(.slice none 0 0),(.slice none 0 0),(str []),(.slice none 0 0),(str []),(int 0),(int 0)]]) kr 15 rfl (bm 15 0) rfl ?_
  have S:=S.drew
  refine Ct 0 15 1 rfl (fun _ _=>(R.fieldB o zCc)) ?_
  refine Ct 3 15 9 rfl (fun _ _=>(R.fieldB o zCU)) ?_
  refine Ct 6 15 73 rfl (fun _ _=>(R.fieldB o zCX)) ?_
  refine Cx [1,4,7] ⟨ac,lr,(S.pk [1])⟩ (allS ?_ (allS ?_ (all1 ?_)))
  ·refine Nx 15 75 rfl ?_
   refine Lo 2 S<|We ?_
   refine Cx [2,4,7] ⟨ac,lr,(S.pk [1])⟩ (allS ?_ (allS ?_ (all1 ?_)))
   ·refine Nx 15 79 rfl<|W.call S rfl (zAD S.holds ax k a1) ?_
    rintro ay h3 c0 ad S am
    have ⟨k,b,d,c⟩:=U4 ad k b d c
    refine We ?_
    refine Cx [4,7] ⟨c0,ad,(S.pk [1])⟩ (allS ?_ (all1 ?_))
    ·refine Nx 15 95 rfl ?_
     refine Lo 2 S<|We ?_
     refine Cx [5,7] ⟨c0,ad,(S.pk [1])⟩ (allS ?_ (all1 ?_))
     ·refine Nx 15 127 rfl<|W.call S rfl (zAD S.holds an d ar) ?_
      rintro ez h4 ft bq S d3
      have ⟨k,am,d,b,c⟩:=U5 bq k am d b c
      refine We ?_
      refine Cx [7] ⟨ft,(ad.trans bq),(S.pk [1])⟩ (all1 ?_)
      refine Nx 15 255 rfl ?_
      refine Lo 2 S<|We ?_
      refine Ct 9 15 767 rfl (fun _ _=>(R.fieldB o zCc)) ?_
      refine Cx [8] ⟨ft,(ad.trans bq),(S.pk [1])⟩ (all1 ?_)
      refine Nx 15 1023 rfl<|W.call S rfl (zAH S.holds ao c au) ?_
      rintro fu h5 c1 c2 S fv
      have ⟨k,am,d,d3,c,b⟩:=U6 c2 k am d d3 c b
      refine We ?_
      refine Cx [10] ⟨c1,((ad.trans bq).trans c2),(S.pk [1])⟩ (all1 ?_)
      refine Nx 15 2047 rfl ?_
      refine W.storeSl (α:=Str) (i:=2) [p,ay,ak,(str q),aa,(str t),(int u),(int x)] S am rfl rfl rfl lay34 (Nat.le_of_ble_eq_true rfl) rfl ?_
      intro h6 S
      refine We ?_
      refine Ct 11 15 4095 rfl (fun _ _=>(R.fieldB o zCU)) ?_
      refine Cx [12] ⟨c1,((ad.trans bq).trans c2),(S.pk [1])⟩ (all1 ?_)
      refine Nx 15 8191 rfl ?_
      refine W.storeSl (α:=Str) (i:=2) [p,ay,ez,(str q),aa,(str t),(int u),(int x)] S d3 rfl rfl rfl lay34 (Nat.le_of_ble_eq_true rfl) rfl ?_
      intro h7 S
      refine We ?_
      refine Ct 13 15 16383 rfl (fun _ _=>(R.fieldB o zCX)) ?_
      refine Cx [14] ⟨c1,((ad.trans bq).trans c2),(S.pk [1])⟩ (all1 ?_)
      refine Nx 15 32767 rfl ?_
      refine W.storeSl (α:=GField) (i:=2) [p,ay,ez,(str q),fu,(str t),(int u),(int x)] S fv rfl rfl rfl lay26 (Nat.le_of_ble_eq_true rfl) rfl ?_
      intro h8 S
      refine We<|WC.done ⟨c1,((ad.trans bq).trans c2),(S.pk [1])⟩ kr ?_
      exact ⟨c1,ay,ez,fu,o,aq,b,am,d3,fv,S⟩
     refine Nx 15 223 rfl ?_
     refine Lo 2 S<|We ?_
     refine Ct 9 15 735 rfl (fun _ _=>(R.fieldB o zCc)) ?_
     refine Cx [5] ⟨c0,ad,(S.pk [1])⟩ (all1 ?_)
     refine Nx 15 767 rfl<|W.call S rfl (zAD S.holds an d ar) ?_
     rintro e0 h9 he b2 S d4
     have ⟨k,am,d,c,b⟩:=U5 b2 k am d c b
     refine We ?_
     refine Cx [8] ⟨he,(ad.trans b2),(S.pk [1])⟩ (all1 ?_)
     refine Nx 15 1023 rfl<|W.call S rfl (zAH S.holds ao c au) ?_
     rintro fw ia c3 c4 S fx
     have ⟨k,am,d,c,d4,b⟩:=U6 c4 k am d c d4 b
     refine We ?_
     refine Cx [10] ⟨c3,((ad.trans b2).trans c4),(S.pk [1])⟩ (all1 ?_)
     refine Nx 15 2047 rfl ?_
     refine W.storeSl (α:=Str) (i:=2) [p,ay,ak,(str q),aa,(str t),(int u),(int x)] S am rfl rfl rfl lay34 (Nat.le_of_ble_eq_true rfl) rfl ?_
     intro ib S
     refine We ?_
     refine Ct 11 15 4095 rfl (fun _ _=>(R.fieldB o zCU)) ?_
     refine Cx [12] ⟨c3,((ad.trans b2).trans c4),(S.pk [1])⟩ (all1 ?_)
     refine Nx 15 8191 rfl ?_
     refine W.storeSl (α:=Str) (i:=2) [p,ay,e0,(str q),aa,(str t),(int u),(int x)] S d4 rfl rfl rfl lay34 (Nat.le_of_ble_eq_true rfl) rfl ?_
     intro ic S
     refine We ?_
     refine Ct 13 15 16383 rfl (fun _ _=>(R.fieldB o zCX)) ?_
     refine Cx [14] ⟨c3,((ad.trans b2).trans c4),(S.pk [1])⟩ (all1 ?_)
     refine Nx 15 32767 rfl ?_
     refine W.storeSl (α:=GField) (i:=2) [p,ay,e0,(str q),fw,(str t),(int u),(int x)] S fx rfl rfl rfl lay26 (Nat.le_of_ble_eq_true rfl) rfl ?_
     intro id S
     refine We<|WC.done ⟨c3,((ad.trans b2).trans c4),(S.pk [1])⟩ kr ?_
     exact ⟨c3,ay,e0,fw,o,aq,b,am,d4,fx,S⟩
    refine Nx 15 207 rfl ?_
    refine Lo 2 S<|We ?_
    refine Cx [4] ⟨c0,ad,(S.pk [1])⟩ (all1 ?_)
    refine Nx 15 223 rfl ?_
    refine Lo 2 S<|We ?_
    refine Ct 9 15 735 rfl (fun _ _=>(R.fieldB o zCc)) ?_
    refine Cx [5] ⟨c0,ad,(S.pk [1])⟩ (all1 ?_)
    refine Nx 15 767 rfl<|W.call S rfl (zAD S.holds an d ar) ?_
    rintro e1 ie hf b4 S d5
    have ⟨k,am,c,d,b⟩:=U5 b4 k am c d b
    refine We ?_
    refine Cx [8] ⟨hf,(ad.trans b4),(S.pk [1])⟩ (all1 ?_)
    refine Nx 15 1023 rfl<|W.call S rfl (zAH S.holds ao c au) ?_
    rintro fy ig c5 c6 S fz
    have ⟨k,am,c,d,d5,b⟩:=U6 c6 k am c d d5 b
    refine We ?_
    refine Cx [10] ⟨c5,((ad.trans b4).trans c6),(S.pk [1])⟩ (all1 ?_)
    refine Nx 15 2047 rfl ?_
    refine W.storeSl (α:=Str) (i:=2) [p,ay,ak,(str q),aa,(str t),(int u),(int x)] S am rfl rfl rfl lay34 (Nat.le_of_ble_eq_true rfl) rfl ?_
    intro ih S
    refine We ?_
    refine Ct 11 15 4095 rfl (fun _ _=>(R.fieldB o zCU)) ?_
    refine Cx [12] ⟨c5,((ad.trans b4).trans c6),(S.pk [1])⟩ (all1 ?_)
    refine Nx 15 8191 rfl ?_
    refine W.storeSl (α:=Str) (i:=2) [p,ay,e1,(str q),aa,(str t),(int u),(int x)] S d5 rfl rfl rfl lay34 (Nat.le_of_ble_eq_true rfl) rfl ?_
    intro ii S
    refine We ?_
    refine Ct 13 15 16383 rfl (fun _ _=>(R.fieldB o zCX)) ?_
    refine Cx [14] ⟨c5,((ad.trans b4).trans c6),(S.pk [1])⟩ (all1 ?_)
    refine Nx 15 32767 rfl ?_
    refine W.storeSl (α:=GField) (i:=2) [p,ay,e1,(str q),fy,(str t),(int u),(int x)] S fz rfl rfl rfl lay26 (Nat.le_of_ble_eq_true rfl) rfl ?_
    intro ij S
    refine We<|WC.done ⟨c5,((ad.trans b4).trans c6),(S.pk [1])⟩ kr ?_
    exact ⟨c5,ay,e1,fy,o,aq,b,am,d5,fz,S⟩
   ·refine Nx 15 91 rfl ?_
    refine Lo 2 S<|We ?_
    refine Cx [2,7] ⟨ac,lr,(S.pk [1])⟩ (allS ?_ (all1 ?_))
    ·refine Nx 15 95 rfl<|W.call S rfl (zAD S.holds ax k a1) ?_
     rintro be ik f0 av S az
     have ⟨k,d,b,c⟩:=U4 av k d b c
     refine We ?_
     refine Cx [5,7] ⟨f0,av,(S.pk [1])⟩ (allS ?_ (all1 ?_))
     ·refine Nx 15 127 rfl<|W.call S rfl (zAD S.holds an d ar) ?_
      rintro e2 il f1 br S d6
      have ⟨k,d,az,b,c⟩:=U5 br k d az b c
      refine We ?_
      refine Cx [7] ⟨f1,(av.trans br),(S.pk [1])⟩ (all1 ?_)
      refine Nx 15 255 rfl ?_
      refine Lo 2 S<|We ?_
      refine Ct 9 15 767 rfl (fun _ _=>(R.fieldB o zCc)) ?_
      refine Cx [8] ⟨f1,(av.trans br),(S.pk [1])⟩ (all1 ?_)
      refine Nx 15 1023 rfl<|W.call S rfl (zAH S.holds ao c au) ?_
      rintro f2 im c7 c8 S f3
      have ⟨k,d,az,d6,c,b⟩:=U6 c8 k d az d6 c b
      refine We ?_
      refine Cx [10] ⟨c7,((av.trans br).trans c8),(S.pk [1])⟩ (all1 ?_)
      refine Nx 15 2047 rfl ?_
      refine W.storeSl (α:=Str) (i:=2) [p,be,ak,(str q),aa,(str t),(int u),(int x)] S az rfl rfl rfl lay34 (Nat.le_of_ble_eq_true rfl) rfl ?_
      intro io S
      refine We ?_
      refine Ct 11 15 4095 rfl (fun _ _=>(R.fieldB o zCU)) ?_
      refine Cx [12] ⟨c7,((av.trans br).trans c8),(S.pk [1])⟩ (all1 ?_)
      refine Nx 15 8191 rfl ?_
      refine W.storeSl (α:=Str) (i:=2) [p,be,e2,(str q),aa,(str t),(int u),(int x)] S d6 rfl rfl rfl lay34 (Nat.le_of_ble_eq_true rfl) rfl ?_
      intro ip S
      refine We ?_
      refine Ct 13 15 16383 rfl (fun _ _=>(R.fieldB o zCX)) ?_
      refine Cx [14] ⟨c7,((av.trans br).trans c8),(S.pk [1])⟩ (all1 ?_)
      refine Nx 15 32767 rfl ?_
      refine W.storeSl (α:=GField) (i:=2) [p,be,e2,(str q),f2,(str t),(int u),(int x)] S f3 rfl rfl rfl lay26 (Nat.le_of_ble_eq_true rfl) rfl ?_
      intro iq S
      refine We<|WC.done ⟨c7,((av.trans br).trans c8),(S.pk [1])⟩ kr ?_
      exact ⟨c7,be,e2,f2,o,aq,b,az,d6,f3,S⟩
     refine Nx 15 223 rfl ?_
     refine Lo 2 S<|We ?_
     refine Ct 9 15 735 rfl (fun _ _=>(R.fieldB o zCc)) ?_
     refine Cx [5] ⟨f0,av,(S.pk [1])⟩ (all1 ?_)
     refine Nx 15 767 rfl<|W.call S rfl (zAD S.holds an d ar) ?_
     rintro e3 ir hg b5 S d7
     have ⟨k,d,az,c,b⟩:=U5 b5 k d az c b
     refine We ?_
     refine Cx [8] ⟨hg,(av.trans b5),(S.pk [1])⟩ (all1 ?_)
     refine Nx 15 1023 rfl<|W.call S rfl (zAH S.holds ao c au) ?_
     rintro f4 is c9 da S f5
     have ⟨k,d,az,c,d7,b⟩:=U6 da k d az c d7 b
     refine We ?_
     refine Cx [10] ⟨c9,((av.trans b5).trans da),(S.pk [1])⟩ (all1 ?_)
     refine Nx 15 2047 rfl ?_
     refine W.storeSl (α:=Str) (i:=2) [p,be,ak,(str q),aa,(str t),(int u),(int x)] S az rfl rfl rfl lay34 (Nat.le_of_ble_eq_true rfl) rfl ?_
     intro it S
     refine We ?_
     refine Ct 11 15 4095 rfl (fun _ _=>(R.fieldB o zCU)) ?_
     refine Cx [12] ⟨c9,((av.trans b5).trans da),(S.pk [1])⟩ (all1 ?_)
     refine Nx 15 8191 rfl ?_
     refine W.storeSl (α:=Str) (i:=2) [p,be,e3,(str q),aa,(str t),(int u),(int x)] S d7 rfl rfl rfl lay34 (Nat.le_of_ble_eq_true rfl) rfl ?_
     intro iu S
     refine We ?_
     refine Ct 13 15 16383 rfl (fun _ _=>(R.fieldB o zCX)) ?_
     refine Cx [14] ⟨c9,((av.trans b5).trans da),(S.pk [1])⟩ (all1 ?_)
     refine Nx 15 32767 rfl ?_
     refine W.storeSl (α:=GField) (i:=2) [p,be,e3,(str q),f4,(str t),(int u),(int x)] S f5 rfl rfl rfl lay26 (Nat.le_of_ble_eq_true rfl) rfl ?_
     intro iv S
     refine We<|WC.done ⟨c9,((av.trans b5).trans da),(S.pk [1])⟩ kr ?_
     exact ⟨c9,be,e3,f4,o,aq,b,az,d7,f5,S⟩
    refine Nx 15 219 rfl ?_
    refine Lo 2 S<|We ?_
    refine Cx [2] ⟨ac,lr,(S.pk [1])⟩ (all1 ?_)
    refine Nx 15 223 rfl<|W.call S rfl (zAD S.holds ax k a1) ?_
    rintro d8 iw hh bs S b6
    have ⟨k,d,c,b⟩:=U4 bs k d c b
    refine We ?_
    refine Ct 9 15 735 rfl (fun _ _=>(R.fieldB o zCc)) ?_
    refine Cx [5] ⟨hh,bs,(S.pk [1])⟩ (all1 ?_)
    refine Nx 15 767 rfl<|W.call S rfl (zAD S.holds an d ar) ?_
    rintro e4 ix hi b7 S d9
    have ⟨k,d,c,b6,b⟩:=U5 b7 k d c b6 b
    refine We ?_
    refine Cx [8] ⟨hi,(bs.trans b7),(S.pk [1])⟩ (all1 ?_)
    refine Nx 15 1023 rfl<|W.call S rfl (zAH S.holds ao c au) ?_
    rintro f6 iy db dc S f7
    have ⟨k,d,c,b6,d9,b⟩:=U6 dc k d c b6 d9 b
    refine We ?_
    refine Cx [10] ⟨db,((bs.trans b7).trans dc),(S.pk [1])⟩ (all1 ?_)
    refine Nx 15 2047 rfl ?_
    refine W.storeSl (α:=Str) (i:=2) [p,d8,ak,(str q),aa,(str t),(int u),(int x)] S b6 rfl rfl rfl lay34 (Nat.le_of_ble_eq_true rfl) rfl ?_
    intro iz S
    refine We ?_
    refine Ct 11 15 4095 rfl (fun _ _=>(R.fieldB o zCU)) ?_
    refine Cx [12] ⟨db,((bs.trans b7).trans dc),(S.pk [1])⟩ (all1 ?_)
    refine Nx 15 8191 rfl ?_
    refine W.storeSl (α:=Str) (i:=2) [p,d8,e4,(str q),aa,(str t),(int u),(int x)] S d9 rfl rfl rfl lay34 (Nat.le_of_ble_eq_true rfl) rfl ?_
    intro i0 S
    refine We ?_
    refine Ct 13 15 16383 rfl (fun _ _=>(R.fieldB o zCX)) ?_
    refine Cx [14] ⟨db,((bs.trans b7).trans dc),(S.pk [1])⟩ (all1 ?_)
    refine Nx 15 32767 rfl ?_
    refine W.storeSl (α:=GField) (i:=2) [p,d8,e4,(str q),f6,(str t),(int u),(int x)] S f7 rfl rfl rfl lay26 (Nat.le_of_ble_eq_true rfl) rfl ?_
    intro i1 S
    refine We<|WC.done ⟨db,((bs.trans b7).trans dc),(S.pk [1])⟩ kr ?_
    exact ⟨db,d8,e4,f6,o,aq,b,b6,d9,f7,S⟩
   refine Nx 15 203 rfl ?_
   refine Lo 2 S<|We ?_
   refine Cx [2,4] ⟨ac,lr,(S.pk [1])⟩ (allS ?_ (all1 ?_))
   ·refine Nx 15 207 rfl<|W.call S rfl (zAD S.holds ax k a1) ?_
    rintro ea i2 f8 bf S b8
    have ⟨k,c,b,d⟩:=U4 bf k c b d
    refine We ?_
    refine Cx [4] ⟨f8,bf,(S.pk [1])⟩ (all1 ?_)
    refine Nx 15 223 rfl ?_
    refine Lo 2 S<|We ?_
    refine Ct 9 15 735 rfl (fun _ _=>(R.fieldB o zCc)) ?_
    refine Cx [5] ⟨f8,bf,(S.pk [1])⟩ (all1 ?_)
    refine Nx 15 767 rfl<|W.call S rfl (zAD S.holds an d ar) ?_
    rintro e5 i3 hj b9 S eb
    have ⟨k,c,b8,d,b⟩:=U5 b9 k c b8 d b
    refine We ?_
    refine Cx [8] ⟨hj,(bf.trans b9),(S.pk [1])⟩ (all1 ?_)
    refine Nx 15 1023 rfl<|W.call S rfl (zAH S.holds ao c au) ?_
    rintro f9 i4 dd de S ga
    have ⟨k,c,b8,d,eb,b⟩:=U6 de k c b8 d eb b
    refine We ?_
    refine Cx [10] ⟨dd,((bf.trans b9).trans de),(S.pk [1])⟩ (all1 ?_)
    refine Nx 15 2047 rfl ?_
    refine W.storeSl (α:=Str) (i:=2) [p,ea,ak,(str q),aa,(str t),(int u),(int x)] S b8 rfl rfl rfl lay34 (Nat.le_of_ble_eq_true rfl) rfl ?_
    intro i5 S
    refine We ?_
    refine Ct 11 15 4095 rfl (fun _ _=>(R.fieldB o zCU)) ?_
    refine Cx [12] ⟨dd,((bf.trans b9).trans de),(S.pk [1])⟩ (all1 ?_)
    refine Nx 15 8191 rfl ?_
    refine W.storeSl (α:=Str) (i:=2) [p,ea,e5,(str q),aa,(str t),(int u),(int x)] S eb rfl rfl rfl lay34 (Nat.le_of_ble_eq_true rfl) rfl ?_
    intro i6 S
    refine We ?_
    refine Ct 13 15 16383 rfl (fun _ _=>(R.fieldB o zCX)) ?_
    refine Cx [14] ⟨dd,((bf.trans b9).trans de),(S.pk [1])⟩ (all1 ?_)
    refine Nx 15 32767 rfl ?_
    refine W.storeSl (α:=GField) (i:=2) [p,ea,e5,(str q),f9,(str t),(int u),(int x)] S ga rfl rfl rfl lay26 (Nat.le_of_ble_eq_true rfl) rfl ?_
    intro i7 S
    refine We<|WC.done ⟨dd,((bf.trans b9).trans de),(S.pk [1])⟩ kr ?_
    exact ⟨dd,ea,e5,f9,o,aq,b,b8,eb,ga,S⟩
   refine Nx 15 219 rfl ?_
   refine Lo 2 S<|We ?_
   refine Cx [2] ⟨ac,lr,(S.pk [1])⟩ (all1 ?_)
   refine Nx 15 223 rfl<|W.call S rfl (zAD S.holds ax k a1) ?_
   rintro ec i8 hk bt S ca
   have ⟨k,c,d,b⟩:=U4 bt k c d b
   refine We ?_
   refine Ct 9 15 735 rfl (fun _ _=>(R.fieldB o zCc)) ?_
   refine Cx [5] ⟨hk,bt,(S.pk [1])⟩ (all1 ?_)
   refine Nx 15 767 rfl<|W.call S rfl (zAD S.holds an d ar) ?_
   rintro e6 i9 hl cb S ed
   have ⟨k,c,d,ca,b⟩:=U5 cb k c d ca b
   refine We ?_
   refine Cx [8] ⟨hl,(bt.trans cb),(S.pk [1])⟩ (all1 ?_)
   refine Nx 15 1023 rfl<|W.call S rfl (zAH S.holds ao c au) ?_
   rintro gb ja df dh S gc
   have ⟨k,c,d,ca,ed,b⟩:=U6 dh k c d ca ed b
   refine We ?_
   refine Cx [10] ⟨df,((bt.trans cb).trans dh),(S.pk [1])⟩ (all1 ?_)
   refine Nx 15 2047 rfl ?_
   refine W.storeSl (α:=Str) (i:=2) [p,ec,ak,(str q),aa,(str t),(int u),(int x)] S ca rfl rfl rfl lay34 (Nat.le_of_ble_eq_true rfl) rfl ?_
   intro jb S
   refine We ?_
   refine Ct 11 15 4095 rfl (fun _ _=>(R.fieldB o zCU)) ?_
   refine Cx [12] ⟨df,((bt.trans cb).trans dh),(S.pk [1])⟩ (all1 ?_)
   refine Nx 15 8191 rfl ?_
   refine W.storeSl (α:=Str) (i:=2) [p,ec,e6,(str q),aa,(str t),(int u),(int x)] S ed rfl rfl rfl lay34 (Nat.le_of_ble_eq_true rfl) rfl ?_
   intro jc S
   refine We ?_
   refine Ct 13 15 16383 rfl (fun _ _=>(R.fieldB o zCX)) ?_
   refine Cx [14] ⟨df,((bt.trans cb).trans dh),(S.pk [1])⟩ (all1 ?_)
   refine Nx 15 32767 rfl ?_
   refine W.storeSl (α:=GField) (i:=2) [p,ec,e6,(str q),gb,(str t),(int u),(int x)] S gc rfl rfl rfl lay26 (Nat.le_of_ble_eq_true rfl) rfl ?_
   intro jd S
   refine We<|WC.done ⟨df,((bt.trans cb).trans dh),(S.pk [1])⟩ kr ?_
   exact ⟨df,ec,e6,gb,o,aq,b,ca,ed,gc,S⟩
  ·refine Nx 15 89 rfl ?_
   refine Lo 2 S<|We ?_
   refine Cx [1,7] ⟨ac,lr,(S.pk [1])⟩ (allS ?_ (all1 ?_))
   ·refine Nx 15 91 rfl ?_
    refine Lo 2 S<|We ?_
    refine Cx [2,7] ⟨ac,lr,(S.pk [1])⟩ (allS ?_ (all1 ?_))
    ·refine Nx 15 95 rfl<|W.call S rfl (zAD S.holds ax k a1) ?_
     rintro bg je gd aw S a0
     have ⟨d,k,b,c⟩:=U4 aw d k b c
     refine We ?_
     refine Cx [5,7] ⟨gd,aw,(S.pk [1])⟩ (allS ?_ (all1 ?_))
     ·refine Nx 15 127 rfl<|W.call S rfl (zAD S.holds an d ar) ?_
      rintro e7 jf ge bu S ee
      have ⟨d,k,a0,b,c⟩:=U5 bu d k a0 b c
      refine We ?_
      refine Cx [7] ⟨ge,(aw.trans bu),(S.pk [1])⟩ (all1 ?_)
      refine Nx 15 255 rfl ?_
      refine Lo 2 S<|We ?_
      refine Ct 9 15 767 rfl (fun _ _=>(R.fieldB o zCc)) ?_
      refine Cx [8] ⟨ge,(aw.trans bu),(S.pk [1])⟩ (all1 ?_)
      refine Nx 15 1023 rfl<|W.call S rfl (zAH S.holds ao c au) ?_
      rintro gf jg di dj S gg
      have ⟨d,k,a0,ee,c,b⟩:=U6 dj d k a0 ee c b
      refine We ?_
      refine Cx [10] ⟨di,((aw.trans bu).trans dj),(S.pk [1])⟩ (all1 ?_)
      refine Nx 15 2047 rfl ?_
      refine W.storeSl (α:=Str) (i:=2) [p,bg,ak,(str q),aa,(str t),(int u),(int x)] S a0 rfl rfl rfl lay34 (Nat.le_of_ble_eq_true rfl) rfl ?_
      intro jh S
      refine We ?_
      refine Ct 11 15 4095 rfl (fun _ _=>(R.fieldB o zCU)) ?_
      refine Cx [12] ⟨di,((aw.trans bu).trans dj),(S.pk [1])⟩ (all1 ?_)
      refine Nx 15 8191 rfl ?_
      refine W.storeSl (α:=Str) (i:=2) [p,bg,e7,(str q),aa,(str t),(int u),(int x)] S ee rfl rfl rfl lay34 (Nat.le_of_ble_eq_true rfl) rfl ?_
      intro ji S
      refine We ?_
      refine Ct 13 15 16383 rfl (fun _ _=>(R.fieldB o zCX)) ?_
      refine Cx [14] ⟨di,((aw.trans bu).trans dj),(S.pk [1])⟩ (all1 ?_)
      refine Nx 15 32767 rfl ?_
      refine W.storeSl (α:=GField) (i:=2) [p,bg,e7,(str q),gf,(str t),(int u),(int x)] S gg rfl rfl rfl lay26 (Nat.le_of_ble_eq_true rfl) rfl ?_
      intro jj S
      refine We<|WC.done ⟨di,((aw.trans bu).trans dj),(S.pk [1])⟩ kr ?_
      exact ⟨di,bg,e7,gf,o,aq,b,a0,ee,gg,S⟩
     refine Nx 15 223 rfl ?_
     refine Lo 2 S<|We ?_
     refine Ct 9 15 735 rfl (fun _ _=>(R.fieldB o zCc)) ?_
     refine Cx [5] ⟨gd,aw,(S.pk [1])⟩ (all1 ?_)
     refine Nx 15 767 rfl<|W.call S rfl (zAD S.holds an d ar) ?_
     rintro e8 jk hm cc S ef
     have ⟨d,k,a0,c,b⟩:=U5 cc d k a0 c b
     refine We ?_
     refine Cx [8] ⟨hm,(aw.trans cc),(S.pk [1])⟩ (all1 ?_)
     refine Nx 15 1023 rfl<|W.call S rfl (zAH S.holds ao c au) ?_
     rintro gh jl dk dl S gi
     have ⟨d,k,a0,c,ef,b⟩:=U6 dl d k a0 c ef b
     refine We ?_
     refine Cx [10] ⟨dk,((aw.trans cc).trans dl),(S.pk [1])⟩ (all1 ?_)
     refine Nx 15 2047 rfl ?_
     refine W.storeSl (α:=Str) (i:=2) [p,bg,ak,(str q),aa,(str t),(int u),(int x)] S a0 rfl rfl rfl lay34 (Nat.le_of_ble_eq_true rfl) rfl ?_
     intro jm S
     refine We ?_
     refine Ct 11 15 4095 rfl (fun _ _=>(R.fieldB o zCU)) ?_
     refine Cx [12] ⟨dk,((aw.trans cc).trans dl),(S.pk [1])⟩ (all1 ?_)
     refine Nx 15 8191 rfl ?_
     refine W.storeSl (α:=Str) (i:=2) [p,bg,e8,(str q),aa,(str t),(int u),(int x)] S ef rfl rfl rfl lay34 (Nat.le_of_ble_eq_true rfl) rfl ?_
     intro jn S
     refine We ?_
     refine Ct 13 15 16383 rfl (fun _ _=>(R.fieldB o zCX)) ?_
     refine Cx [14] ⟨dk,((aw.trans cc).trans dl),(S.pk [1])⟩ (all1 ?_)
     refine Nx 15 32767 rfl ?_
     refine W.storeSl (α:=GField) (i:=2) [p,bg,e8,(str q),gh,(str t),(int u),(int x)] S gi rfl rfl rfl lay26 (Nat.le_of_ble_eq_true rfl) rfl ?_
     intro jp S
     refine We<|WC.done ⟨dk,((aw.trans cc).trans dl),(S.pk [1])⟩ kr ?_
     exact ⟨dk,bg,e8,gh,o,aq,b,a0,ef,gi,S⟩
    refine Nx 15 219 rfl ?_
    refine Lo 2 S<|We ?_
    refine Cx [2] ⟨ac,lr,(S.pk [1])⟩ (all1 ?_)
    refine Nx 15 223 rfl<|W.call S rfl (zAD S.holds ax k a1) ?_
    rintro eg jq hn bv S cd
    have ⟨d,k,c,b⟩:=U4 bv d k c b
    refine We ?_
    refine Ct 9 15 735 rfl (fun _ _=>(R.fieldB o zCc)) ?_
    refine Cx [5] ⟨hn,bv,(S.pk [1])⟩ (all1 ?_)
    refine Nx 15 767 rfl<|W.call S rfl (zAD S.holds an d ar) ?_
    rintro e9 jr ho ce S eh
    have ⟨d,k,c,cd,b⟩:=U5 ce d k c cd b
    refine We ?_
    refine Cx [8] ⟨ho,(bv.trans ce),(S.pk [1])⟩ (all1 ?_)
    refine Nx 15 1023 rfl<|W.call S rfl (zAH S.holds ao c au) ?_
    rintro gj js dm dn S gk
    have ⟨d,k,c,cd,eh,b⟩:=U6 dn d k c cd eh b
    refine We ?_
    refine Cx [10] ⟨dm,((bv.trans ce).trans dn),(S.pk [1])⟩ (all1 ?_)
    refine Nx 15 2047 rfl ?_
    refine W.storeSl (α:=Str) (i:=2) [p,eg,ak,(str q),aa,(str t),(int u),(int x)] S cd rfl rfl rfl lay34 (Nat.le_of_ble_eq_true rfl) rfl ?_
    intro jt S
    refine We ?_
    refine Ct 11 15 4095 rfl (fun _ _=>(R.fieldB o zCU)) ?_
    refine Cx [12] ⟨dm,((bv.trans ce).trans dn),(S.pk [1])⟩ (all1 ?_)
    refine Nx 15 8191 rfl ?_
    refine W.storeSl (α:=Str) (i:=2) [p,eg,e9,(str q),aa,(str t),(int u),(int x)] S eh rfl rfl rfl lay34 (Nat.le_of_ble_eq_true rfl) rfl ?_
    intro ju S
    refine We ?_
    refine Ct 13 15 16383 rfl (fun _ _=>(R.fieldB o zCX)) ?_
    refine Cx [14] ⟨dm,((bv.trans ce).trans dn),(S.pk [1])⟩ (all1 ?_)
    refine Nx 15 32767 rfl ?_
    refine W.storeSl (α:=GField) (i:=2) [p,eg,e9,(str q),gj,(str t),(int u),(int x)] S gk rfl rfl rfl lay26 (Nat.le_of_ble_eq_true rfl) rfl ?_
    intro jv S
    refine We<|WC.done ⟨dm,((bv.trans ce).trans dn),(S.pk [1])⟩ kr ?_
    exact ⟨dm,eg,e9,gj,o,aq,b,cd,eh,gk,S⟩
   refine Nx 15 217 rfl ?_
   refine Lo 2 S<|We ?_
   refine Cx [1] ⟨ac,lr,(S.pk [1])⟩ (all1 ?_)
   refine Nx 15 219 rfl ?_
   refine Lo 2 S<|We ?_
   refine Cx [2] ⟨ac,lr,(S.pk [1])⟩ (all1 ?_)
   refine Nx 15 223 rfl<|W.call S rfl (zAD S.holds ax k a1) ?_
   rintro ei jw hp bw S cf
   have ⟨d,c,k,b⟩:=U4 bw d c k b
   refine We ?_
   refine Ct 9 15 735 rfl (fun _ _=>(R.fieldB o zCc)) ?_
   refine Cx [5] ⟨hp,bw,(S.pk [1])⟩ (all1 ?_)
   refine Nx 15 767 rfl<|W.call S rfl (zAD S.holds an d ar) ?_
   rintro fa jx hq cg S ej
   have ⟨d,c,k,cf,b⟩:=U5 cg d c k cf b
   refine We ?_
   refine Cx [8] ⟨hq,(bw.trans cg),(S.pk [1])⟩ (all1 ?_)
   refine Nx 15 1023 rfl<|W.call S rfl (zAH S.holds ao c au) ?_
   rintro gl jy dp dq S gm
   have ⟨d,c,k,cf,ej,b⟩:=U6 dq d c k cf ej b
   refine We ?_
   refine Cx [10] ⟨dp,((bw.trans cg).trans dq),(S.pk [1])⟩ (all1 ?_)
   refine Nx 15 2047 rfl ?_
   refine W.storeSl (α:=Str) (i:=2) [p,ei,ak,(str q),aa,(str t),(int u),(int x)] S cf rfl rfl rfl lay34 (Nat.le_of_ble_eq_true rfl) rfl ?_
   intro jz S
   refine We ?_
   refine Ct 11 15 4095 rfl (fun _ _=>(R.fieldB o zCU)) ?_
   refine Cx [12] ⟨dp,((bw.trans cg).trans dq),(S.pk [1])⟩ (all1 ?_)
   refine Nx 15 8191 rfl ?_
   refine W.storeSl (α:=Str) (i:=2) [p,ei,fa,(str q),aa,(str t),(int u),(int x)] S ej rfl rfl rfl lay34 (Nat.le_of_ble_eq_true rfl) rfl ?_
   intro j0 S
   refine We ?_
   refine Ct 13 15 16383 rfl (fun _ _=>(R.fieldB o zCX)) ?_
   refine Cx [14] ⟨dp,((bw.trans cg).trans dq),(S.pk [1])⟩ (all1 ?_)
   refine Nx 15 32767 rfl ?_
   refine W.storeSl (α:=GField) (i:=2) [p,ei,fa,(str q),gl,(str t),(int u),(int x)] S gm rfl rfl rfl lay26 (Nat.le_of_ble_eq_true rfl) rfl ?_
   intro j1 S
   refine We<|WC.done ⟨dp,((bw.trans cg).trans dq),(S.pk [1])⟩ kr ?_
   exact ⟨dp,ei,fa,gl,o,aq,b,cf,ej,gm,S⟩
  refine Nx 15 201 rfl ?_
  refine Lo 2 S<|We ?_
  refine Cx [1,4] ⟨ac,lr,(S.pk [1])⟩ (allS ?_ (all1 ?_))
  ·refine Nx 15 203 rfl ?_
   refine Lo 2 S<|We ?_
   refine Cx [2,4] ⟨ac,lr,(S.pk [1])⟩ (allS ?_ (all1 ?_))
   ·refine Nx 15 207 rfl<|W.call S rfl (zAD S.holds ax k a1) ?_
    rintro ek j2 gn bh S ch
    have ⟨c,k,b,d⟩:=U4 bh c k b d
    refine We ?_
    refine Cx [4] ⟨gn,bh,(S.pk [1])⟩ (all1 ?_)
    refine Nx 15 223 rfl ?_
    refine Lo 2 S<|We ?_
    refine Ct 9 15 735 rfl (fun _ _=>(R.fieldB o zCc)) ?_
    refine Cx [5] ⟨gn,bh,(S.pk [1])⟩ (all1 ?_)
    refine Nx 15 767 rfl<|W.call S rfl (zAD S.holds an d ar) ?_
    rintro fb j3 hr ci S el
    have ⟨c,k,ch,d,b⟩:=U5 ci c k ch d b
    refine We ?_
    refine Cx [8] ⟨hr,(bh.trans ci),(S.pk [1])⟩ (all1 ?_)
    refine Nx 15 1023 rfl<|W.call S rfl (zAH S.holds ao c au) ?_
    rintro go j4 dr ds S gp
    have ⟨c,k,ch,d,el,b⟩:=U6 ds c k ch d el b
    refine We ?_
    refine Cx [10] ⟨dr,((bh.trans ci).trans ds),(S.pk [1])⟩ (all1 ?_)
    refine Nx 15 2047 rfl ?_
    refine W.storeSl (α:=Str) (i:=2) [p,ek,ak,(str q),aa,(str t),(int u),(int x)] S ch rfl rfl rfl lay34 (Nat.le_of_ble_eq_true rfl) rfl ?_
    intro j5 S
    refine We ?_
    refine Ct 11 15 4095 rfl (fun _ _=>(R.fieldB o zCU)) ?_
    refine Cx [12] ⟨dr,((bh.trans ci).trans ds),(S.pk [1])⟩ (all1 ?_)
    refine Nx 15 8191 rfl ?_
    refine W.storeSl (α:=Str) (i:=2) [p,ek,fb,(str q),aa,(str t),(int u),(int x)] S el rfl rfl rfl lay34 (Nat.le_of_ble_eq_true rfl) rfl ?_
    intro j6 S
    refine We ?_
    refine Ct 13 15 16383 rfl (fun _ _=>(R.fieldB o zCX)) ?_
    refine Cx [14] ⟨dr,((bh.trans ci).trans ds),(S.pk [1])⟩ (all1 ?_)
    refine Nx 15 32767 rfl ?_
    refine W.storeSl (α:=GField) (i:=2) [p,ek,fb,(str q),go,(str t),(int u),(int x)] S gp rfl rfl rfl lay26 (Nat.le_of_ble_eq_true rfl) rfl ?_
    intro j7 S
    refine We<|WC.done ⟨dr,((bh.trans ci).trans ds),(S.pk [1])⟩ kr ?_
    exact ⟨dr,ek,fb,go,o,aq,b,ch,el,gp,S⟩
   refine Nx 15 219 rfl ?_
   refine Lo 2 S<|We ?_
   refine Cx [2] ⟨ac,lr,(S.pk [1])⟩ (all1 ?_)
   refine Nx 15 223 rfl<|W.call S rfl (zAD S.holds ax k a1) ?_
   rintro em j8 hs bx S cj
   have ⟨c,k,d,b⟩:=U4 bx c k d b
   refine We ?_
   refine Ct 9 15 735 rfl (fun _ _=>(R.fieldB o zCc)) ?_
   refine Cx [5] ⟨hs,bx,(S.pk [1])⟩ (all1 ?_)
   refine Nx 15 767 rfl<|W.call S rfl (zAD S.holds an d ar) ?_
   rintro fc j9 ht ck S en
   have ⟨c,k,d,cj,b⟩:=U5 ck c k d cj b
   refine We ?_
   refine Cx [8] ⟨ht,(bx.trans ck),(S.pk [1])⟩ (all1 ?_)
   refine Nx 15 1023 rfl<|W.call S rfl (zAH S.holds ao c au) ?_
   rintro gq ka dt du S gr
   have ⟨c,k,d,cj,en,b⟩:=U6 du c k d cj en b
   refine We ?_
   refine Cx [10] ⟨dt,((bx.trans ck).trans du),(S.pk [1])⟩ (all1 ?_)
   refine Nx 15 2047 rfl ?_
   refine W.storeSl (α:=Str) (i:=2) [p,em,ak,(str q),aa,(str t),(int u),(int x)] S cj rfl rfl rfl lay34 (Nat.le_of_ble_eq_true rfl) rfl ?_
   intro kb S
   refine We ?_
   refine Ct 11 15 4095 rfl (fun _ _=>(R.fieldB o zCU)) ?_
   refine Cx [12] ⟨dt,((bx.trans ck).trans du),(S.pk [1])⟩ (all1 ?_)
   refine Nx 15 8191 rfl ?_
   refine W.storeSl (α:=Str) (i:=2) [p,em,fc,(str q),aa,(str t),(int u),(int x)] S en rfl rfl rfl lay34 (Nat.le_of_ble_eq_true rfl) rfl ?_
   intro kc S
   refine We ?_
   refine Ct 13 15 16383 rfl (fun _ _=>(R.fieldB o zCX)) ?_
   refine Cx [14] ⟨dt,((bx.trans ck).trans du),(S.pk [1])⟩ (all1 ?_)
   refine Nx 15 32767 rfl ?_
   refine W.storeSl (α:=GField) (i:=2) [p,em,fc,(str q),gq,(str t),(int u),(int x)] S gr rfl rfl rfl lay26 (Nat.le_of_ble_eq_true rfl) rfl ?_
   intro kd S
   refine We<|WC.done ⟨dt,((bx.trans ck).trans du),(S.pk [1])⟩ kr ?_
   exact ⟨dt,em,fc,gq,o,aq,b,cj,en,gr,S⟩
  refine Nx 15 217 rfl ?_
  refine Lo 2 S<|We ?_
  refine Cx [1] ⟨ac,lr,(S.pk [1])⟩ (all1 ?_)
  refine Nx 15 219 rfl ?_
  refine Lo 2 S<|We ?_
  refine Cx [2] ⟨ac,lr,(S.pk [1])⟩ (all1 ?_)
  refine Nx 15 223 rfl<|W.call S rfl (zAD S.holds ax k a1) ?_
  rintro eo ke hu bz S cl
  have ⟨c,d,b⟩:=U3 bz c d b
  refine We ?_
  refine Ct 9 15 735 rfl (fun _ _=>(R.fieldB o zCc)) ?_
  refine Cx [5] ⟨hu,bz,(S.pk [1])⟩ (all1 ?_)
  refine Nx 15 767 rfl<|W.call S rfl (zAD S.holds an d ar) ?_
  rintro fd kf hv cm S ep
  have ⟨c,cl,b⟩:=U3 cm c cl b
  refine We ?_
  refine Cx [8] ⟨hv,(bz.trans cm),(S.pk [1])⟩ (all1 ?_)
  refine Nx 15 1023 rfl<|W.call S rfl (zAH S.holds ao c au) ?_
  rintro gs kg dw dx S gt
  have ⟨cl,ep,b⟩:=U3 dx cl ep b
  refine We ?_
  refine Cx [10] ⟨dw,((bz.trans cm).trans dx),(S.pk [1])⟩ (all1 ?_)
  refine Nx 15 2047 rfl ?_
  refine W.storeSl (α:=Str) (i:=2) [p,eo,ak,(str q),aa,(str t),(int u),(int x)] S cl rfl rfl rfl lay34 (Nat.le_of_ble_eq_true rfl) rfl ?_
  intro kh S
  refine We ?_
  refine Ct 11 15 4095 rfl (fun _ _=>(R.fieldB o zCU)) ?_
  refine Cx [12] ⟨dw,((bz.trans cm).trans dx),(S.pk [1])⟩ (all1 ?_)
  refine Nx 15 8191 rfl ?_
  refine W.storeSl (α:=Str) (i:=2) [p,eo,fd,(str q),aa,(str t),(int u),(int x)] S ep rfl rfl rfl lay34 (Nat.le_of_ble_eq_true rfl) rfl ?_
  intro ki S
  refine We ?_
  refine Ct 13 15 16383 rfl (fun _ _=>(R.fieldB o zCX)) ?_
  refine Cx [14] ⟨dw,((bz.trans cm).trans dx),(S.pk [1])⟩ (all1 ?_)
  refine Nx 15 32767 rfl ?_
  refine W.storeSl (α:=GField) (i:=2) [p,eo,fd,(str q),gs,(str t),(int u),(int x)] S gt rfl rfl rfl lay26 (Nat.le_of_ble_eq_true rfl) rfl ?_
  intro kj S
  refine We<|WC.done ⟨dw,((bz.trans cm).trans dx),(S.pk [1])⟩ kr ?_
  exact ⟨dw,eo,fd,gs,o,aq,b,cl,ep,gt,S⟩
 rintro f w ⟨b0,bn,bo,bp,hx,gu,gv,gw,gx,gy,S⟩
 refine Ws<|Wg ?_
 refine WL.w (R.loadBN (i:=2) (vs:=[p,bn,bo,(str q),bp,(str t),(int u),(int x)]) S hx rfl lay36 rfl rfl) ?_
 refine W.store (i:=1) [p,bn,bo,(str q),bp,(str t),(int u),(int x)] S gu rfl rfl lay36 rfl (AllOne.all (l:=[p,bn,bo,(str q),bp,(str t),(int u),(int x)]) (.cons (Sl.oneC gv) (.cons (Sl.oneC gw) (.cons (Sl.oneC gx) (.cons rfl (.cons (Sl.oneC gy) (.cons rfl (.cons rfl (.cons rfl .nil))))))))) (Nat.le_of_ble_eq_true rfl) rfl ?_
 intro kk S
 refine We ?_
 obtain rfl:=oi h
 refine WP.ret (Out.one rfl S (Res.cellB (i:=1) (cs:=[p,bn,bo,(str q),bp,(str t),(int u),(int x)]) S gu rfl lay36 rfl rfl) ?_)
 exact ⟨_,_,_,_,rfl,gv,gw,gx,gy⟩
end Go.Proofs

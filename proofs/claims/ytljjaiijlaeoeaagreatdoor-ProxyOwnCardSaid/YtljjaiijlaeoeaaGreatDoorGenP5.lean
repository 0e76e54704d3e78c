/- A part. -/
import Derived.Test.YtljjaiijlaeoeaaGreatDoorEng38
import Derived.Test.YtljjaiijlaeoeaaGreatDoorEng36
import Derived.Test.YtljjaiijlaeoeaaGreatDoorGenP4
namespace Go.Proofs
set_option maxHeartbeats 4000000
set_option maxRecDepth 10000
open Go.Eng Go.Eng.Pure
set_option linter.unusedVariables false
theorem zAT {w0:World} {H0:Hp} (hw:Holds w0 H0) (hG:Tryz.Gl w0) (b:GEntry) {dg:Value} {aj:Value} {p:Value} {o:Value} (e8:Sl H0 dg b.fKeys) (j:Sl H0 aj b.fVary) (d:Sl H0 p b.fSnapshot) (c:Sl H0 o b.fFields) {r:GEntry} (h:zEQ b=some r) :
  Con Tryz.prog 136 [(agg [dg,aj,p,(str b.fReason),o,(str b.fBody),(int b.fRequested),(int b.fReceived)])] w0 H0 (fun H' v=>∃ u1 u2 u3 u4:Value,v=(agg [u1,u2,u3,(str r.fReason),u4,(str r.fBody),(int r.fRequested),(int r.fReceived)])∧Sl H' u1 r.fKeys∧Sl H' u2 r.fVary∧Sl H' u3 r.fSnapshot∧Sl H' u4 r.fFields):=by
 refine CM 36 Tryz.func136 hw fun S=>?_
 refine Ws<|Wg ?_
 refine W.box [dg,aj,p,(str b.fReason),o,(str b.fBody),(int b.fRequested),(int b.fReceived)] S rfl rfl ?_
 intro b1 w2 S
 refine W.alloc [(.slice none 0 0),(.slice none 0 0),(.slice none 0 0),(str []),(.slice none 0 0),(str []),(int 0),(int 0)] S zer92 ?_
 intro b3 w4 S
 refine We<|Ws<|Wg<|Fb ?_
 refine Lo 1 S<|A<|We<|Ws<|Wg<|Fb ?_
 refine W.store (i:=1) [(.slice none 0 0),aj,p,(str b.fReason),o,(str b.fBody),(int b.fRequested),(int b.fReceived)] S rfl rfl rfl lay90 rfl (AllOne.all (l:=[(.slice none 0 0)]) (.cons rfl .nil)) (Nat.le_of_ble_eq_true rfl) rfl ?_
 intro w5 S
 refine We<|Ws<|Ws<|Wg<|M<|Nq e8<|M<|We<|B h fun e9 fa h=>WP.cut (fun f w=>∃ (q:Hp),f 1=(ptr b1 0)∧f 2=(ptr b3 0)∧Sl q aj b.fVary∧Sl q p b.fSnapshot∧Sl q o b.fFields∧St w0 H0 w q [.box b3 92 [(.slice none 0 0),(.slice none 0 0),(.slice none 0 0),(str []),(.slice none 0 0),(str []),(int 0),(int 0)],.box b1 92 [(.slice none 0 0),aj,p,(str b.fReason),o,(str b.fBody),(int b.fRequested),(int b.fReceived)]]) ?_ ?_
 ·refine Wb ?_
  refine WP.loopM (zEa b) (fun s f w=>match s with | _=>∃ (H6:Hp),f 1=(ptr b1 0)∧f 2=(ptr b3 0)∧f 10=(int (b.fKeys.length:Int))∧f 11=(int 0)∧Sl H6 aj b.fVary∧Sl H6 p b.fSnapshot∧Sl H6 o b.fFields∧St w0 H0 w H6 [.box b3 92 [(.slice none 0 0),(.slice none 0 0),(.slice none 0 0),(str []),(.slice none 0 0),(str []),(int 0),(int 0)],.box b1 92 [(.slice none 0 0),aj,p,(str b.fReason),o,(str b.fBody),(int b.fRequested),(int b.fReceived)]]) () e9 (lfW fa) ?_ ?_
  ·exact ⟨H0,rfl,rfl,rfl,rfl,j,d,c,S⟩
  intro s f w hI f5 bs fb
  obtain ⟨H6,h7,h8,h9,ff,j,d,c,S⟩:=hI
  refine Ws<|Wg<|La' ff h9<|We<|Ws ?_
  rcases condE bs with ⟨dh,bs⟩ | ⟨dh,bs⟩
  ·refine CT dh ?_
   cases bs
  refine CF dh<|Wx ?_
  obtain rfl:=oi bs
  obtain rfl:=fb
  exact ⟨H6,h7,h8,j,d,c,S⟩
 rintro f w ⟨q,k,x,j,d,c,S⟩
 refine Ws<|B h fun fg ai h=>B h fun fh z h=>B h fun fi aa h=>WP.cut (fun f w=>∃ (bt:Hp) (aq:Value) (ar:Value) (au:Value),f 1=(ptr b1 0)∧f 2=(ptr b3 0)∧Sl bt aq fg∧Sl bt ar fh∧Sl bt au fi∧St w0 H0 w bt [.box b3 92 [(.slice none 0 0),(.slice none 0 0),(.slice none 0 0),(str []),(.slice none 0 0),(str []),(int 0),(int 0)],.box b1 92 [(.slice none 0 0),aq,ar,(str b.fReason),au,(str b.fBody),(int b.fRequested),(int b.fReceived)]]) ?_ ?_
 ·refine WP.drawC (Cl w0 H0 q [.box b3 92 [(.slice none 0 0),(.slice none 0 0),(.slice none 0 0),(str []),(.slice none 0 0),(str []),(int 0),(int 0)]]) kr 15 rfl (bm 15 0) rfl ?_
  have S:=S.drew
  refine Ct 0 15 1 rfl (fun _ _=>(R.fieldB k zBe)) ?_
  refine Ct 3 15 9 rfl (fun _ _=>(R.fieldB k zBd)) ?_
  refine Ct 6 15 73 rfl (fun _ _=>(R.fieldB k zBW)) ?_
  refine Cx [1,4,7] ⟨q,lr,(S.pk [0])⟩ (allS ?_ (allS ?_ (all1 ?_)))
  ·refine Nx 15 75 rfl ?_
   refine Lo 1 S<|We ?_
   refine Cx [2,4,7] ⟨q,lr,(S.pk [0])⟩ (allS ?_ (allS ?_ (all1 ?_)))
   ·refine Nx 15 79 rfl<|W.call S rfl (zAA S.holds (hG.post S.post) b.fVary j ai) ?_
    rintro ad f6 bu t S u
    have ⟨j,d,c⟩:=U3 t j d c
    refine We ?_
    refine Cx [4,7] ⟨bu,t,(S.pk [0])⟩ (allS ?_ (all1 ?_))
    ·refine Nx 15 95 rfl ?_
     refine Lo 1 S<|We ?_
     refine Cx [5,7] ⟨bu,t,(S.pk [0])⟩ (allS ?_ (all1 ?_))
     ·refine Nx 15 127 rfl<|W.call S rfl (zAA S.holds (hG.post S.post) b.fSnapshot d z) ?_
      rintro di f7 d2 av S ct
      have ⟨j,u,d,c⟩:=U4 av j u d c
      refine We ?_
      refine Cx [7] ⟨d2,(t.trans av),(S.pk [0])⟩ (all1 ?_)
      refine Nx 15 255 rfl ?_
      refine Lo 1 S<|We ?_
      refine Ct 9 15 767 rfl (fun _ _=>(R.fieldB k zBe)) ?_
      refine Cx [8] ⟨d2,(t.trans av),(S.pk [0])⟩ (all1 ?_)
      refine Nx 15 1023 rfl<|W.call S rfl (zAC S.holds (hG.post S.post) b.fFields c aa) ?_
      rintro d3 f8 bv bw S d4
      have ⟨j,u,d,ct,c⟩:=U5 bw j u d ct c
      refine We ?_
      refine Cx [10] ⟨bv,((t.trans av).trans bw),(S.pk [0])⟩ (all1 ?_)
      refine Nx 15 2047 rfl ?_
      refine W.storeSl (α:=Str) (i:=1) [(.slice none 0 0),ad,p,(str b.fReason),o,(str b.fBody),(int b.fRequested),(int b.fReceived)] S u rfl rfl rfl lay45 (Nat.le_of_ble_eq_true rfl) rfl ?_
      intro f9 S
      refine We ?_
      refine Ct 11 15 4095 rfl (fun _ _=>(R.fieldB k zBd)) ?_
      refine Cx [12] ⟨bv,((t.trans av).trans bw),(S.pk [0])⟩ (all1 ?_)
      refine Nx 15 8191 rfl ?_
      refine W.storeSl (α:=Str) (i:=1) [(.slice none 0 0),ad,di,(str b.fReason),o,(str b.fBody),(int b.fRequested),(int b.fReceived)] S ct rfl rfl rfl lay45 (Nat.le_of_ble_eq_true rfl) rfl ?_
      intro ga S
      refine We ?_
      refine Ct 13 15 16383 rfl (fun _ _=>(R.fieldB k zBW)) ?_
      refine Cx [14] ⟨bv,((t.trans av).trans bw),(S.pk [0])⟩ (all1 ?_)
      refine Nx 15 32767 rfl ?_
      refine W.storeSl (α:=GField) (i:=1) [(.slice none 0 0),ad,di,(str b.fReason),d3,(str b.fBody),(int b.fRequested),(int b.fReceived)] S d4 rfl rfl rfl lay22 (Nat.le_of_ble_eq_true rfl) rfl ?_
      intro gb S
      refine We<|WC.done ⟨bv,((t.trans av).trans bw),(S.pk [0])⟩ kr ?_
      exact ⟨bv,ad,di,d3,k,x,u,ct,d4,S⟩
     refine Nx 15 223 rfl ?_
     refine Lo 1 S<|We ?_
     refine Ct 9 15 735 rfl (fun _ _=>(R.fieldB k zBe)) ?_
     refine Cx [5] ⟨bu,t,(S.pk [0])⟩ (all1 ?_)
     refine Nx 15 767 rfl<|W.call S rfl (zAA S.holds (hG.post S.post) b.fSnapshot d z) ?_
     rintro dj gc fj a6 S cu
     have ⟨j,u,d,c⟩:=U4 a6 j u d c
     refine We ?_
     refine Cx [8] ⟨fj,(t.trans a6),(S.pk [0])⟩ (all1 ?_)
     refine Nx 15 1023 rfl<|W.call S rfl (zAC S.holds (hG.post S.post) b.fFields c aa) ?_
     rintro d5 gd bx bz S d6
     have ⟨j,u,d,c,cu⟩:=U5 bz j u d c cu
     refine We ?_
     refine Cx [10] ⟨bx,((t.trans a6).trans bz),(S.pk [0])⟩ (all1 ?_)
     refine Nx 15 2047 rfl ?_
     refine W.storeSl (α:=Str) (i:=1) [(.slice none 0 0),ad,p,(str b.fReason),o,(str b.fBody),(int b.fRequested),(int b.fReceived)] S u rfl rfl rfl lay45 (Nat.le_of_ble_eq_true rfl) rfl ?_
     intro ge S
     refine We ?_
     refine Ct 11 15 4095 rfl (fun _ _=>(R.fieldB k zBd)) ?_
     refine Cx [12] ⟨bx,((t.trans a6).trans bz),(S.pk [0])⟩ (all1 ?_)
     refine Nx 15 8191 rfl ?_
     refine W.storeSl (α:=Str) (i:=1) [(.slice none 0 0),ad,dj,(str b.fReason),o,(str b.fBody),(int b.fRequested),(int b.fReceived)] S cu rfl rfl rfl lay45 (Nat.le_of_ble_eq_true rfl) rfl ?_
     intro gf S
     refine We ?_
     refine Ct 13 15 16383 rfl (fun _ _=>(R.fieldB k zBW)) ?_
     refine Cx [14] ⟨bx,((t.trans a6).trans bz),(S.pk [0])⟩ (all1 ?_)
     refine Nx 15 32767 rfl ?_
     refine W.storeSl (α:=GField) (i:=1) [(.slice none 0 0),ad,dj,(str b.fReason),d5,(str b.fBody),(int b.fRequested),(int b.fReceived)] S d6 rfl rfl rfl lay22 (Nat.le_of_ble_eq_true rfl) rfl ?_
     intro gg S
     refine We<|WC.done ⟨bx,((t.trans a6).trans bz),(S.pk [0])⟩ kr ?_
     exact ⟨bx,ad,dj,d5,k,x,u,cu,d6,S⟩
    refine Nx 15 207 rfl ?_
    refine Lo 1 S<|We ?_
    refine Cx [4] ⟨bu,t,(S.pk [0])⟩ (all1 ?_)
    refine Nx 15 223 rfl ?_
    refine Lo 1 S<|We ?_
    refine Ct 9 15 735 rfl (fun _ _=>(R.fieldB k zBe)) ?_
    refine Cx [5] ⟨bu,t,(S.pk [0])⟩ (all1 ?_)
    refine Nx 15 767 rfl<|W.call S rfl (zAA S.holds (hG.post S.post) b.fSnapshot d z) ?_
    rintro dk gh fk a7 S cv
    have ⟨j,u,c,d⟩:=U4 a7 j u c d
    refine We ?_
    refine Cx [8] ⟨fk,(t.trans a7),(S.pk [0])⟩ (all1 ?_)
    refine Nx 15 1023 rfl<|W.call S rfl (zAC S.holds (hG.post S.post) b.fFields c aa) ?_
    rintro d7 gi b0 b2 S d8
    have ⟨j,u,c,d,cv⟩:=U5 b2 j u c d cv
    refine We ?_
    refine Cx [10] ⟨b0,((t.trans a7).trans b2),(S.pk [0])⟩ (all1 ?_)
    refine Nx 15 2047 rfl ?_
    refine W.storeSl (α:=Str) (i:=1) [(.slice none 0 0),ad,p,(str b.fReason),o,(str b.fBody),(int b.fRequested),(int b.fReceived)] S u rfl rfl rfl lay45 (Nat.le_of_ble_eq_true rfl) rfl ?_
    intro gj S
    refine We ?_
    refine Ct 11 15 4095 rfl (fun _ _=>(R.fieldB k zBd)) ?_
    refine Cx [12] ⟨b0,((t.trans a7).trans b2),(S.pk [0])⟩ (all1 ?_)
    refine Nx 15 8191 rfl ?_
    refine W.storeSl (α:=Str) (i:=1) [(.slice none 0 0),ad,dk,(str b.fReason),o,(str b.fBody),(int b.fRequested),(int b.fReceived)] S cv rfl rfl rfl lay45 (Nat.le_of_ble_eq_true rfl) rfl ?_
    intro gk S
    refine We ?_
    refine Ct 13 15 16383 rfl (fun _ _=>(R.fieldB k zBW)) ?_
    refine Cx [14] ⟨b0,((t.trans a7).trans b2),(S.pk [0])⟩ (all1 ?_)
    refine Nx 15 32767 rfl ?_
    refine W.storeSl (α:=GField) (i:=1) [(.slice none 0 0),ad,dk,(str b.fReason),d7,(str b.fBody),(int b.fRequested),(int b.fReceived)] S d8 rfl rfl rfl lay22 (Nat.le_of_ble_eq_true rfl) rfl ?_
    intro gl S
    refine We<|WC.done ⟨b0,((t.trans a7).trans b2),(S.pk [0])⟩ kr ?_
    exact ⟨b0,ad,dk,d7,k,x,u,cv,d8,S⟩
   ·refine Nx 15 91 rfl ?_
    refine Lo 1 S<|We ?_
    refine Cx [2,7] ⟨q,lr,(S.pk [0])⟩ (allS ?_ (all1 ?_))
    ·refine Nx 15 95 rfl<|W.call S rfl (zAA S.holds (hG.post S.post) b.fVary j ai) ?_
     rintro ak gm d9 ab S ae
     have ⟨j,d,c⟩:=U3 ab j d c
     refine We ?_
     refine Cx [5,7] ⟨d9,ab,(S.pk [0])⟩ (allS ?_ (all1 ?_))
     ·refine Nx 15 127 rfl<|W.call S rfl (zAA S.holds (hG.post S.post) b.fSnapshot d z) ?_
      rintro dl gn ea aw S cw
      have ⟨j,d,ae,c⟩:=U4 aw j d ae c
      refine We ?_
      refine Cx [7] ⟨ea,(ab.trans aw),(S.pk [0])⟩ (all1 ?_)
      refine Nx 15 255 rfl ?_
      refine Lo 1 S<|We ?_
      refine Ct 9 15 767 rfl (fun _ _=>(R.fieldB k zBe)) ?_
      refine Cx [8] ⟨ea,(ab.trans aw),(S.pk [0])⟩ (all1 ?_)
      refine Nx 15 1023 rfl<|W.call S rfl (zAC S.holds (hG.post S.post) b.fFields c aa) ?_
      rintro eb go b4 b5 S ec
      have ⟨j,d,ae,cw,c⟩:=U5 b5 j d ae cw c
      refine We ?_
      refine Cx [10] ⟨b4,((ab.trans aw).trans b5),(S.pk [0])⟩ (all1 ?_)
      refine Nx 15 2047 rfl ?_
      refine W.storeSl (α:=Str) (i:=1) [(.slice none 0 0),ak,p,(str b.fReason),o,(str b.fBody),(int b.fRequested),(int b.fReceived)] S ae rfl rfl rfl lay45 (Nat.le_of_ble_eq_true rfl) rfl ?_
      intro gp S
      refine We ?_
      refine Ct 11 15 4095 rfl (fun _ _=>(R.fieldB k zBd)) ?_
      refine Cx [12] ⟨b4,((ab.trans aw).trans b5),(S.pk [0])⟩ (all1 ?_)
      refine Nx 15 8191 rfl ?_
      refine W.storeSl (α:=Str) (i:=1) [(.slice none 0 0),ak,dl,(str b.fReason),o,(str b.fBody),(int b.fRequested),(int b.fReceived)] S cw rfl rfl rfl lay45 (Nat.le_of_ble_eq_true rfl) rfl ?_
      intro gq S
      refine We ?_
      refine Ct 13 15 16383 rfl (fun _ _=>(R.fieldB k zBW)) ?_
      refine Cx [14] ⟨b4,((ab.trans aw).trans b5),(S.pk [0])⟩ (all1 ?_)
      refine Nx 15 32767 rfl ?_
      refine W.storeSl (α:=GField) (i:=1) [(.slice none 0 0),ak,dl,(str b.fReason),eb,(str b.fBody),(int b.fRequested),(int b.fReceived)] S ec rfl rfl rfl lay22 (Nat.le_of_ble_eq_true rfl) rfl ?_
      intro gr S
      refine We<|WC.done ⟨b4,((ab.trans aw).trans b5),(S.pk [0])⟩ kr ?_
      exact ⟨b4,ak,dl,eb,k,x,ae,cw,ec,S⟩
     refine Nx 15 223 rfl ?_
     refine Lo 1 S<|We ?_
     refine Ct 9 15 735 rfl (fun _ _=>(R.fieldB k zBe)) ?_
     refine Cx [5] ⟨d9,ab,(S.pk [0])⟩ (all1 ?_)
     refine Nx 15 767 rfl<|W.call S rfl (zAA S.holds (hG.post S.post) b.fSnapshot d z) ?_
     rintro dm gs fl a8 S cx
     have ⟨j,d,ae,c⟩:=U4 a8 j d ae c
     refine We ?_
     refine Cx [8] ⟨fl,(ab.trans a8),(S.pk [0])⟩ (all1 ?_)
     refine Nx 15 1023 rfl<|W.call S rfl (zAC S.holds (hG.post S.post) b.fFields c aa) ?_
     rintro ed gt b6 b7 S ee
     have ⟨j,d,ae,c,cx⟩:=U5 b7 j d ae c cx
     refine We ?_
     refine Cx [10] ⟨b6,((ab.trans a8).trans b7),(S.pk [0])⟩ (all1 ?_)
     refine Nx 15 2047 rfl ?_
     refine W.storeSl (α:=Str) (i:=1) [(.slice none 0 0),ak,p,(str b.fReason),o,(str b.fBody),(int b.fRequested),(int b.fReceived)] S ae rfl rfl rfl lay45 (Nat.le_of_ble_eq_true rfl) rfl ?_
     intro gu S
     refine We ?_
     refine Ct 11 15 4095 rfl (fun _ _=>(R.fieldB k zBd)) ?_
     refine Cx [12] ⟨b6,((ab.trans a8).trans b7),(S.pk [0])⟩ (all1 ?_)
     refine Nx 15 8191 rfl ?_
     refine W.storeSl (α:=Str) (i:=1) [(.slice none 0 0),ak,dm,(str b.fReason),o,(str b.fBody),(int b.fRequested),(int b.fReceived)] S cx rfl rfl rfl lay45 (Nat.le_of_ble_eq_true rfl) rfl ?_
     intro gv S
     refine We ?_
     refine Ct 13 15 16383 rfl (fun _ _=>(R.fieldB k zBW)) ?_
     refine Cx [14] ⟨b6,((ab.trans a8).trans b7),(S.pk [0])⟩ (all1 ?_)
     refine Nx 15 32767 rfl ?_
     refine W.storeSl (α:=GField) (i:=1) [(.slice none 0 0),ak,dm,(str b.fReason),ed,(str b.fBody),(int b.fRequested),(int b.fReceived)] S ee rfl rfl rfl lay22 (Nat.le_of_ble_eq_true rfl) rfl ?_
     intro gw S
     refine We<|WC.done ⟨b6,((ab.trans a8).trans b7),(S.pk [0])⟩ kr ?_
     exact ⟨b6,ak,dm,ed,k,x,ae,cx,ee,S⟩
    refine Nx 15 219 rfl ?_
    refine Lo 1 S<|We ?_
    refine Cx [2] ⟨q,lr,(S.pk [0])⟩ (all1 ?_)
    refine Nx 15 223 rfl<|W.call S rfl (zAA S.holds (hG.post S.post) b.fVary j ai) ?_
    rintro cy gx fm ax S a9
    have ⟨j,d,c⟩:=U3 ax j d c
    refine We ?_
    refine Ct 9 15 735 rfl (fun _ _=>(R.fieldB k zBe)) ?_
    refine Cx [5] ⟨fm,ax,(S.pk [0])⟩ (all1 ?_)
    refine Nx 15 767 rfl<|W.call S rfl (zAA S.holds (hG.post S.post) b.fSnapshot d z) ?_
    rintro dn gy fn ba S cz
    have ⟨j,d,c,a9⟩:=U4 ba j d c a9
    refine We ?_
    refine Cx [8] ⟨fn,(ax.trans ba),(S.pk [0])⟩ (all1 ?_)
    refine Nx 15 1023 rfl<|W.call S rfl (zAC S.holds (hG.post S.post) b.fFields c aa) ?_
    rintro ef gz b8 b9 S eg
    have ⟨j,d,c,a9,cz⟩:=U5 b9 j d c a9 cz
    refine We ?_
    refine Cx [10] ⟨b8,((ax.trans ba).trans b9),(S.pk [0])⟩ (all1 ?_)
    refine Nx 15 2047 rfl ?_
    refine W.storeSl (α:=Str) (i:=1) [(.slice none 0 0),cy,p,(str b.fReason),o,(str b.fBody),(int b.fRequested),(int b.fReceived)] S a9 rfl rfl rfl lay45 (Nat.le_of_ble_eq_true rfl) rfl ?_
    intro g0 S
    refine We ?_
    refine Ct 11 15 4095 rfl (fun _ _=>(R.fieldB k zBd)) ?_
    refine Cx [12] ⟨b8,((ax.trans ba).trans b9),(S.pk [0])⟩ (all1 ?_)
    refine Nx 15 8191 rfl ?_
    refine W.storeSl (α:=Str) (i:=1) [(.slice none 0 0),cy,dn,(str b.fReason),o,(str b.fBody),(int b.fRequested),(int b.fReceived)] S cz rfl rfl rfl lay45 (Nat.le_of_ble_eq_true rfl) rfl ?_
    intro g1 S
    refine We ?_
    refine Ct 13 15 16383 rfl (fun _ _=>(R.fieldB k zBW)) ?_
    refine Cx [14] ⟨b8,((ax.trans ba).trans b9),(S.pk [0])⟩ (all1 ?_)
    refine Nx 15 32767 rfl ?_
    refine W.storeSl (α:=GField) (i:=1) [(.slice none 0 0),cy,dn,(str b.fReason),ef,(str b.fBody),(int b.fRequested),(int b.fReceived)] S eg rfl rfl rfl lay22 (Nat.le_of_ble_eq_true rfl) rfl ?_
    intro g2 S
    refine We<|WC.done ⟨b8,((ax.trans ba).trans b9),(S.pk [0])⟩ kr ?_
    exact ⟨b8,cy,dn,ef,k,x,a9,cz,eg,S⟩
   refine Nx 15 203 rfl ?_
   refine Lo 1 S<|We ?_
   refine Cx [2,4] ⟨q,lr,(S.pk [0])⟩ (allS ?_ (all1 ?_))
   ·refine Nx 15 207 rfl<|W.call S rfl (zAA S.holds (hG.post S.post) b.fVary j ai) ?_
    rintro c0 g3 eh al S bb
    have ⟨j,c,d⟩:=U3 al j c d
    refine We ?_
    refine Cx [4] ⟨eh,al,(S.pk [0])⟩ (all1 ?_)
    refine Nx 15 223 rfl ?_
    refine Lo 1 S<|We ?_
    refine Ct 9 15 735 rfl (fun _ _=>(R.fieldB k zBe)) ?_
    refine Cx [5] ⟨eh,al,(S.pk [0])⟩ (all1 ?_)
    refine Nx 15 767 rfl<|W.call S rfl (zAA S.holds (hG.post S.post) b.fSnapshot d z) ?_
    rintro dp g4 fo bc S c1
    have ⟨j,c,bb,d⟩:=U4 bc j c bb d
    refine We ?_
    refine Cx [8] ⟨fo,(al.trans bc),(S.pk [0])⟩ (all1 ?_)
    refine Nx 15 1023 rfl<|W.call S rfl (zAC S.holds (hG.post S.post) b.fFields c aa) ?_
    rintro ei g5 ca cb S ej
    have ⟨j,c,bb,d,c1⟩:=U5 cb j c bb d c1
    refine We ?_
    refine Cx [10] ⟨ca,((al.trans bc).trans cb),(S.pk [0])⟩ (all1 ?_)
    refine Nx 15 2047 rfl ?_
    refine W.storeSl (α:=Str) (i:=1) [(.slice none 0 0),c0,p,(str b.fReason),o,(str b.fBody),(int b.fRequested),(int b.fReceived)] S bb rfl rfl rfl lay45 (Nat.le_of_ble_eq_true rfl) rfl ?_
    intro g6 S
    refine We ?_
    refine Ct 11 15 4095 rfl (fun _ _=>(R.fieldB k zBd)) ?_
    refine Cx [12] ⟨ca,((al.trans bc).trans cb),(S.pk [0])⟩ (all1 ?_)
    refine Nx 15 8191 rfl ?_
    refine W.storeSl (α:=Str) (i:=1) [(.slice none 0 0),c0,dp,(str b.fReason),o,(str b.fBody),(int b.fRequested),(int b.fReceived)] S c1 rfl rfl rfl lay45 (Nat.le_of_ble_eq_true rfl) rfl ?_
    intro g7 S
    refine We ?_
    refine Ct 13 15 16383 rfl (fun _ _=>(R.fieldB k zBW)) ?_
    refine Cx [14] ⟨ca,((al.trans bc).trans cb),(S.pk [0])⟩ (all1 ?_)
    refine Nx 15 32767 rfl ?_
    refine W.storeSl (α:=GField) (i:=1) [(.slice none 0 0),c0,dp,(str b.fReason),ei,(str b.fBody),(int b.fRequested),(int b.fReceived)] S ej rfl rfl rfl lay22 (Nat.le_of_ble_eq_true rfl) rfl ?_
    intro g8 S
    refine We<|WC.done ⟨ca,((al.trans bc).trans cb),(S.pk [0])⟩ kr ?_
    exact ⟨ca,c0,dp,ei,k,x,bb,c1,ej,S⟩
   refine Nx 15 219 rfl ?_
   refine Lo 1 S<|We ?_
   refine Cx [2] ⟨q,lr,(S.pk [0])⟩ (all1 ?_)
   refine Nx 15 223 rfl<|W.call S rfl (zAA S.holds (hG.post S.post) b.fVary j ai) ?_
   rintro c2 g9 fp ay S bd
   have ⟨j,c,d⟩:=U3 ay j c d
   refine We ?_
   refine Ct 9 15 735 rfl (fun _ _=>(R.fieldB k zBe)) ?_
   refine Cx [5] ⟨fp,ay,(S.pk [0])⟩ (all1 ?_)
   refine Nx 15 767 rfl<|W.call S rfl (zAA S.holds (hG.post S.post) b.fSnapshot d z) ?_
   rintro dq ha fq be S c3
   have ⟨j,c,d,bd⟩:=U4 be j c d bd
   refine We ?_
   refine Cx [8] ⟨fq,(ay.trans be),(S.pk [0])⟩ (all1 ?_)
   refine Nx 15 1023 rfl<|W.call S rfl (zAC S.holds (hG.post S.post) b.fFields c aa) ?_
   rintro ek hb cc cd S el
   have ⟨j,c,d,bd,c3⟩:=U5 cd j c d bd c3
   refine We ?_
   refine Cx [10] ⟨cc,((ay.trans be).trans cd),(S.pk [0])⟩ (all1 ?_)
   refine Nx 15 2047 rfl ?_
   refine W.storeSl (α:=Str) (i:=1) [(.slice none 0 0),c2,p,(str b.fReason),o,(str b.fBody),(int b.fRequested),(int b.fReceived)] S bd rfl rfl rfl lay45 (Nat.le_of_ble_eq_true rfl) rfl ?_
   intro hc S
   refine We ?_
   refine Ct 11 15 4095 rfl (fun _ _=>(R.fieldB k zBd)) ?_
   refine Cx [12] ⟨cc,((ay.trans be).trans cd),(S.pk [0])⟩ (all1 ?_)
   refine Nx 15 8191 rfl ?_
   refine W.storeSl (α:=Str) (i:=1) [(.slice none 0 0),c2,dq,(str b.fReason),o,(str b.fBody),(int b.fRequested),(int b.fReceived)] S c3 rfl rfl rfl lay45 (Nat.le_of_ble_eq_true rfl) rfl ?_
   intro hd S
   refine We ?_
   refine Ct 13 15 16383 rfl (fun _ _=>(R.fieldB k zBW)) ?_
   refine Cx [14] ⟨cc,((ay.trans be).trans cd),(S.pk [0])⟩ (all1 ?_)
   refine Nx 15 32767 rfl ?_
   refine W.storeSl (α:=GField) (i:=1) [(.slice none 0 0),c2,dq,(str b.fReason),ek,(str b.fBody),(int b.fRequested),(int b.fReceived)] S el rfl rfl rfl lay22 (Nat.le_of_ble_eq_true rfl) rfl ?_
   intro he S
   refine We<|WC.done ⟨cc,((ay.trans be).trans cd),(S.pk [0])⟩ kr ?_
   exact ⟨cc,c2,dq,ek,k,x,bd,c3,el,S⟩
  ·refine Nx 15 89 rfl ?_
   refine Lo 1 S<|We ?_
   refine Cx [1,7] ⟨q,lr,(S.pk [0])⟩ (allS ?_ (all1 ?_))
   ·refine Nx 15 91 rfl ?_
    refine Lo 1 S<|We ?_
    refine Cx [2,7] ⟨q,lr,(S.pk [0])⟩ (allS ?_ (all1 ?_))
    ·refine Nx 15 95 rfl<|W.call S rfl (zAA S.holds (hG.post S.post) b.fVary j ai) ?_
     rintro am hf em ac S af
     have ⟨d,j,c⟩:=U3 ac d j c
     refine We ?_
     refine Cx [5,7] ⟨em,ac,(S.pk [0])⟩ (allS ?_ (all1 ?_))
     ·refine Nx 15 127 rfl<|W.call S rfl (zAA S.holds (hG.post S.post) b.fSnapshot d z) ?_
      rintro dr hg en az S c4
      have ⟨d,j,af,c⟩:=U4 az d j af c
      refine We ?_
      refine Cx [7] ⟨en,(ac.trans az),(S.pk [0])⟩ (all1 ?_)
      refine Nx 15 255 rfl ?_
      refine Lo 1 S<|We ?_
      refine Ct 9 15 767 rfl (fun _ _=>(R.fieldB k zBe)) ?_
      refine Cx [8] ⟨en,(ac.trans az),(S.pk [0])⟩ (all1 ?_)
      refine Nx 15 1023 rfl<|W.call S rfl (zAC S.holds (hG.post S.post) b.fFields c aa) ?_
      rintro eo hh ce cf S ep
      have ⟨d,j,af,c4,c⟩:=U5 cf d j af c4 c
      refine We ?_
      refine Cx [10] ⟨ce,((ac.trans az).trans cf),(S.pk [0])⟩ (all1 ?_)
      refine Nx 15 2047 rfl ?_
      refine W.storeSl (α:=Str) (i:=1) [(.slice none 0 0),am,p,(str b.fReason),o,(str b.fBody),(int b.fRequested),(int b.fReceived)] S af rfl rfl rfl lay45 (Nat.le_of_ble_eq_true rfl) rfl ?_
      intro hi S
      refine We ?_
      refine Ct 11 15 4095 rfl (fun _ _=>(R.fieldB k zBd)) ?_
      refine Cx [12] ⟨ce,((ac.trans az).trans cf),(S.pk [0])⟩ (all1 ?_)
      refine Nx 15 8191 rfl ?_
      refine W.storeSl (α:=Str) (i:=1) [(.slice none 0 0),am,dr,(str b.fReason),o,(str b.fBody),(int b.fRequested),(int b.fReceived)] S c4 rfl rfl rfl lay45 (Nat.le_of_ble_eq_true rfl) rfl ?_
      intro hj S
      refine We ?_
      refine Ct 13 15 16383 rfl (fun _ _=>(R.fieldB k zBW)) ?_
      refine Cx [14] ⟨ce,((ac.trans az).trans cf),(S.pk [0])⟩ (all1 ?_)
      refine Nx 15 32767 rfl ?_
      refine W.storeSl (α:=GField) (i:=1) [(.slice none 0 0),am,dr,(str b.fReason),eo,(str b.fBody),(int b.fRequested),(int b.fReceived)] S ep rfl rfl rfl lay22 (Nat.le_of_ble_eq_true rfl) rfl ?_
      intro hk S
      refine We<|WC.done ⟨ce,((ac.trans az).trans cf),(S.pk [0])⟩ kr ?_
      exact ⟨ce,am,dr,eo,k,x,af,c4,ep,S⟩
     refine Nx 15 223 rfl ?_
     refine Lo 1 S<|We ?_
     refine Ct 9 15 735 rfl (fun _ _=>(R.fieldB k zBe)) ?_
     refine Cx [5] ⟨em,ac,(S.pk [0])⟩ (all1 ?_)
     refine Nx 15 767 rfl<|W.call S rfl (zAA S.holds (hG.post S.post) b.fSnapshot d z) ?_
     rintro ds hl fr bf S c5
     have ⟨d,j,af,c⟩:=U4 bf d j af c
     refine We ?_
     refine Cx [8] ⟨fr,(ac.trans bf),(S.pk [0])⟩ (all1 ?_)
     refine Nx 15 1023 rfl<|W.call S rfl (zAC S.holds (hG.post S.post) b.fFields c aa) ?_
     rintro eq hm cg ch S er
     have ⟨d,j,af,c,c5⟩:=U5 ch d j af c c5
     refine We ?_
     refine Cx [10] ⟨cg,((ac.trans bf).trans ch),(S.pk [0])⟩ (all1 ?_)
     refine Nx 15 2047 rfl ?_
     refine W.storeSl (α:=Str) (i:=1) [(.slice none 0 0),am,p,(str b.fReason),o,(str b.fBody),(int b.fRequested),(int b.fReceived)] S af rfl rfl rfl lay45 (Nat.le_of_ble_eq_true rfl) rfl ?_
     intro hn S
     refine We ?_
     refine Ct 11 15 4095 rfl (fun _ _=>(R.fieldB k zBd)) ?_
     refine Cx [12] ⟨cg,((ac.trans bf).trans ch),(S.pk [0])⟩ (all1 ?_)
     refine Nx 15 8191 rfl ?_
     refine W.storeSl (α:=Str) (i:=1) [(.slice none 0 0),am,ds,(str b.fReason),o,(str b.fBody),(int b.fRequested),(int b.fReceived)] S c5 rfl rfl rfl lay45 (Nat.le_of_ble_eq_true rfl) rfl ?_
     intro ho S
     refine We ?_
     refine Ct 13 15 16383 rfl (fun _ _=>(R.fieldB k zBW)) ?_
     refine Cx [14] ⟨cg,((ac.trans bf).trans ch),(S.pk [0])⟩ (all1 ?_)
     refine Nx 15 32767 rfl ?_
     refine W.storeSl (α:=GField) (i:=1) [(.slice none 0 0),am,ds,(str b.fReason),eq,(str b.fBody),(int b.fRequested),(int b.fReceived)] S er rfl rfl rfl lay22 (Nat.le_of_ble_eq_true rfl) rfl ?_
     intro hp S
     refine We<|WC.done ⟨cg,((ac.trans bf).trans ch),(S.pk [0])⟩ kr ?_
     exact ⟨cg,am,ds,eq,k,x,af,c5,er,S⟩
    refine Nx 15 219 rfl ?_
    refine Lo 1 S<|We ?_
    refine Cx [2] ⟨q,lr,(S.pk [0])⟩ (all1 ?_)
    refine Nx 15 223 rfl<|W.call S rfl (zAA S.holds (hG.post S.post) b.fVary j ai) ?_
    rintro c6 hq fs a0 S bg
    have ⟨d,j,c⟩:=U3 a0 d j c
    refine We ?_
    refine Ct 9 15 735 rfl (fun _ _=>(R.fieldB k zBe)) ?_
    refine Cx [5] ⟨fs,a0,(S.pk [0])⟩ (all1 ?_)
    refine Nx 15 767 rfl<|W.call S rfl (zAA S.holds (hG.post S.post) b.fSnapshot d z) ?_
    rintro dt hr ft bh S c7
    have ⟨d,j,c,bg⟩:=U4 bh d j c bg
    refine We ?_
    refine Cx [8] ⟨ft,(a0.trans bh),(S.pk [0])⟩ (all1 ?_)
    refine Nx 15 1023 rfl<|W.call S rfl (zAC S.holds (hG.post S.post) b.fFields c aa) ?_
    rintro es hs ci cj S et
    have ⟨d,j,c,bg,c7⟩:=U5 cj d j c bg c7
    refine We ?_
    refine Cx [10] ⟨ci,((a0.trans bh).trans cj),(S.pk [0])⟩ (all1 ?_)
    refine Nx 15 2047 rfl ?_
    refine W.storeSl (α:=Str) (i:=1) [(.slice none 0 0),c6,p,(str b.fReason),o,(str b.fBody),(int b.fRequested),(int b.fReceived)] S bg rfl rfl rfl lay45 (Nat.le_of_ble_eq_true rfl) rfl ?_
    intro ht S
    refine We ?_
    refine Ct 11 15 4095 rfl (fun _ _=>(R.fieldB k zBd)) ?_
    refine Cx [12] ⟨ci,((a0.trans bh).trans cj),(S.pk [0])⟩ (all1 ?_)
    refine Nx 15 8191 rfl ?_
    refine W.storeSl (α:=Str) (i:=1) [(.slice none 0 0),c6,dt,(str b.fReason),o,(str b.fBody),(int b.fRequested),(int b.fReceived)] S c7 rfl rfl rfl lay45 (Nat.le_of_ble_eq_true rfl) rfl ?_
    intro hu S
    refine We ?_
    refine Ct 13 15 16383 rfl (fun _ _=>(R.fieldB k zBW)) ?_
    refine Cx [14] ⟨ci,((a0.trans bh).trans cj),(S.pk [0])⟩ (all1 ?_)
    refine Nx 15 32767 rfl ?_
    refine W.storeSl (α:=GField) (i:=1) [(.slice none 0 0),c6,dt,(str b.fReason),es,(str b.fBody),(int b.fRequested),(int b.fReceived)] S et rfl rfl rfl lay22 (Nat.le_of_ble_eq_true rfl) rfl ?_
    intro hv S
    refine We<|WC.done ⟨ci,((a0.trans bh).trans cj),(S.pk [0])⟩ kr ?_
    exact ⟨ci,c6,dt,es,k,x,bg,c7,et,S⟩
   refine Nx 15 217 rfl ?_
   refine Lo 1 S<|We ?_
   refine Cx [1] ⟨q,lr,(S.pk [0])⟩ (all1 ?_)
   refine Nx 15 219 rfl ?_
   refine Lo 1 S<|We ?_
   refine Cx [2] ⟨q,lr,(S.pk [0])⟩ (all1 ?_)
   refine Nx 15 223 rfl<|W.call S rfl (zAA S.holds (hG.post S.post) b.fVary j ai) ?_
   rintro c8 hx fu a1 S bi
   have ⟨d,c,j⟩:=U3 a1 d c j
   refine We ?_
   refine Ct 9 15 735 rfl (fun _ _=>(R.fieldB k zBe)) ?_
   refine Cx [5] ⟨fu,a1,(S.pk [0])⟩ (all1 ?_)
   refine Nx 15 767 rfl<|W.call S rfl (zAA S.holds (hG.post S.post) b.fSnapshot d z) ?_
   rintro du hy fv bj S c9
   have ⟨d,c,j,bi⟩:=U4 bj d c j bi
   refine We ?_
   refine Cx [8] ⟨fv,(a1.trans bj),(S.pk [0])⟩ (all1 ?_)
   refine Nx 15 1023 rfl<|W.call S rfl (zAC S.holds (hG.post S.post) b.fFields c aa) ?_
   rintro eu hz ck cl S ew
   have ⟨d,c,j,bi,c9⟩:=U5 cl d c j bi c9
   refine We ?_
   refine Cx [10] ⟨ck,((a1.trans bj).trans cl),(S.pk [0])⟩ (all1 ?_)
   refine Nx 15 2047 rfl ?_
   refine W.storeSl (α:=Str) (i:=1) [(.slice none 0 0),c8,p,(str b.fReason),o,(str b.fBody),(int b.fRequested),(int b.fReceived)] S bi rfl rfl rfl lay45 (Nat.le_of_ble_eq_true rfl) rfl ?_
   intro h0 S
   refine We ?_
   refine Ct 11 15 4095 rfl (fun _ _=>(R.fieldB k zBd)) ?_
   refine Cx [12] ⟨ck,((a1.trans bj).trans cl),(S.pk [0])⟩ (all1 ?_)
   refine Nx 15 8191 rfl ?_
   refine W.storeSl (α:=Str) (i:=1) [(.slice none 0 0),c8,du,(str b.fReason),o,(str b.fBody),(int b.fRequested),(int b.fReceived)] S c9 rfl rfl rfl lay45 (Nat.le_of_ble_eq_true rfl) rfl ?_
   intro h1 S
   refine We ?_
   refine Ct 13 15 16383 rfl (fun _ _=>(R.fieldB k zBW)) ?_
   refine Cx [14] ⟨ck,((a1.trans bj).trans cl),(S.pk [0])⟩ (all1 ?_)
   refine Nx 15 32767 rfl ?_
   refine W.storeSl (α:=GField) (i:=1) [(.slice none 0 0),c8,du,(str b.fReason),eu,(str b.fBody),(int b.fRequested),(int b.fReceived)] S ew rfl rfl rfl lay22 (Nat.le_of_ble_eq_true rfl) rfl ?_
   intro h2 S
   refine We<|WC.done ⟨ck,((a1.trans bj).trans cl),(S.pk [0])⟩ kr ?_
   exact ⟨ck,c8,du,eu,k,x,bi,c9,ew,S⟩
  refine Nx 15 201 rfl ?_
  refine Lo 1 S<|We ?_
  refine Cx [1,4] ⟨q,lr,(S.pk [0])⟩ (allS ?_ (all1 ?_))
  ·refine Nx 15 203 rfl ?_
   refine Lo 1 S<|We ?_
   refine Cx [2,4] ⟨q,lr,(S.pk [0])⟩ (allS ?_ (all1 ?_))
   ·refine Nx 15 207 rfl<|W.call S rfl (zAA S.holds (hG.post S.post) b.fVary j ai) ?_
    rintro da h3 ex an S bk
    have ⟨c,j,d⟩:=U3 an c j d
    refine We ?_
    refine Cx [4] ⟨ex,an,(S.pk [0])⟩ (all1 ?_)
    refine Nx 15 223 rfl ?_
    refine Lo 1 S<|We ?_
    refine Ct 9 15 735 rfl (fun _ _=>(R.fieldB k zBe)) ?_
    refine Cx [5] ⟨ex,an,(S.pk [0])⟩ (all1 ?_)
    refine Nx 15 767 rfl<|W.call S rfl (zAA S.holds (hG.post S.post) b.fSnapshot d z) ?_
    rintro dv h4 fw bn S db
    have ⟨c,j,bk,d⟩:=U4 bn c j bk d
    refine We ?_
    refine Cx [8] ⟨fw,(an.trans bn),(S.pk [0])⟩ (all1 ?_)
    refine Nx 15 1023 rfl<|W.call S rfl (zAC S.holds (hG.post S.post) b.fFields c aa) ?_
    rintro ey h5 cm cn S ez
    have ⟨c,j,bk,d,db⟩:=U5 cn c j bk d db
    refine We ?_
    refine Cx [10] ⟨cm,((an.trans bn).trans cn),(S.pk [0])⟩ (all1 ?_)
    refine Nx 15 2047 rfl ?_
    refine W.storeSl (α:=Str) (i:=1) [(.slice none 0 0),da,p,(str b.fReason),o,(str b.fBody),(int b.fRequested),(int b.fReceived)] S bk rfl rfl rfl lay45 (Nat.le_of_ble_eq_true rfl) rfl ?_
    intro h6 S
    refine We ?_
    refine Ct 11 15 4095 rfl (fun _ _=>(R.fieldB k zBd)) ?_
    refine Cx [12] ⟨cm,((an.trans bn).trans cn),(S.pk [0])⟩ (all1 ?_)
    refine Nx 15 8191 rfl ?_
    refine W.storeSl (α:=Str) (i:=1) [(.slice none 0 0),da,dv,(str b.fReason),o,(str b.fBody),(int b.fRequested),(int b.fReceived)] S db rfl rfl rfl lay45 (Nat.le_of_ble_eq_true rfl) rfl ?_
    intro ia S
    refine We ?_
    refine Ct 13 15 16383 rfl (fun _ _=>(R.fieldB k zBW)) ?_
    refine Cx [14] ⟨cm,((an.trans bn).trans cn),(S.pk [0])⟩ (all1 ?_)
    refine Nx 15 32767 rfl ?_
    refine W.storeSl (α:=GField) (i:=1) [(.slice none 0 0),da,dv,(str b.fReason),ey,(str b.fBody),(int b.fRequested),(int b.fReceived)] S ez rfl rfl rfl lay22 (Nat.le_of_ble_eq_true rfl) rfl ?_
    intro ib S
    refine We<|WC.done ⟨cm,((an.trans bn).trans cn),(S.pk [0])⟩ kr ?_
    exact ⟨cm,da,dv,ey,k,x,bk,db,ez,S⟩
   refine Nx 15 219 rfl ?_
   refine Lo 1 S<|We ?_
   refine Cx [2] ⟨q,lr,(S.pk [0])⟩ (all1 ?_)
   refine Nx 15 223 rfl<|W.call S rfl (zAA S.holds (hG.post S.post) b.fVary j ai) ?_
   rintro dc ic fx a2 S bo
   have ⟨c,j,d⟩:=U3 a2 c j d
   refine We ?_
   refine Ct 9 15 735 rfl (fun _ _=>(R.fieldB k zBe)) ?_
   refine Cx [5] ⟨fx,a2,(S.pk [0])⟩ (all1 ?_)
   refine Nx 15 767 rfl<|W.call S rfl (zAA S.holds (hG.post S.post) b.fSnapshot d z) ?_
   rintro dw id fy bp S dd
   have ⟨c,j,d,bo⟩:=U4 bp c j d bo
   refine We ?_
   refine Cx [8] ⟨fy,(a2.trans bp),(S.pk [0])⟩ (all1 ?_)
   refine Nx 15 1023 rfl<|W.call S rfl (zAC S.holds (hG.post S.post) b.fFields c aa) ?_
   rintro e0 ie co cp S e1
   have ⟨c,j,d,bo,dd⟩:=U5 cp c j d bo dd
   refine We ?_
   refine Cx [10] ⟨co,((a2.trans bp).trans cp),(S.pk [0])⟩ (all1 ?_)
   refine Nx 15 2047 rfl ?_
   refine W.storeSl (α:=Str) (i:=1) [(.slice none 0 0),dc,p,(str b.fReason),o,(str b.fBody),(int b.fRequested),(int b.fReceived)] S bo rfl rfl rfl lay45 (Nat.le_of_ble_eq_true rfl) rfl ?_
   intro ig S
   refine We ?_
   refine Ct 11 15 4095 rfl (fun _ _=>(R.fieldB k zBd)) ?_
   refine Cx [12] ⟨co,((a2.trans bp).trans cp),(S.pk [0])⟩ (all1 ?_)
   refine Nx 15 8191 rfl ?_
   refine W.storeSl (α:=Str) (i:=1) [(.slice none 0 0),dc,dw,(str b.fReason),o,(str b.fBody),(int b.fRequested),(int b.fReceived)] S dd rfl rfl rfl lay45 (Nat.le_of_ble_eq_true rfl) rfl ?_
   intro ih S
   refine We ?_
   refine Ct 13 15 16383 rfl (fun _ _=>(R.fieldB k zBW)) ?_
   refine Cx [14] ⟨co,((a2.trans bp).trans cp),(S.pk [0])⟩ (all1 ?_)
   refine Nx 15 32767 rfl ?_
   refine W.storeSl (α:=GField) (i:=1) [(.slice none 0 0),dc,dw,(str b.fReason),e0,(str b.fBody),(int b.fRequested),(int b.fReceived)] S e1 rfl rfl rfl lay22 (Nat.le_of_ble_eq_true rfl) rfl ?_
   intro ii S
   refine We<|WC.done ⟨co,((a2.trans bp).trans cp),(S.pk [0])⟩ kr ?_
   exact ⟨co,dc,dw,e0,k,x,bo,dd,e1,S⟩
  refine Nx 15 217 rfl ?_
  refine Lo 1 S<|We ?_
  refine Cx [1] ⟨q,lr,(S.pk [0])⟩ (all1 ?_)
  refine Nx 15 219 rfl ?_
  refine Lo 1 S<|We ?_
  refine Cx [2] ⟨q,lr,(S.pk [0])⟩ (all1 ?_)
  refine Nx 15 223 rfl<|W.call S rfl (zAA S.holds (hG.post S.post) b.fVary j ai) ?_
  rintro de ij fz a3 S bq
  have ⟨c,d⟩:=U2 a3 c d
  refine We ?_
  refine Ct 9 15 735 rfl (fun _ _=>(R.fieldB k zBe)) ?_
  refine Cx [5] ⟨fz,a3,(S.pk [0])⟩ (all1 ?_)
  refine Nx 15 767 rfl<|W.call S rfl (zAA S.holds (hG.post S.post) b.fSnapshot d z) ?_
  rintro dx ik f0 br S df
  have ⟨c,bq⟩:=U2 br c bq
  refine We ?_
  refine Cx [8] ⟨f0,(a3.trans br),(S.pk [0])⟩ (all1 ?_)
  refine Nx 15 1023 rfl<|W.call S rfl (zAC S.holds (hG.post S.post) b.fFields c aa) ?_
  rintro e2 il cq cr S e3
  have ⟨bq,df⟩:=U2 cr bq df
  refine We ?_
  refine Cx [10] ⟨cq,((a3.trans br).trans cr),(S.pk [0])⟩ (all1 ?_)
  refine Nx 15 2047 rfl ?_
  refine W.storeSl (α:=Str) (i:=1) [(.slice none 0 0),de,p,(str b.fReason),o,(str b.fBody),(int b.fRequested),(int b.fReceived)] S bq rfl rfl rfl lay45 (Nat.le_of_ble_eq_true rfl) rfl ?_
  intro im S
  refine We ?_
  refine Ct 11 15 4095 rfl (fun _ _=>(R.fieldB k zBd)) ?_
  refine Cx [12] ⟨cq,((a3.trans br).trans cr),(S.pk [0])⟩ (all1 ?_)
  refine Nx 15 8191 rfl ?_
  refine W.storeSl (α:=Str) (i:=1) [(.slice none 0 0),de,dx,(str b.fReason),o,(str b.fBody),(int b.fRequested),(int b.fReceived)] S df rfl rfl rfl lay45 (Nat.le_of_ble_eq_true rfl) rfl ?_
  intro io S
  refine We ?_
  refine Ct 13 15 16383 rfl (fun _ _=>(R.fieldB k zBW)) ?_
  refine Cx [14] ⟨cq,((a3.trans br).trans cr),(S.pk [0])⟩ (all1 ?_)
  refine Nx 15 32767 rfl ?_
  refine W.storeSl (α:=GField) (i:=1) [(.slice none 0 0),de,dx,(str b.fReason),e2,(str b.fBody),(int b.fRequested),(int b.fReceived)] S e3 rfl rfl rfl lay22 (Nat.le_of_ble_eq_true rfl) rfl ?_
  intro ip S
  refine We<|WC.done ⟨cq,((a3.trans br).trans cr),(S.pk [0])⟩ kr ?_
  exact ⟨cq,de,dx,e2,k,x,bq,df,e3,S⟩
 rintro f w ⟨bt,aq,ar,au,f1,e4,e5,e6,e7,S⟩
 refine Ws<|Wg ?_
 refine WL.w (R.loadBN (i:=1) (vs:=[(.slice none 0 0),aq,ar,(str b.fReason),au,(str b.fBody),(int b.fRequested),(int b.fReceived)]) S f1 rfl lay92 rfl rfl) ?_
 refine W.store (i:=0) [(.slice none 0 0),aq,ar,(str b.fReason),au,(str b.fBody),(int b.fRequested),(int b.fReceived)] S e4 rfl rfl lay92 rfl (AllOne.all (l:=[(.slice none 0 0),aq,ar,(str b.fReason),au,(str b.fBody),(int b.fRequested),(int b.fReceived)]) (.cons rfl (.cons (Sl.oneC e5) (.cons (Sl.oneC e6) (.cons rfl (.cons (Sl.oneC e7) (.cons rfl (.cons rfl (.cons rfl .nil))))))))) (Nat.le_of_ble_eq_true rfl) rfl ?_
 intro iq S
 refine We ?_
 obtain rfl:=oi h
 refine WP.ret (Out.one rfl S (Res.cellB (i:=0) (cs:=[(.slice none 0 0),aq,ar,(str b.fReason),au,(str b.fBody),(int b.fRequested),(int b.fReceived)]) S e4 rfl lay92 rfl rfl) ?_)
 exact ⟨_,_,_,_,rfl,Sl.nil,e5,e6,e7⟩
end Go.Proofs

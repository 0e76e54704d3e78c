/- A part of the proof of laws of the seat: written by program over the translation. -/
import Derived.Test.YtljjaiijlaeoeaaGreatDoorEng38
import Derived.Test.YtljjaiijlaeoeaaGreatDoorEng36
import Derived.Test.YtljjaiijlaeoeaaGreatDoorGenP6
namespace Go.Proofs
set_option maxHeartbeats 4000000
set_option maxRecDepth 10000
open Go.Eng Go.Eng.Pure
set_option linter.unusedVariables false
theorem zAw {w0:World} {H0:Hp} (hw:Holds w0 H0) (hG:Tryz.Gl w0) (ay:(List GField)) {bh:Value} (b3:Sl (α:=GField) H0 bh ay) {r:GControl} (h:zAV ay=some r) :
  Con Tryz.prog 120 [bh] w0 H0 (fun H' v=>v=(agg [(boo r.fNoStore),(boo r.fNoCache),(boo r.fMustRevalidate),(boo r.fProxyRevalidate),(boo r.fPrivate),(boo r.fPublic),(boo r.fOnlyIfCached),(int r.fMaxAge),(int r.fSMaxAge),(int r.fMinFresh),(int r.fMaxStale)])):=by
 refine Con.mk (N:=141) Tryz.func120 rfl rfl kr rfl ?_
 have S:=St.start hw
 refine Ws<|Wg ?_
 refine W.alloc [(boo false),(boo false),(boo false),(boo false),(boo false),(boo false),(boo false),(int 0),(int 0),(int 0),(int 0)] S zJ5 ?_
 intro p w2 S
 refine We<|Ws<|Wg<|M<|B h fun k b4 h=>W.call S rfl (zF6 S.holds (hG.post S.post) ay [67,97,99,104,101,45,67,111,110,116,114,111,108] b3 b4) ?_
 rintro v4 w5 H6 dg S R8
 refine A<|We<|Ws<|Wg<|W.makeMap S ?_
 intro q dh S
 refine A<|We<|Ws<|Ws<|Wg<|M<|Nq R8<|M<|We<|B h fun l b6 h=>WP.cut (fun f w=>∃ (az:Hp),f 2=(ptr p 0)∧f 3=v4∧f 4=(mapv q)∧Sl (α:=Str) az v4 k∧St w0 H0 w az [.mp q (encm (fun x:Gcachecontrol_directive=>(agg [(int x.fform),(str x.fvalue)])) l),.box p 164 [(boo false),(boo false),(boo false),(boo false),(boo false),(boo false),(boo false),(int 0),(int 0),(int 0),(int 0)]]) ?_ ?_
 ·refine Wb ?_
  refine WP.loopM (zAx k) (fun s f w=>match s with | (bi,ap)=>∃ (aq:Hp),f 2=(ptr p 0)∧f 3=v4∧f 4=(mapv q)∧f 33=v4∧f 34=(int (k.length:Int))∧f 35=(int bi)∧Sl (α:=Str) aq v4 k∧St w0 H0 w aq [.mp q (encm (fun x:Gcachecontrol_directive=>(agg [(int x.fform),(str x.fvalue)])) ap),.box p 164 [(boo false),(boo false),(boo false),(boo false),(boo false),(boo false),(boo false),(int 0),(int 0),(int 0),(int 0)]]) (0,([]:List (Str×Gcachecontrol_directive))) l (lfW b6) ?_ ?_
  ·exact ⟨H6,rfl,rfl,rfl,rfl,rfl,rfl,R8,S⟩
  intro s f w hI di o b7
  obtain ⟨bi,ap⟩:=s
  obtain ⟨aq,bj,bk,ar,bn,bo,a0,R8,S⟩:=hI
  refine Ws<|Wg<|La' a0 bo<|We<|Ws ?_
  rcases condE o with ⟨a1,o⟩ | ⟨a1,o⟩
  ·refine CT a1<|Wk<|Ws<|Wb<|Ws<|Wg<|B o fun b8 b9 o=>W.idx (α:=Str) R8 bn a0 el45 b9 ?_
   rintro dj _ ca rfl
   refine Lq S ca<|A<|We<|Ws<|Wg<|M<|B o fun am cb o=>W.call S rfl (zHi S.holds (hG.post S.post) b8 cb) ?_
   rintro dk dl cc cd S rfl
   have R8:=Sl.mono R8 cd
   refine M ?_
   refine Ex ?_
   refine Ex ?_
   refine W.alloc [(int 0),(str [])] S zGL ?_
   intro dm dn S
   refine A ?_
   refine W.store (i:=0) [(int am.2.fform),(str am.2.fvalue)] S rfl rfl rfl zDr rfl rfl (Nat.le_of_ble_eq_true rfl) rfl ?_
   intro dp S
   refine We<|Ws<|Wg<|M' ar<|M<|B o fun g42 ce o=>?_
   refine WL.w (v:=.tuple ⟨[(agg [(int g42.1.fform),(str g42.1.fvalue)]),(boo g42.2)]⟩) (R.ofEq (R.lookup (fun x:Gcachecontrol_directive=>(agg [(int x.fform),(str x.fvalue)])) (i:=1) (m:=ap) (z:=(⟨0,[]⟩:Gcachecontrol_directive)) S rfl rfl rfl Tryz.underlying256 Tryz.underlying9 mz258 rfl) (by rw [oi ce]))<|M ?_
   refine Ex ?_
   refine Ex ?_
   refine W.alloc [(int 0),(str [])] S zGL ?_
   intro dq dr S
   refine W.store (i:=0) [(int g42.1.fform),(str g42.1.fvalue)] S rfl rfl rfl zDr rfl rfl (Nat.le_of_ble_eq_true rfl) rfl ?_
   intro ds S
   refine A<|We<|Ws<|Wg<|M<|No<|M ?_
   refine WL.grp 3 [53,54] 55 (boo ((!g42.2)&&(am.1 !=[]))) ?_ ?_
   ·rcases boolE (!g42.2) with af | af
    ·refine Gy af<|M<|Gy af<|Nb<|Pt af ?_
     exact We ⟨(andT af),ag,rfl⟩
    refine Gn af<|Gn af<|Pf af ?_
    exact We ⟨(andF af),ag,rfl⟩
   intro us
   refine We ?_
   rcases condE o with ⟨a2,o⟩ | ⟨a2,o⟩
   ·refine CT a2<|Wg<|M' ar<|M ?_
    refine WL.w (R.loadBN (i:=1) (vs:=[(int am.2.fform),(str am.2.fvalue)]) S rfl rfl zDr rfl rfl)<|W.mapUpdate (fun x:Gcachecontrol_directive=>(agg [(int x.fform),(str x.fvalue)])) (i:=2) (m:=ap) am.2 S rfl rfl rfl rfl rfl Tryz.underlying256 Tryz.underlying9 ?_
    intro dt S
    refine We<|Wg<|Lg' a0 rfl<|M<|We ?_
    obtain rfl:=oi o
    exact ⟨rfl,⟨cc,bj,bk,ar,bn,bo,rfl,R8,(S.drop _ (.cons _ (.cons _ (.cons_cons _ (.cons_cons _ .slnil)))))⟩⟩
   refine CF a2 ?_
   cases o
  refine CF a1<|Wx ?_
  obtain rfl:=oi o
  obtain rfl:=b7
  exact ⟨aq,bj,bk,ar,R8,S⟩
 rintro f w ⟨az,bp,cf,ab,R8,S⟩
 refine Ws<|Wg<|M' ab<|B h fun g50 cg h=>?_
 refine WL.w (v:=.tuple ⟨[(agg [(int g50.1.fform),(str g50.1.fvalue)]),(boo g50.2)]⟩) (R.ofEq (R.lookup (fun x:Gcachecontrol_directive=>(agg [(int x.fform),(str x.fvalue)])) (i:=0) (m:=l) (z:=(⟨0,[]⟩:Gcachecontrol_directive)) S rfl rfl rfl Tryz.underlying256 Tryz.underlying9 mz258 rfl) (by rw [oi cg]))<|M ?_
 refine Ex ?_
 refine Ex ?_
 refine W.alloc [(int 0),(str [])] S zGL ?_
 intro du dv S
 refine W.store (i:=0) [(int g50.1.fform),(str g50.1.fvalue)] S rfl rfl rfl zDr rfl rfl (Nat.le_of_ble_eq_true rfl) rfl ?_
 intro dw S
 refine A<|We<|Ws<|Wg<|M' ab<|B h fun g54 ch h=>?_
 refine WL.w (v:=.tuple ⟨[(agg [(int g54.1.fform),(str g54.1.fvalue)]),(boo g54.2)]⟩) (R.ofEq (R.lookup (fun x:Gcachecontrol_directive=>(agg [(int x.fform),(str x.fvalue)])) (i:=1) (m:=l) (z:=(⟨0,[]⟩:Gcachecontrol_directive)) S rfl rfl rfl Tryz.underlying256 Tryz.underlying9 mz258 rfl) (by rw [oi ch]))<|M ?_
 refine Ex ?_
 refine Ex ?_
 refine W.alloc [(int 0),(str [])] S zGL ?_
 intro dx dy S
 refine W.store (i:=0) [(int g54.1.fform),(str g54.1.fvalue)] S rfl rfl rfl zDr rfl rfl (Nat.le_of_ble_eq_true rfl) rfl ?_
 intro dz S
 refine A<|We<|Ws<|Wg<|M' ab<|B h fun g58 ci h=>?_
 refine WL.w (v:=.tuple ⟨[(agg [(int g58.1.fform),(str g58.1.fvalue)]),(boo g58.2)]⟩) (R.ofEq (R.lookup (fun x:Gcachecontrol_directive=>(agg [(int x.fform),(str x.fvalue)])) (i:=2) (m:=l) (z:=(⟨0,[]⟩:Gcachecontrol_directive)) S rfl rfl rfl Tryz.underlying256 Tryz.underlying9 mz258 rfl) (by rw [oi ci]))<|M ?_
 refine Ex ?_
 refine Ex ?_
 refine W.alloc [(int 0),(str [])] S zGL ?_
 intro d0 d1 S
 refine W.store (i:=0) [(int g58.1.fform),(str g58.1.fvalue)] S rfl rfl rfl zDr rfl rfl (Nat.le_of_ble_eq_true rfl) rfl ?_
 intro d2 S
 refine A<|We<|Ws<|Wg<|M' ab<|B h fun g62 cj h=>?_
 refine WL.w (v:=.tuple ⟨[(agg [(int g62.1.fform),(str g62.1.fvalue)]),(boo g62.2)]⟩) (R.ofEq (R.lookup (fun x:Gcachecontrol_directive=>(agg [(int x.fform),(str x.fvalue)])) (i:=3) (m:=l) (z:=(⟨0,[]⟩:Gcachecontrol_directive)) S rfl rfl rfl Tryz.underlying256 Tryz.underlying9 mz258 rfl) (by rw [oi cj]))<|M ?_
 refine Ex ?_
 refine Ex ?_
 refine W.alloc [(int 0),(str [])] S zGL ?_
 intro d3 d4 S
 refine W.store (i:=0) [(int g62.1.fform),(str g62.1.fvalue)] S rfl rfl rfl zDr rfl rfl (Nat.le_of_ble_eq_true rfl) rfl ?_
 intro d5 S
 refine A<|We<|Ws<|Wg<|M' ab<|B h fun g66 ck h=>?_
 refine WL.w (v:=.tuple ⟨[(agg [(int g66.1.fform),(str g66.1.fvalue)]),(boo g66.2)]⟩) (R.ofEq (R.lookup (fun x:Gcachecontrol_directive=>(agg [(int x.fform),(str x.fvalue)])) (i:=4) (m:=l) (z:=(⟨0,[]⟩:Gcachecontrol_directive)) S rfl rfl rfl Tryz.underlying256 Tryz.underlying9 mz258 rfl) (by rw [oi ck]))<|M ?_
 refine Ex ?_
 refine Ex ?_
 refine W.alloc [(int 0),(str [])] S zGL ?_
 intro d6 d7 S
 refine W.store (i:=0) [(int g66.1.fform),(str g66.1.fvalue)] S rfl rfl rfl zDr rfl rfl (Nat.le_of_ble_eq_true rfl) rfl ?_
 intro d8 S
 refine A<|We<|Ws<|Wg<|M' ab<|B h fun g70 cl h=>?_
 refine WL.w (v:=.tuple ⟨[(agg [(int g70.1.fform),(str g70.1.fvalue)]),(boo g70.2)]⟩) (R.ofEq (R.lookup (fun x:Gcachecontrol_directive=>(agg [(int x.fform),(str x.fvalue)])) (i:=5) (m:=l) (z:=(⟨0,[]⟩:Gcachecontrol_directive)) S rfl rfl rfl Tryz.underlying256 Tryz.underlying9 mz258 rfl) (by rw [oi cl]))<|M ?_
 refine Ex ?_
 refine Ex ?_
 refine W.alloc [(int 0),(str [])] S zGL ?_
 intro d9 ea S
 refine W.store (i:=0) [(int g70.1.fform),(str g70.1.fvalue)] S rfl rfl rfl zDr rfl rfl (Nat.le_of_ble_eq_true rfl) rfl ?_
 intro eb S
 refine A<|We<|Ws<|Wg<|M' ab<|B h fun g74 cm h=>?_
 refine WL.w (v:=.tuple ⟨[(agg [(int g74.1.fform),(str g74.1.fvalue)]),(boo g74.2)]⟩) (R.ofEq (R.lookup (fun x:Gcachecontrol_directive=>(agg [(int x.fform),(str x.fvalue)])) (i:=6) (m:=l) (z:=(⟨0,[]⟩:Gcachecontrol_directive)) S rfl rfl rfl Tryz.underlying256 Tryz.underlying9 mz258 rfl) (by rw [oi cm]))<|M ?_
 refine Ex ?_
 refine Ex ?_
 refine W.alloc [(int 0),(str [])] S zGL ?_
 intro ec ed S
 refine W.store (i:=0) [(int g74.1.fform),(str g74.1.fvalue)] S rfl rfl rfl zDr rfl rfl (Nat.le_of_ble_eq_true rfl) rfl ?_
 intro ee S
 refine A<|We<|Ws<|Wg<|M<|M ?_
 refine WL.grp 4 [97,98,99] 100 (boo (g50.2||(decide (64≤(k.length:Int))))) ?_ ?_
 ·rcases boolE g50.2 with u | u
  ·refine Gn u<|Gn u<|Gn u<|Pt u ?_
   exact We ⟨(orT u),ag,rfl⟩
  refine Gy u<|M' cf<|Gy u<|Nq R8<|Gy u<|Ld<|Pf u ?_
  exact We ⟨(orF u),ag,rfl⟩
 intro us
 refine M<|M<|M<|M<|M<|M ?_
 refine WL.w (R.build [(0,(boo (g50.2||(decide (64≤(k.length:Int)))))),(1,(boo g54.2)),(2,(boo g58.2)),(3,(boo g62.2)),(4,(boo g66.2)),(5,(boo g70.2)),(6,(boo g74.2)),(7,(int (-1))),(8,(int (-1))),(9,(int (-1))),(10,(int (-1)))] [(boo (g50.2||(decide (64≤(k.length:Int))))),(boo g54.2),(boo g58.2),(boo g62.2),(boo g66.2),(boo g70.2),(boo g74.2),(int (-1)),(int (-1)),(int (-1)),(int (-1))] bp164 zJ5 kr kr) ?_
 refine W.alloc [(boo false),(boo false),(boo false),(boo false),(boo false),(boo false),(boo false),(int 0),(int 0),(int 0),(int 0)] S zJ5 ?_
 intro d ef S
 refine W.store (i:=0) [(boo (g50.2||(decide (64≤(k.length:Int))))),(boo g54.2),(boo g58.2),(boo g62.2),(boo g66.2),(boo g70.2),(boo g74.2),(int (-1)),(int (-1)),(int (-1)),(int (-1))] S rfl rfl rfl zHY rfl rfl (Nat.le_of_ble_eq_true rfl) rfl ?_
 intro eg S
 refine We<|Ws<|Ws<|Wg<|Fb ?_
 refine WL.w (R.build [(0,(str [109,97,120,45,97,103,101])),(1,(ptr d 7)),(2,(int 0)),(3,(int 0))] [(str [109,97,120,45,97,103,101]),(ptr d 7),(int 0),(int 0)] bp263 zJ2 rfl rfl)<|Fb ?_
 refine WL.w (R.build [(0,(str [115,45,109,97,120,97,103,101])),(1,(ptr d 8)),(2,(int 0)),(3,(int 0))] [(str [115,45,109,97,120,97,103,101]),(ptr d 8),(int 0),(int 0)] bp263 zJ2 rfl rfl)<|Fb ?_
 refine WL.w (R.build [(0,(str [109,105,110,45,102,114,101,115,104])),(1,(ptr d 9)),(2,(int 2147483647)),(3,(int 2147483647))] [(str [109,105,110,45,102,114,101,115,104]),(ptr d 9),(int 2147483647),(int 2147483647)] bp263 zJ2 rfl rfl)<|Fb ?_
 refine WL.w (R.build [(0,(str [109,97,120,45,115,116,97,108,101])),(1,(ptr d 10)),(2,(int 2147483647)),(3,(int 0))] [(str [109,97,120,45,115,116,97,108,101]),(ptr d 10),(int 2147483647),(int 0)] bp263 zJ2 rfl rfl) ?_
 refine W.bslice (α:=Raw 4) [(agg [(str [109,97,120,45,97,103,101]),(ptr d 7),(int 0),(int 0)]),(agg [(str [115,45,109,97,120,97,103,101]),(ptr d 8),(int 0),(int 0)]),(agg [(str [109,105,110,45,102,114,101,115,104]),(ptr d 9),(int 2147483647),(int 2147483647)]),(agg [(str [109,97,120,45,115,116,97,108,101]),(ptr d 10),(int 2147483647),(int 0)])] ([⟨[(str [109,97,120,45,97,103,101]),(ptr d 7),(int 0),(int 0)],rfl,rfl⟩,⟨[(str [115,45,109,97,120,97,103,101]),(ptr d 8),(int 0),(int 0)],rfl,rfl⟩,⟨[(str [109,105,110,45,102,114,101,115,104]),(ptr d 9),(int 2147483647),(int 2147483647)],rfl,rfl⟩,⟨[(str [109,97,120,45,115,116,97,108,101]),(ptr d 10),(int 2147483647),(int 0)],rfl,rfl⟩]:List (Raw 4)) S el264 rfl rfl rfl (by decide) (Go.Eng.encS ⟨rfl,rfl⟩ (Go.Eng.encS ⟨rfl,rfl⟩ (Go.Eng.encS ⟨rfl,rfl⟩ (Go.Eng.encS ⟨rfl,rfl⟩ enc0)))) ?_
 intro t eh bq ei j S
 refine WL.w (v:=int 4) (R.ofEq (R.lenL (α:=Raw 4) (xs:=([⟨[(str [109,97,120,45,97,103,101]),(ptr d 7),(int 0),(int 0)],rfl,rfl⟩,⟨[(str [115,45,109,97,120,97,103,101]),(ptr d 8),(int 0),(int 0)],rfl,rfl⟩,⟨[(str [109,105,110,45,102,114,101,115,104]),(ptr d 9),(int 2147483647),(int 2147483647)],rfl,rfl⟩,⟨[(str [109,97,120,45,115,116,97,108,101]),(ptr d 10),(int 2147483647),(int 0)],rfl,rfl⟩]:List (Raw 4))) (H:=bq) j rfl Tryz.underlying264) rfl)<|M<|We<|Wb<|WP.loopRd 5<|RD.succ<|Ws<|Wg ?_
 refine WL.w (v:=boo true) (R.ofEq (R.lss rfl rfl) rfl)<|We<|Ws<|WP.condT (b:=true) rfl rfl ?_
 refine Wk<|Ws<|B h fun ac ah h=>WP.cut (fun f w=>∃ (au:Hp),f 2=(ptr p 0)∧f 4=(mapv q)∧f 25=(ptr d 0)∧f 116=t∧f 117=(int 4)∧f 118=(int 0)∧Sl (α:=Raw 4) au t ([⟨[(str [109,97,120,45,97,103,101]),(ptr d 7),(int 0),(int 0)],rfl,rfl⟩,⟨[(str [115,45,109,97,120,97,103,101]),(ptr d 8),(int 0),(int 0)],rfl,rfl⟩,⟨[(str [109,105,110,45,102,114,101,115,104]),(ptr d 9),(int 2147483647),(int 2147483647)],rfl,rfl⟩,⟨[(str [109,97,120,45,115,116,97,108,101]),(ptr d 10),(int 2147483647),(int 0)],rfl,rfl⟩]:List (Raw 4))∧St w0 H0 w au [.row t 263 4 ([⟨[(str [109,97,120,45,97,103,101]),(ptr d 7),(int 0),(int 0)],rfl,rfl⟩,⟨[(str [115,45,109,97,120,97,103,101]),(ptr d 8),(int 0),(int 0)],rfl,rfl⟩,⟨[(str [109,105,110,45,102,114,101,115,104]),(ptr d 9),(int 2147483647),(int 2147483647)],rfl,rfl⟩,⟨[(str [109,97,120,45,115,116,97,108,101]),(ptr d 10),(int 2147483647),(int 0)],rfl,rfl⟩]:List (Raw 4)).length,.box d 164 [(boo (g50.2||(decide (64≤(k.length:Int))))),(boo g54.2),(boo g58.2),(boo g62.2),(boo g66.2),(boo g70.2),(boo g74.2),(int ac),(int (-1)),(int (-1)),(int (-1))],.mp q (encm (fun x:Gcachecontrol_directive=>(agg [(int x.fform),(str x.fvalue)])) l),.box p 164 [(boo false),(boo false),(boo false),(boo false),(boo false),(boo false),(boo false),(int 0),(int 0),(int 0),(int 0)]]) ?_ ?_
 ·refine Wb<|Ws<|Wg<|W.idx (α:=Raw 4) (c:=⟨[(str [109,97,120,45,97,103,101]),(ptr d 7),(int 0),(int 0)],rfl,rfl⟩) j rfl rfl el264 rfl ?_
  rintro ej _ cn rfl
  refine WL.w (R.loadHN (vs:=[(str [109,97,120,45,97,103,101]),(ptr d 7),(int 0),(int 0)]) S rfl cn zJi rfl rfl) ?_
  refine W.alloc [(str []),(.pointer none),(int 0),(int 0)] S zJ2 ?_
  intro ek el S
  refine W.store (i:=0) [(str [109,97,120,45,97,103,101]),(ptr d 7),(int 0),(int 0)] S rfl rfl rfl zJi rfl rfl (Nat.le_of_ble_eq_true rfl) rfl ?_
  intro em S
  refine We<|Ws<|Wg<|M' ab<|Fb ?_
  refine Lo 0 S<|B ah fun g103 co ah=>?_
  refine WL.w (v:=.tuple ⟨[(agg [(int g103.1.fform),(str g103.1.fvalue)]),(boo g103.2)]⟩) (R.ofEq (R.lookup (fun x:Gcachecontrol_directive=>(agg [(int x.fform),(str x.fvalue)])) (i:=10) (m:=l) (z:=(⟨0,[]⟩:Gcachecontrol_directive)) S rfl rfl rfl Tryz.underlying256 Tryz.underlying9 mz258 rfl) (by rw [oi co]))<|M ?_
  refine Ex ?_
  refine Ex ?_
  refine W.alloc [(int 0),(str [])] S zGL ?_
  intro en eo S
  refine W.store (i:=0) [(int g103.1.fform),(str g103.1.fvalue)] S rfl rfl rfl zDr rfl rfl (Nat.le_of_ble_eq_true rfl) rfl ?_
  intro ep S
  refine A<|We<|Ws<|Wg<|M<|We ?_
  rcases condE ah with ⟨a3,ah⟩ | ⟨a3,ah⟩
  ·refine CT a3<|WP.quietTail 9 S kr kr<|QFb ?_
   refine WQ.val (fun w hw=>by obtain ⟨_,hq,S⟩:=hw; exact (R.loadB (i:=1) (v:=ptr d 7) S rfl rfl zKv rfl)) ?_
   refine WQ.val (fun w hw=>by obtain ⟨_,hq,S⟩:=hw; exact (R.loadBN (i:=0) (vs:=[(int g103.1.fform),(str g103.1.fvalue)]) S rfl rfl zDr rfl rfl))<|QFb ?_
   refine WQ.val (fun w hw=>by obtain ⟨_,hq,S⟩:=hw; exact (R.loadB (i:=1) (v:=int 0) S rfl rfl lay3 rfl))<|QFb ?_
   refine WQ.val (fun w hw=>by obtain ⟨_,hq,S⟩:=hw; exact (R.loadB (i:=1) (v:=int 0) S rfl rfl lay3 rfl))<|B ah fun br cp ah=>WQ.call (v:=int br) rfl (fun w H' hq S=>zA9 S.holds (hG.post S.post) g103.1 0 0 cp)<|QNn<|WQ.nil ?_
   intro eq cq cr S
   have j:=Sl.mono j cr
   refine W.store (i:=3) [(boo (g50.2||(decide (64≤(k.length:Int))))),(boo g54.2),(boo g58.2),(boo g62.2),(boo g66.2),(boo g70.2),(boo g74.2),(int br),(int (-1)),(int (-1)),(int (-1))] S rfl rfl rfl lay3 rfl rfl (Nat.le_of_ble_eq_true rfl) rfl ?_
   intro er S
   refine We ?_
   obtain rfl:=oi ah
   exact ⟨cq,bp,ab,rfl,rfl,rfl,rfl,j,(S.drop _ (.cons _ (.cons _ (.cons_cons _ (.cons_cons _ (.cons _ (.cons _ (.cons _ (.cons _ (.cons _ (.cons _ (.cons _ (.cons_cons _ (.cons_cons _ .slnil))))))))))))))⟩
  refine CF a3<|Wk ?_
  obtain rfl:=oi ah
  exact ⟨bq,bp,ab,rfl,rfl,rfl,rfl,j,(S.drop _ (.cons _ (.cons _ (.cons_cons _ (.cons_cons _ (.cons _ (.cons _ (.cons _ (.cons _ (.cons _ (.cons _ (.cons _ (.cons_cons _ (.cons_cons _ .slnil))))))))))))))⟩
 rintro f w ⟨au,bs,a4,bt,a5,a6,ct,j,S⟩
 refine Wg ?_
 refine WL.w (v:=int 1) (R.ofEq (R.add ct rfl) rfl)<|M<|We<|RD.succ<|Ws<|Wg ?_
 refine WL.w (v:=boo true) (R.ofEq (R.lss rfl a6) rfl)<|We<|Ws<|WP.condT (b:=true) rfl rfl<|Wk ?_
 refine Ws<|B h fun al ai h=>WP.cut (fun f w=>∃ (av:Hp),f 2=(ptr p 0)∧f 4=(mapv q)∧f 25=(ptr d 0)∧f 116=t∧f 117=(int 4)∧f 118=(int 1)∧Sl (α:=Raw 4) av t ([⟨[(str [109,97,120,45,97,103,101]),(ptr d 7),(int 0),(int 0)],rfl,rfl⟩,⟨[(str [115,45,109,97,120,97,103,101]),(ptr d 8),(int 0),(int 0)],rfl,rfl⟩,⟨[(str [109,105,110,45,102,114,101,115,104]),(ptr d 9),(int 2147483647),(int 2147483647)],rfl,rfl⟩,⟨[(str [109,97,120,45,115,116,97,108,101]),(ptr d 10),(int 2147483647),(int 0)],rfl,rfl⟩]:List (Raw 4))∧St w0 H0 w av [.row t 263 4 ([⟨[(str [109,97,120,45,97,103,101]),(ptr d 7),(int 0),(int 0)],rfl,rfl⟩,⟨[(str [115,45,109,97,120,97,103,101]),(ptr d 8),(int 0),(int 0)],rfl,rfl⟩,⟨[(str [109,105,110,45,102,114,101,115,104]),(ptr d 9),(int 2147483647),(int 2147483647)],rfl,rfl⟩,⟨[(str [109,97,120,45,115,116,97,108,101]),(ptr d 10),(int 2147483647),(int 0)],rfl,rfl⟩]:List (Raw 4)).length,.box d 164 [(boo (g50.2||(decide (64≤(k.length:Int))))),(boo g54.2),(boo g58.2),(boo g62.2),(boo g66.2),(boo g70.2),(boo g74.2),(int ac),(int al),(int (-1)),(int (-1))],.mp q (encm (fun x:Gcachecontrol_directive=>(agg [(int x.fform),(str x.fvalue)])) l),.box p 164 [(boo false),(boo false),(boo false),(boo false),(boo false),(boo false),(boo false),(int 0),(int 0),(int 0),(int 0)]]) ?_ ?_
 ·refine Wb<|Ws<|Wg<|W.idx (α:=Raw 4) (c:=⟨[(str [115,45,109,97,120,97,103,101]),(ptr d 8),(int 0),(int 0)],rfl,rfl⟩) j a5 rfl el264 rfl ?_
  rintro es _ cu rfl
  refine WL.w (R.loadHN (vs:=[(str [115,45,109,97,120,97,103,101]),(ptr d 8),(int 0),(int 0)]) S rfl cu zJi rfl rfl) ?_
  refine W.alloc [(str []),(.pointer none),(int 0),(int 0)] S zJ2 ?_
  intro et eu S
  refine W.store (i:=0) [(str [115,45,109,97,120,97,103,101]),(ptr d 8),(int 0),(int 0)] S rfl rfl rfl zJi rfl rfl (Nat.le_of_ble_eq_true rfl) rfl ?_
  intro ew S
  refine We<|Ws<|Wg<|M' a4<|Fb ?_
  refine Lo 0 S<|B ai fun g132 cv ai=>?_
  refine WL.w (v:=.tuple ⟨[(agg [(int g132.1.fform),(str g132.1.fvalue)]),(boo g132.2)]⟩) (R.ofEq (R.lookup (fun x:Gcachecontrol_directive=>(agg [(int x.fform),(str x.fvalue)])) (i:=3) (m:=l) (z:=(⟨0,[]⟩:Gcachecontrol_directive)) S rfl rfl rfl Tryz.underlying256 Tryz.underlying9 mz258 rfl) (by rw [oi cv]))<|M ?_
  refine Ex ?_
  refine Ex ?_
  refine W.alloc [(int 0),(str [])] S zGL ?_
  intro ex ey S
  refine W.store (i:=0) [(int g132.1.fform),(str g132.1.fvalue)] S rfl rfl rfl zDr rfl rfl (Nat.le_of_ble_eq_true rfl) rfl ?_
  intro ez S
  refine A<|We<|Ws<|Wg<|M<|We ?_
  rcases condE ai with ⟨a7,ai⟩ | ⟨a7,ai⟩
  ·refine CT a7<|WP.quietTail 9 S kr kr<|QFb ?_
   refine WQ.val (fun w hw=>by obtain ⟨_,hq,S⟩:=hw; exact (R.loadB (i:=1) (v:=ptr d 8) S rfl rfl zKv rfl)) ?_
   refine WQ.val (fun w hw=>by obtain ⟨_,hq,S⟩:=hw; exact (R.loadBN (i:=0) (vs:=[(int g132.1.fform),(str g132.1.fvalue)]) S rfl rfl zDr rfl rfl))<|QFb ?_
   refine WQ.val (fun w hw=>by obtain ⟨_,hq,S⟩:=hw; exact (R.loadB (i:=1) (v:=int 0) S rfl rfl lay3 rfl))<|QFb ?_
   refine WQ.val (fun w hw=>by obtain ⟨_,hq,S⟩:=hw; exact (R.loadB (i:=1) (v:=int 0) S rfl rfl lay3 rfl))<|B ai fun bu cw ai=>WQ.call (v:=int bu) rfl (fun w H' hq S=>zA9 S.holds (hG.post S.post) g132.1 0 0 cw)<|QNn<|WQ.nil ?_
   intro e0 cx cy S
   have j:=Sl.mono j cy
   refine W.store (i:=3) [(boo (g50.2||(decide (64≤(k.length:Int))))),(boo g54.2),(boo g58.2),(boo g62.2),(boo g66.2),(boo g70.2),(boo g74.2),(int ac),(int bu),(int (-1)),(int (-1))] S rfl rfl rfl lay3 rfl rfl (Nat.le_of_ble_eq_true rfl) rfl ?_
   intro e1 S
   refine We ?_
   obtain rfl:=oi ai
   exact ⟨cx,bs,a4,bt,a5,a6,rfl,j,(S.drop _ (.cons _ (.cons _ (.cons_cons _ (.cons_cons _ (.cons_cons _ (.cons_cons _ .slnil)))))))⟩
  refine CF a7<|Wk ?_
  obtain rfl:=oi ai
  exact ⟨au,bs,a4,bt,a5,a6,rfl,j,(S.drop _ (.cons _ (.cons _ (.cons_cons _ (.cons_cons _ (.cons_cons _ (.cons_cons _ .slnil)))))))⟩
 rintro f w ⟨av,bv,a8,bw,a9,ba,cz,j,S⟩
 refine Wg ?_
 refine WL.w (v:=int 2) (R.ofEq (R.add cz rfl) rfl)<|M<|We<|RD.succ<|Ws<|Wg ?_
 refine WL.w (v:=boo true) (R.ofEq (R.lss rfl ba) rfl)<|We<|Ws<|WP.condT (b:=true) rfl rfl<|Wk ?_
 refine Ws<|B h fun an aj h=>WP.cut (fun f w=>∃ (aw:Hp),f 2=(ptr p 0)∧f 4=(mapv q)∧f 25=(ptr d 0)∧f 116=t∧f 117=(int 4)∧f 118=(int 2)∧Sl (α:=Raw 4) aw t ([⟨[(str [109,97,120,45,97,103,101]),(ptr d 7),(int 0),(int 0)],rfl,rfl⟩,⟨[(str [115,45,109,97,120,97,103,101]),(ptr d 8),(int 0),(int 0)],rfl,rfl⟩,⟨[(str [109,105,110,45,102,114,101,115,104]),(ptr d 9),(int 2147483647),(int 2147483647)],rfl,rfl⟩,⟨[(str [109,97,120,45,115,116,97,108,101]),(ptr d 10),(int 2147483647),(int 0)],rfl,rfl⟩]:List (Raw 4))∧St w0 H0 w aw [.row t 263 4 ([⟨[(str [109,97,120,45,97,103,101]),(ptr d 7),(int 0),(int 0)],rfl,rfl⟩,⟨[(str [115,45,109,97,120,97,103,101]),(ptr d 8),(int 0),(int 0)],rfl,rfl⟩,⟨[(str [109,105,110,45,102,114,101,115,104]),(ptr d 9),(int 2147483647),(int 2147483647)],rfl,rfl⟩,⟨[(str [109,97,120,45,115,116,97,108,101]),(ptr d 10),(int 2147483647),(int 0)],rfl,rfl⟩]:List (Raw 4)).length,.box d 164 [(boo (g50.2||(decide (64≤(k.length:Int))))),(boo g54.2),(boo g58.2),(boo g62.2),(boo g66.2),(boo g70.2),(boo g74.2),(int ac),(int al),(int an),(int (-1))],.mp q (encm (fun x:Gcachecontrol_directive=>(agg [(int x.fform),(str x.fvalue)])) l),.box p 164 [(boo false),(boo false),(boo false),(boo false),(boo false),(boo false),(boo false),(int 0),(int 0),(int 0),(int 0)]]) ?_ ?_
 ·refine Wb<|Ws<|Wg<|W.idx (α:=Raw 4) (c:=⟨[(str [109,105,110,45,102,114,101,115,104]),(ptr d 9),(int 2147483647),(int 2147483647)],rfl,rfl⟩) j a9 rfl el264 rfl ?_
  rintro e2 _ c0 rfl
  refine WL.w (R.loadHN (vs:=[(str [109,105,110,45,102,114,101,115,104]),(ptr d 9),(int 2147483647),(int 2147483647)]) S rfl c0 zJi rfl rfl) ?_
  refine W.alloc [(str []),(.pointer none),(int 0),(int 0)] S zJ2 ?_
  intro e3 e4 S
  refine W.store (i:=0) [(str [109,105,110,45,102,114,101,115,104]),(ptr d 9),(int 2147483647),(int 2147483647)] S rfl rfl rfl zJi rfl rfl (Nat.le_of_ble_eq_true rfl) rfl ?_
  intro e5 S
  refine We<|Ws<|Wg<|M' a8<|Fb ?_
  refine Lo 0 S<|B aj fun g161 c1 aj=>?_
  refine WL.w (v:=.tuple ⟨[(agg [(int g161.1.fform),(str g161.1.fvalue)]),(boo g161.2)]⟩) (R.ofEq (R.lookup (fun x:Gcachecontrol_directive=>(agg [(int x.fform),(str x.fvalue)])) (i:=3) (m:=l) (z:=(⟨0,[]⟩:Gcachecontrol_directive)) S rfl rfl rfl Tryz.underlying256 Tryz.underlying9 mz258 rfl) (by rw [oi c1]))<|M ?_
  refine Ex ?_
  refine Ex ?_
  refine W.alloc [(int 0),(str [])] S zGL ?_
  intro e6 e7 S
  refine W.store (i:=0) [(int g161.1.fform),(str g161.1.fvalue)] S rfl rfl rfl zDr rfl rfl (Nat.le_of_ble_eq_true rfl) rfl ?_
  intro e8 S
  refine A<|We<|Ws<|Wg<|M<|We ?_
  rcases condE aj with ⟨bb,aj⟩ | ⟨bb,aj⟩
  ·refine CT bb<|WP.quietTail 9 S kr kr<|QFb ?_
   refine WQ.val (fun w hw=>by obtain ⟨_,hq,S⟩:=hw; exact (R.loadB (i:=1) (v:=ptr d 9) S rfl rfl zKv rfl)) ?_
   refine WQ.val (fun w hw=>by obtain ⟨_,hq,S⟩:=hw; exact (R.loadBN (i:=0) (vs:=[(int g161.1.fform),(str g161.1.fvalue)]) S rfl rfl zDr rfl rfl))<|QFb ?_
   refine WQ.val (fun w hw=>by obtain ⟨_,hq,S⟩:=hw; exact (R.loadB (i:=1) (v:=int 2147483647) S rfl rfl lay3 rfl))<|QFb ?_
   refine WQ.val (fun w hw=>by obtain ⟨_,hq,S⟩:=hw; exact (R.loadB (i:=1) (v:=int 2147483647) S rfl rfl lay3 rfl))<|B aj fun bx c2 aj=>WQ.call (v:=int bx) rfl (fun w H' hq S=>zA9 S.holds (hG.post S.post) g161.1 2147483647 2147483647 c2)<|QNn<|WQ.nil ?_
   intro e9 c3 c4 S
   have j:=Sl.mono j c4
   refine W.store (i:=3) [(boo (g50.2||(decide (64≤(k.length:Int))))),(boo g54.2),(boo g58.2),(boo g62.2),(boo g66.2),(boo g70.2),(boo g74.2),(int ac),(int al),(int bx),(int (-1))] S rfl rfl rfl lay3 rfl rfl (Nat.le_of_ble_eq_true rfl) rfl ?_
   intro fa S
   refine We ?_
   obtain rfl:=oi aj
   exact ⟨c3,bv,a8,bw,a9,ba,rfl,j,(S.drop _ (.cons _ (.cons _ (.cons_cons _ (.cons_cons _ (.cons_cons _ (.cons_cons _ .slnil)))))))⟩
  refine CF bb<|Wk ?_
  obtain rfl:=oi aj
  exact ⟨av,bv,a8,bw,a9,ba,rfl,j,(S.drop _ (.cons _ (.cons _ (.cons_cons _ (.cons_cons _ (.cons_cons _ (.cons_cons _ .slnil)))))))⟩
 rintro f w ⟨aw,bz,bc,b0,bd,be,c5,j,S⟩
 refine Wg ?_
 refine WL.w (v:=int 3) (R.ofEq (R.add c5 rfl) rfl)<|M<|We<|RD.succ<|Ws<|Wg ?_
 refine WL.w (v:=boo true) (R.ofEq (R.lss rfl be) rfl)<|We<|Ws<|WP.condT (b:=true) rfl rfl<|Wk ?_
 refine Ws<|B h fun ax ak h=>WP.cut (fun f w=>∃ (bf:Hp),f 2=(ptr p 0)∧f 4=(mapv q)∧f 25=(ptr d 0)∧f 116=t∧f 117=(int 4)∧f 118=(int 3)∧Sl (α:=Raw 4) bf t ([⟨[(str [109,97,120,45,97,103,101]),(ptr d 7),(int 0),(int 0)],rfl,rfl⟩,⟨[(str [115,45,109,97,120,97,103,101]),(ptr d 8),(int 0),(int 0)],rfl,rfl⟩,⟨[(str [109,105,110,45,102,114,101,115,104]),(ptr d 9),(int 2147483647),(int 2147483647)],rfl,rfl⟩,⟨[(str [109,97,120,45,115,116,97,108,101]),(ptr d 10),(int 2147483647),(int 0)],rfl,rfl⟩]:List (Raw 4))∧St w0 H0 w bf [.row t 263 4 ([⟨[(str [109,97,120,45,97,103,101]),(ptr d 7),(int 0),(int 0)],rfl,rfl⟩,⟨[(str [115,45,109,97,120,97,103,101]),(ptr d 8),(int 0),(int 0)],rfl,rfl⟩,⟨[(str [109,105,110,45,102,114,101,115,104]),(ptr d 9),(int 2147483647),(int 2147483647)],rfl,rfl⟩,⟨[(str [109,97,120,45,115,116,97,108,101]),(ptr d 10),(int 2147483647),(int 0)],rfl,rfl⟩]:List (Raw 4)).length,.box d 164 [(boo (g50.2||(decide (64≤(k.length:Int))))),(boo g54.2),(boo g58.2),(boo g62.2),(boo g66.2),(boo g70.2),(boo g74.2),(int ac),(int al),(int an),(int ax)],.mp q (encm (fun x:Gcachecontrol_directive=>(agg [(int x.fform),(str x.fvalue)])) l),.box p 164 [(boo false),(boo false),(boo false),(boo false),(boo false),(boo false),(boo false),(int 0),(int 0),(int 0),(int 0)]]) ?_ ?_
 ·refine Wb<|Ws<|Wg<|W.idx (α:=Raw 4) (c:=⟨[(str [109,97,120,45,115,116,97,108,101]),(ptr d 10),(int 2147483647),(int 0)],rfl,rfl⟩) j bd rfl el264 rfl ?_
  rintro fb _ c6 rfl
  refine WL.w (R.loadHN (vs:=[(str [109,97,120,45,115,116,97,108,101]),(ptr d 10),(int 2147483647),(int 0)]) S rfl c6 zJi rfl rfl) ?_
  refine W.alloc [(str []),(.pointer none),(int 0),(int 0)] S zJ2 ?_
  intro fc fd S
  refine W.store (i:=0) [(str [109,97,120,45,115,116,97,108,101]),(ptr d 10),(int 2147483647),(int 0)] S rfl rfl rfl zJi rfl rfl (Nat.le_of_ble_eq_true rfl) rfl ?_
  intro fe S
  refine We<|Ws<|Wg<|M' bc<|Fb ?_
  refine Lo 0 S<|B ak fun g190 c7 ak=>?_
  refine WL.w (v:=.tuple ⟨[(agg [(int g190.1.fform),(str g190.1.fvalue)]),(boo g190.2)]⟩) (R.ofEq (R.lookup (fun x:Gcachecontrol_directive=>(agg [(int x.fform),(str x.fvalue)])) (i:=3) (m:=l) (z:=(⟨0,[]⟩:Gcachecontrol_directive)) S rfl rfl rfl Tryz.underlying256 Tryz.underlying9 mz258 rfl) (by rw [oi c7]))<|M ?_
  refine Ex ?_
  refine Ex ?_
  refine W.alloc [(int 0),(str [])] S zGL ?_
  intro ff fg S
  refine W.store (i:=0) [(int g190.1.fform),(str g190.1.fvalue)] S rfl rfl rfl zDr rfl rfl (Nat.le_of_ble_eq_true rfl) rfl ?_
  intro fh S
  refine A<|We<|Ws<|Wg<|M<|We ?_
  rcases condE ak with ⟨bg,ak⟩ | ⟨bg,ak⟩
  ·refine CT bg<|WP.quietTail 9 S kr kr<|QFb ?_
   refine WQ.val (fun w hw=>by obtain ⟨_,hq,S⟩:=hw; exact (R.loadB (i:=1) (v:=ptr d 10) S rfl rfl zKv rfl)) ?_
   refine WQ.val (fun w hw=>by obtain ⟨_,hq,S⟩:=hw; exact (R.loadBN (i:=0) (vs:=[(int g190.1.fform),(str g190.1.fvalue)]) S rfl rfl zDr rfl rfl))<|QFb ?_
   refine WQ.val (fun w hw=>by obtain ⟨_,hq,S⟩:=hw; exact (R.loadB (i:=1) (v:=int 2147483647) S rfl rfl lay3 rfl))<|QFb ?_
   refine WQ.val (fun w hw=>by obtain ⟨_,hq,S⟩:=hw; exact (R.loadB (i:=1) (v:=int 0) S rfl rfl lay3 rfl))<|B ak fun b1 c8 ak=>WQ.call (v:=int b1) rfl (fun w H' hq S=>zA9 S.holds (hG.post S.post) g190.1 2147483647 0 c8)<|QNn<|WQ.nil ?_
   intro fi c9 da S
   have j:=Sl.mono j da
   refine W.store (i:=3) [(boo (g50.2||(decide (64≤(k.length:Int))))),(boo g54.2),(boo g58.2),(boo g62.2),(boo g66.2),(boo g70.2),(boo g74.2),(int ac),(int al),(int an),(int b1)] S rfl rfl rfl lay3 rfl rfl (Nat.le_of_ble_eq_true rfl) rfl ?_
   intro fj S
   refine We ?_
   obtain rfl:=oi ak
   exact ⟨c9,bz,bc,b0,bd,be,rfl,j,(S.drop _ (.cons _ (.cons _ (.cons_cons _ (.cons_cons _ (.cons_cons _ (.cons_cons _ .slnil)))))))⟩
  refine CF bg<|Wk ?_
  obtain rfl:=oi ak
  exact ⟨aw,bz,bc,b0,bd,be,rfl,j,(S.drop _ (.cons _ (.cons _ (.cons_cons _ (.cons_cons _ (.cons_cons _ (.cons_cons _ .slnil)))))))⟩
 rintro f w ⟨bf,b2,fk,db,fl,dc,dd,j,S⟩
 refine Wg ?_
 refine WL.w (v:=int 4) (R.ofEq (R.add dd rfl) rfl)<|M<|We<|RD.succ<|Ws<|Wg ?_
 refine WL.w (v:=boo false) (R.ofEq (R.lss rfl dc) rfl)<|We<|Ws<|WP.condF (b:=false) rfl rfl<|Wx ?_
 refine Ws<|Wg ?_
 refine WL.w (R.loadBN (i:=1) (vs:=[(boo (g50.2||(decide (64≤(k.length:Int))))),(boo g54.2),(boo g58.2),(boo g62.2),(boo g66.2),(boo g70.2),(boo g74.2),(int ac),(int al),(int an),(int ax)]) S db rfl zHY rfl rfl) ?_
 refine W.store (i:=3) [(boo (g50.2||(decide (64≤(k.length:Int))))),(boo g54.2),(boo g58.2),(boo g62.2),(boo g66.2),(boo g70.2),(boo g74.2),(int ac),(int al),(int an),(int ax)] S b2 rfl rfl zHY rfl rfl (Nat.le_of_ble_eq_true rfl) rfl ?_
 intro fm S
 refine We ?_
 obtain rfl:=oi h
 refine WP.ret (Out.one rfl S (Res.cellB (i:=3) (cs:=[(boo (g50.2||(decide (64≤(k.length:Int))))),(boo g54.2),(boo g58.2),(boo g62.2),(boo g66.2),(boo g70.2),(boo g74.2),(int ac),(int al),(int an),(int ax)]) S b2 rfl zHY rfl rfl) ?_)
 exact rfl
theorem zNS {b:World} {c:Hp} (hw:Holds b c) (hG:Tryz.Gl b) (d:(List GField)) (f:Str) {j:Value} (i:Sl (α:=GField) c j d) {r:Bool} (h:zNZ d f=some r) :
  Con Tryz.prog 104 [j,(str f)] b c (fun H' v=>v=(boo r)):=by
 refine Con.mk (N:=11) Tryz.func104 rfl rfl kr rfl ?_
 have S:=St.start hw
 refine Ws<|Wg<|A<|We<|Ws<|Wg<|M<|M<|B h fun k l h=>W.call S rfl (zNV S.holds (hG.post S.post) f l) ?_
 rintro t u x o S ⟨kr1,cr1,rfl,Fr1⟩
 have i:=Sl.mono i o
 refine B h fun z p h=>W.call S rfl (zNl S.holds (hG.post S.post) d k i (fun hle=>Fr1 (Hp.le.trans (Hp.le.refl _) hle)) p) ?_
 rintro v7 w8 H9 ad S q
 refine Nq q<|Lc<|A<|We ?_
 obtain rfl:=oi h
 refine WP.ret (Out.one rfl S rfl ?_)
 exact rfl
theorem zBf {d:World} {c:Hp} (hw:Holds d c) (hG:Tryz.Gl d) (i:(List Str)) (o:(Str→Option Bool)) {j:Value} {kp_f:FuncId} {cp_f:List Value} (k:Sl (α:=Str) c j i) (Fp_f:∀ {w:World} {H:Hp},c.le H→Holds w H→Tryz.Gl w→∀ (u:Str) (rr:Bool),o u=some rr→Con Tryz.prog kp_f ([(str u)]++cp_f) w H (fun H' v=>v=(boo rr))) {r:Int} (h:zAP i o=some r) :
  Con Tryz.prog 224 [j,(.func (.func kp_f) #[] cp_f.toArray)] d c (fun H' v=>v=(int r)):=by
 refine Con.mk (N:=19) Tryz.func224 rfl rfl kr rfl ?_
 have S:=St.start hw
 refine Ws<|Wg<|A<|We<|Ws<|Ws<|Wg<|M<|Nq k<|M<|We<|B h fun p ab h=>WP.cut (fun f w=>match p with | .inl _=>∃ (x:Hp),St d c w x [] | .inr _=>False) ?_ ?_
 ·refine Wb ?_
  refine WP.loopM (zAU i o) (fun s f w=>match s with | _=>∃ (l:Hp),f 0=j∧f 1=(.func (.func kp_f) #[] cp_f.toArray)∧f 7=(int (i.length:Int))∧f 8=(int 0)∧Sl (α:=Str) l j i∧St d c w l []) () p (lfW ab) ?_ ?_
  ·exact ⟨c,rfl,rfl,rfl,rfl,k,S⟩
  intro s f w hI y7 b z
  obtain ⟨l,h2,h3,h4,h5,k,S⟩:=hI
  refine Ws<|Wg<|La' h5 h4<|We<|Ws ?_
  rcases condE b with ⟨q,b⟩ | ⟨q,b⟩
  ·refine CT q<|Wk<|Ws<|Wb<|Ws<|Wg<|M' h5<|A<|We<|Ws<|Wg<|M' h3 ?_
   refine M' h2<|M<|B b fun af ah b=>W.idx (α:=Str) k rfl rfl el45 ah ?_
   rintro al _ ai rfl
   refine Lq S ai<|B b fun am aj b=>W.callv S rfl rfl (Fp_f (S.post.le) S.holds (hG.post S.post) af _ aj) ?_
   rintro an ao ap aq S rfl
   refine We ?_
   rcases condE b with ⟨t,b⟩ | ⟨t,b⟩
   ·refine CT t<|Ws<|Wg<|M<|A<|We ?_
    obtain rfl:=oi b
    obtain rfl:=z
    obtain rfl:=oi h
    refine WP.ret (Out.one rfl S rfl ?_)
    exact rfl
   refine CF t ?_
   cases b
  refine CF q<|Wx ?_
  obtain rfl:=oi b
  obtain rfl:=z
  exact ⟨l,S⟩
 intro f w hM
 rcases p with _ | e
 ·obtain ⟨x,S⟩:=hM
  refine Ws<|Wg<|A<|We ?_
  obtain rfl:=oi h
  refine WP.ret (Out.one rfl S rfl ?_)
  exact rfl
 exact hM.elim
theorem zDc {c:World} {b:Hp} (hw:Holds c b) (hG:Tryz.Gl c) (d:(List Str)) (f:(Str→Option Bool)) {i:Value} {kp_f:FuncId} {cp_f:List Value} (k:Sl (α:=Str) b i d) (Fp_f:∀ {w:World} {H:Hp},b.le H→Holds w H→Tryz.Gl w→∀ (j:Str) (rr:Bool),f j=some rr→Con Tryz.prog kp_f ([(str j)]++cp_f) w H (fun H' v=>v=(boo rr))) {r:Bool} (h:zAT d f=some r) :
  Con Tryz.prog 157 [i,(.func (.func kp_f) #[] cp_f.toArray)] c b (fun H' v=>v=(boo r)):=by
 refine Con.mk (N:=9) Tryz.func157 rfl rfl kr rfl ?_
 have S:=St.start hw
 refine Ws<|Wg<|A<|We<|Ws<|Wg<|M<|M<|B h fun o l h=>W.call S rfl (zBf S.holds (hG.post S.post) d f k (fun hle=>Fp_f (Hp.le.trans S.post.le hle)) l) ?_
 rintro p q t u S rfl
 refine Ld<|A<|We ?_
 obtain rfl:=oi h
 refine WP.ret (Out.one rfl S rfl ?_)
 exact rfl
theorem zGP {b:World} {c:Hp} (hw:Holds b c) (hG:Tryz.Gl b) (d:Str) {r:Bool} (h:zBA d=some r) :
  Con Tryz.prog 159 [(str d)] b c (fun H' v=>v=(boo r)):=by
 refine Con.mk (N:=5) Tryz.func159 rfl rfl kr rfl ?_
 have S:=St.start hw
 cases h
theorem zB3 {k:World} {l:Hp} (hw:Holds k l) (hG:Tryz.Gl k) (j:(List GField)) {p:Value} (f:Sl (α:=GField) l p j) {r:GControl} (h:zAh j=some r) :
  Con Tryz.prog 95 [p] k l (fun H' v=>v=(agg [(boo r.fNoStore),(boo r.fNoCache),(boo r.fMustRevalidate),(boo r.fProxyRevalidate),(boo r.fPrivate),(boo r.fPublic),(boo r.fOnlyIfCached),(int r.fMaxAge),(int r.fSMaxAge),(int r.fMinFresh),(int r.fMaxStale)])):=by
 refine Con.mk (N:=16) Tryz.func95 rfl rfl kr rfl ?_
 have S:=St.start hw
 refine Ws<|Wg ?_
 refine W.alloc [(boo false),(boo false),(boo false),(boo false),(boo false),(boo false),(boo false),(int 0),(int 0),(int 0),(int 0)] S zJ5 ?_
 intro t w2 S
 refine We<|Ws<|Wg<|M<|B h fun b u h=>W.call S rfl (zAw S.holds (hG.post S.post) j f u) ?_
 rintro v4 w5 H6 x S rfl
 have f:=Sl.mono f x
 refine W.alloc [(boo false),(boo false),(boo false),(boo false),(boo false),(boo false),(boo false),(int 0),(int 0),(int 0),(int 0)] S zJ5 ?_
 intro z w9 S
 refine W.store (i:=0) [(boo b.fNoStore),(boo b.fNoCache),(boo b.fMustRevalidate),(boo b.fProxyRevalidate),(boo b.fPrivate),(boo b.fPublic),(boo b.fOnlyIfCached),(int b.fMaxAge),(int b.fSMaxAge),(int b.fMinFresh),(int b.fMaxStale)] S rfl rfl rfl zHY rfl rfl (Nat.le_of_ble_eq_true rfl) rfl ?_
 intro au S
 refine We<|Ws<|Ws<|Wg<|M<|B h fun aa ab h=>W.call S rfl (zNS S.holds (hG.post S.post) j [67,97,99,104,101,45,67,111,110,116,114,111,108] f ab) ?_
 rintro av aw q ac S rfl
 have f:=Sl.mono f ac
 refine No<|M<|B h fun ad d h=>WL.grpw 4 [10,11,12] 13 (boo ad) (fun w=>∃ H':Hp,q.le H'∧St k l w H' [.box z 164 [(boo b.fNoStore),(boo b.fNoCache),(boo b.fMustRevalidate),(boo b.fProxyRevalidate),(boo b.fPrivate),(boo b.fPublic),(boo b.fOnlyIfCached),(int b.fMaxAge),(int b.fSMaxAge),(int b.fMinFresh),(int b.fMaxStale)],.box t 164 [(boo false),(boo false),(boo false),(boo false),(boo false),(boo false),(boo false),(int 0),(int 0),(int 0),(int 0)]]) ?_ ?_
 ·rcases boolE (!aa) with c | c
  ·replace d:=condT d c
   refine Gy c<|M<|Gy c<|B d fun ae af d=>W.call S rfl (zF6 S.holds (hG.post S.post) j [80,114,97,103,109,97] f af) ?_
   rintro ax ay az ah S ai
   refine Gy c<|B d fun a0 aj d=>W.call S rfl (zDc S.holds (hG.post S.post) ae zBA ai (fun hle hw hG x0 r h=>zGP hw hG x0 h) aj) ?_
   rintro a1 a2 al am S rfl
   refine Pt c ?_
   exact We ⟨(congrArg boo (oi d)),ag,⟨al,(ah.trans am),S⟩⟩
  replace d:=condF d c
  refine Gn c<|Gn c<|Gn c<|Pf c ?_
  exact We ⟨(congrArg boo (oi d)),ag,⟨q,(Hp.le.refl _),S⟩⟩
 intro us a3 ⟨a4,a5,S⟩
 refine We ?_
 rcases condE h with ⟨o,h⟩ | ⟨o,h⟩
 ·refine CT o ?_
  cases h
 refine CF o<|Wk<|Ws<|Wg ?_
 refine WL.w (R.loadBN (i:=0) (vs:=[(boo b.fNoStore),(boo b.fNoCache),(boo b.fMustRevalidate),(boo b.fProxyRevalidate),(boo b.fPrivate),(boo b.fPublic),(boo b.fOnlyIfCached),(int b.fMaxAge),(int b.fSMaxAge),(int b.fMinFresh),(int b.fMaxStale)]) S rfl rfl zHY rfl rfl) ?_
 refine W.store (i:=1) [(boo b.fNoStore),(boo b.fNoCache),(boo b.fMustRevalidate),(boo b.fProxyRevalidate),(boo b.fPrivate),(boo b.fPublic),(boo b.fOnlyIfCached),(int b.fMaxAge),(int b.fSMaxAge),(int b.fMinFresh),(int b.fMaxStale)] S rfl rfl rfl zHY rfl rfl (Nat.le_of_ble_eq_true rfl) rfl ?_
 intro a6 S
 refine We ?_
 obtain rfl:=oi h
 refine WP.ret (Out.one rfl S (Res.cellB (i:=1) (cs:=[(boo b.fNoStore),(boo b.fNoCache),(boo b.fMustRevalidate),(boo b.fProxyRevalidate),(boo b.fPrivate),(boo b.fPublic),(boo b.fOnlyIfCached),(int b.fMaxAge),(int b.fSMaxAge),(int b.fMinFresh),(int b.fMaxStale)]) S rfl rfl zHY rfl rfl) ?_)
 exact rfl
theorem zEg {c:World} {d:Hp} (hw:Holds c d) (hG:Tryz.Gl c) (f:(List GField)) {l:Value} (o:Sl (α:=GField) d l f) {r:Int} (h:zBG f=some r) :
  Con Tryz.prog 162 [l] c d (fun H' v=>v=(int r)):=by
 refine Con.mk (N:=39) Tryz.func162 rfl rfl kr rfl ?_
 have S:=St.start hw
 refine Ws<|Wg<|A<|We<|Ws<|Wg<|M<|B h fun b p h=>W.call S rfl (zAw S.holds (hG.post S.post) f o p) ?_
 rintro q t u x S rfl
 refine W.alloc [(boo false),(boo false),(boo false),(boo false),(boo false),(boo false),(boo false),(int 0),(int 0),(int 0),(int 0)] S zJ5 ?_
 intro z w7 S
 refine W.store (i:=0) [(boo b.fNoStore),(boo b.fNoCache),(boo b.fMustRevalidate),(boo b.fProxyRevalidate),(boo b.fPrivate),(boo b.fPublic),(boo b.fOnlyIfCached),(int b.fMaxAge),(int b.fSMaxAge),(int b.fMinFresh),(int b.fMaxStale)] S rfl rfl rfl zHY rfl rfl (Nat.le_of_ble_eq_true rfl) rfl ?_
 intro w8 S
 refine We<|Ws<|Ws<|Wg<|Fb ?_
 refine Lo 0 S<|Ld<|We ?_
 rcases condE h with ⟨j,h⟩ | ⟨j,h⟩
 ·refine CT j ?_
  cases h
 refine CF j<|Wk<|Ws<|Ws<|Wg<|Fb ?_
 refine Lo 0 S<|Ld<|We ?_
 rcases condE h with ⟨k,h⟩ | ⟨k,h⟩
 ·refine CT k<|Ws<|Wg<|Fb ?_
  refine Lo 0 S<|A<|We ?_
  obtain rfl:=oi h
  refine WP.ret (Out.one rfl S rfl ?_)
  exact rfl
 refine CF k ?_
 cases h
theorem zHu {z:World} {H0:Hp} (hw:Holds z H0) (hG:Tryz.Gl z) (aa:Str) {r:(Int×Bool)} (h:zFT aa=some r) :
  Con Tryz.prog 163 [(str aa)] z H0 (fun H' v=>v=(.tuple ⟨[(int r.1),(boo r.2)]⟩)):=by
 refine Con.mk (N:=122) Tryz.func163 rfl rfl kr rfl ?_
 have S:=St.start hw
 refine Ws<|Wg<|A<|A<|We<|Ws<|Ws<|Wg<|M<|Ns<|Lf<|M<|B h fun b4 l h=>WL.grp 4 [14,15,16] 17 (boo b4) ?_ ?_
 ·rcases boolE ((aa.length:Int) !=29) with b | b
  ·replace l:=condT l b
   refine Gn b<|Gn b<|Gn b<|Pt b ?_
   exact We ⟨(congrArg boo (oi l)),ag,rfl⟩
  replace l:=condF l b
  refine Gy b<|M<|Gy b<|B l fun s3 ak l=>Jb ak<|Gy b<|Nb<|Pf b ?_
  exact We ⟨(congrArg boo (oi l)),ag,rfl⟩
 intro us
 refine M<|B h fun b8 o h=>WL.grp 4 [19,20,21] 22 (boo b8) ?_ ?_
 ·rcases boolE b4 with c | c
  ·replace o:=condT o c
   refine Gn c<|Gn c<|Gn c<|Pt c ?_
   exact We ⟨(congrArg boo (oi o)),ag,rfl⟩
  replace o:=condF o c
  refine Gy c<|M<|Gy c<|B o fun c7 am o=>Ja am<|Gy c<|Mf c7 32<|Pf c ?_
  exact We ⟨(congrArg boo (oi o)),ag,rfl⟩
 intro us
 refine M<|B h fun af p h=>WL.grp 4 [24,25,26] 27 (boo af) ?_ ?_
 ·rcases boolE b8 with d | d
  ·replace p:=condT p d
   refine Gn d<|Gn d<|Gn d<|Pt d ?_
   exact We ⟨(congrArg boo (oi p)),ag,rfl⟩
  replace p:=condF p d
  refine Gy d<|M<|Gy d<|B p fun an ao p=>Ja ao<|Gy d<|Mf an 32<|Pf d ?_
  exact We ⟨(congrArg boo (oi p)),ag,rfl⟩
 intro us
 refine M<|B h fun ah q h=>WL.grp 4 [29,30,31] 32 (boo ah) ?_ ?_
 ·rcases boolE af with f | f
  ·replace q:=condT q f
   refine Gn f<|Gn f<|Gn f<|Pt f ?_
   exact We ⟨(congrArg boo (oi q)),ag,rfl⟩
  replace q:=condF q f
  refine Gy f<|M<|Gy f<|B q fun ap aq q=>Ja aq<|Gy f<|Mf ap 32<|Pf f ?_
  exact We ⟨(congrArg boo (oi q)),ag,rfl⟩
 intro us
 refine M<|B h fun ai t h=>WL.grp 4 [34,35,36] 37 (boo ai) ?_ ?_
 ·rcases boolE ah with i | i
  ·replace t:=condT t i
   refine Gn i<|Gn i<|Gn i<|Pt i ?_
   exact We ⟨(congrArg boo (oi t)),ag,rfl⟩
  replace t:=condF t i
  refine Gy i<|M<|Gy i<|B t fun ar au t=>Ja au<|Gy i<|Mf ar 58<|Pf i ?_
  exact We ⟨(congrArg boo (oi t)),ag,rfl⟩
 intro us
 refine M<|B h fun aj u h=>WL.grp 4 [39,40,41] 42 (boo aj) ?_ ?_
 ·rcases boolE ai with j | j
  ·replace u:=condT u j
   refine Gn j<|Gn j<|Gn j<|Pt j ?_
   exact We ⟨(congrArg boo (oi u)),ag,rfl⟩
  replace u:=condF u j
  refine Gy j<|M<|Gy j<|B u fun av aw u=>Ja aw<|Gy j<|Mf av 58<|Pf j ?_
  exact We ⟨(congrArg boo (oi u)),ag,rfl⟩
 intro us
 refine M<|B h fun ax x h=>WL.grp 4 [44,45,46] 47 (boo ax) ?_ ?_
 ·rcases boolE aj with k | k
  ·replace x:=condT x k
   refine Gn k<|Gn k<|Gn k<|Pt k ?_
   exact We ⟨(congrArg boo (oi x)),ag,rfl⟩
  replace x:=condF x k
  refine Gy k<|M<|Gy k<|B x fun a0 ay x=>Jc ay<|Gy k<|Nb<|Pf k ?_
  exact We ⟨(congrArg boo (oi x)),ag,rfl⟩
 intro us
 refine We ?_
 rcases condE h with ⟨ab,h⟩ | ⟨ab,h⟩
 ·refine CT ab<|Ws<|Wg<|A<|A<|We ?_
  obtain rfl:=oi h
  refine WP.ret (Out.two rfl S rfl rfl ?_)
  exact rfl
 refine CF ab ?_
 cases h
theorem zIf {b:World} {c:Hp} (hw:Holds b c) (hG:Tryz.Gl b) (d:(List GField)) (f:Str) {i:Value} (j:Sl (α:=GField) c i d) {r:(Int×Bool)} (h:zDf d f=some r) :
  Con Tryz.prog 226 [i,(str f)] b c (fun H' v=>v=(.tuple ⟨[(int r.1),(boo r.2)]⟩)):=by
 refine Con.mk (N:=18) Tryz.func226 rfl rfl kr rfl ?_
 have S:=St.start hw
 refine Ws<|Wg<|A<|A<|We<|Ws<|Wg<|M<|M<|B h fun k l h=>W.call S rfl (zNe S.holds (hG.post S.post) d f j l) ?_
 rintro p q t u S rfl
 refine M ?_
 refine Ex ?_
 refine Ex<|A<|A<|We<|Ws<|Wg<|M<|B h fun x o h=>W.call S rfl (zHu S.holds (hG.post S.post) k.1 o) ?_
 rintro z w8 H9 ac S rfl
 refine Ex ?_
 refine Ex<|A<|A<|We ?_
 obtain rfl:=oi h
 refine WP.ret (Out.two rfl S rfl rfl ?_)
 exact rfl
theorem zJN {b:World} {c:Hp} (hw:Holds b c) (hG:Tryz.Gl b) (d:(List GField)) (i:Int) {j:Value} (k:Sl (α:=GField) c j d) {r:Int} (h:zDy d i=some r) :
  Con Tryz.prog 235 [j,(int i)] b c (fun H' v=>v=(int r)):=by
 refine Con.mk (N:=15) Tryz.func235 rfl rfl kr rfl ?_
 have S:=St.start hw
 refine Ws<|Wg<|A<|We<|Ws<|Ws<|Wg<|M<|B h fun o l h=>W.call S rfl (zIf S.holds (hG.post S.post) d [68,97,116,101] k l) ?_
 rintro p q t u S rfl
 refine M ?_
 refine Ex ?_
 refine Ex<|A<|A<|We<|Ws<|Wg<|M<|We ?_
 rcases condE h with ⟨f,h⟩ | ⟨f,h⟩
 ·refine CT f ?_
  cases h
 refine CF f<|Wk<|Ws<|Wg<|M<|A<|We ?_
 obtain rfl:=oi h
 refine WP.ret (Out.one rfl S rfl ?_)
 exact rfl
theorem zOF {b:World} {c:Hp} (hw:Holds b c) (hG:Tryz.Gl b) (d:Int) (f:Int) {r:Int} (h:zN2 d f=some r) :
  Con Tryz.prog 227 [(int d),(int f)] b c (fun H' v=>v=(int r)):=by
 refine Con.mk (N:=10) Tryz.func227 rfl rfl kr rfl ?_
 have S:=St.start hw
 refine Ws<|Wg<|A<|We<|Ws<|Wg<|M<|M<|Lh<|Nj<|Ni<|A ?_
 refine We ?_
 obtain rfl:=oi h
 refine WP.ret (Out.one rfl S rfl ?_)
 exact rfl
theorem zJo {p:World} {q:Hp} (hw:Holds p q) (hG:Tryz.Gl p) (l:(List GField)) (c:Int) (b:Int) (j:Int) {u:Value} (k:Sl (α:=GField) q u l) {r:Int} (h:zEl l c b j=some r) :
  Con Tryz.prog 169 [u,(int c),(int b),(int j)] p q (fun H' v=>v=(int r)):=by
 refine Con.mk (N:=60) Tryz.func169 rfl rfl kr rfl ?_
 have S:=St.start hw
 refine Ws<|Wg<|A<|We<|Ws<|Ws<|Wg<|M<|La<|M ?_
 refine WL.grp 4 [18,19,20] 21 (boo ((decide (c<0))||(decide (b<c)))) ?_ ?_
 ·rcases boolE (decide (c<0)) with d | d
  ·refine Gn d<|Gn d<|Gn d<|Pt d ?_
   exact We ⟨(orT d),ag,rfl⟩
  refine Gy d<|M<|Gy d<|M<|Gy d<|La<|Pf d ?_
  exact We ⟨(orF d),ag,rfl⟩
 intro us
 refine M ?_
 refine WL.grp 4 [23,24,25] 26 (boo (((decide (c<0))||(decide (b<c)))||(decide (j<b)))) ?_ ?_
 ·rcases boolE ((decide (c<0))||(decide (b<c))) with f | f
  ·refine Gn f<|Gn f<|Gn f<|Pt f ?_
   exact We ⟨(orT f),ag,rfl⟩
  refine Gy f<|M<|Gy f<|M<|Gy f<|La<|Pf f ?_
  exact We ⟨(orF f),ag,rfl⟩
 intro us
 refine M ?_
 refine WL.grp 3 [28,29] 30 (boo ((((decide (c<0))||(decide (b<c)))||(decide (j<b)))||(decide (1099511627776<j)))) ?_ ?_
 ·rcases boolE (((decide (c<0))||(decide (b<c)))||(decide (j<b))) with i | i
  ·refine Gn i<|Gn i<|Pt i ?_
   exact We ⟨(orT i),ag,rfl⟩
  refine Gy i<|M<|Gy i<|Lc<|Pf i ?_
  exact We ⟨(orF i),ag,rfl⟩
 intro us
 refine We ?_
 rcases condE h with ⟨t,h⟩ | ⟨t,h⟩
 ·refine CT t ?_
  cases h
 refine CF t<|Wk<|Ws<|Wg<|M<|B h fun z aa h=>W.call S rfl (zNe S.holds (hG.post S.post) l [65,103,101] k aa) ?_
 rintro v9 ai aj ab S rfl
 have k:=Sl.mono k ab
 refine M ?_
 refine Ex ?_
 refine Ex<|A<|A<|We<|Ws<|Wg<|M<|B h fun x ac h=>W.call S rfl (zCI S.holds (hG.post S.post) z.1 ac) ?_
 rintro ak al am ad S rfl
 have k:=Sl.mono k ad
 refine M ?_
 refine Ex ?_
 refine Ex<|A<|A<|We<|Ws<|Wg<|M<|M<|M<|B h fun o ae h=>W.call S rfl (zJN S.holds (hG.post S.post) l b k ae) ?_
 rintro an ao ap aq S rfl
 refine Lh<|Nj<|A<|We<|Ws<|Wg<|M<|M<|Lg<|M<|Lh<|A ?_
 refine We<|Ws<|Wg<|M<|M<|Nj<|M<|Lg<|M<|Lh<|B h fun ar af h=>W.call S rfl (zOF S.holds (hG.post S.post) (wr ((wr ((if (if 0<(wr (b - o)) then (wr (b - o)) else 0)<(wr ((wr (x.1+b)) - c)) then (wr ((wr (x.1+b)) - c)) else (if 0<(wr (b - o)) then (wr (b - o)) else 0))+j)) - b)) 0 af) ?_
 rintro au av aw ax S rfl
 refine A<|We ?_
 obtain rfl:=oi h
 refine WP.ret (Out.one rfl S rfl ?_)
 exact rfl
theorem zI0 {d:World} {c:Hp} (hw:Holds d c) (hG:Tryz.Gl d) (b:GEntry) (f:Int) {i:Value} {j:Value} {k:Value} {l:Value} (q:Sl (α:=(List Str)) c i b.fKeys) (t:Sl (α:=Str) c j b.fVary) (u:Sl (α:=Str) c k b.fSnapshot) (o:Sl (α:=GField) c l b.fFields) {r:Int} (h:zGR b f=some r) :
  Con Tryz.prog 101 [(agg [i,j,k,(str b.fReason),l,(str b.fBody),(int b.fRequested),(int b.fReceived)]),(int f)] d c (fun H' v=>v=(int r)):=by
 refine Con.mk (N:=13) Tryz.func101 rfl rfl kr rfl ?_
 have S:=St.start hw
 refine Ws<|Wg ?_
 refine W.box [i,j,k,(str b.fReason),l,(str b.fBody),(int b.fRequested),(int b.fReceived)] S rfl rfl ?_
 intro x z S
 refine A<|We<|Ws<|Wg<|Fb ?_
 refine Lo 0 S<|Fb ?_
 refine Lo 0 S<|Fb ?_
 refine Lo 0 S<|M<|B h fun r3 p h=>W.call S rfl (zJo S.holds (hG.post S.post) b.fFields b.fRequested b.fReceived f o p) ?_
 rintro v4 w5 H6 ae S rfl
 refine A<|We ?_
 obtain rfl:=oi h
 refine WP.ret (Out.one rfl S rfl ?_)
 exact rfl
end Go.Proofs

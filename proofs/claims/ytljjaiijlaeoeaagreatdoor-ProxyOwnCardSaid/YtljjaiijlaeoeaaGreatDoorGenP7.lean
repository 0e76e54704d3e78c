/- A part. -/
import Derived.Test.YtljjaiijlaeoeaaGreatDoorEng38
import Derived.Test.YtljjaiijlaeoeaaGreatDoorEng36
import Derived.Test.YtljjaiijlaeoeaaGreatDoorGenP6
namespace Go.Proofs
set_option maxHeartbeats 4000000
set_option maxRecDepth 10000
open Go.Eng Go.Eng.Pure
set_option linter.unusedVariables false
theorem zAa {w0:World} {H0:Hp} (hw:Holds w0 H0) (hG:Tryz.Gl w0) (ay:(List GField)) {bh:Value} (b4:Sl H0 bh ay) {r:GControl} (h:zAW ay=some r) :
  Con Tryz.prog 120 [bh] w0 H0 (fun H' v=>v=(agg [(boo r.fNoStore),(boo r.fNoCache),(boo r.fMustRevalidate),(boo r.fProxyRevalidate),(boo r.fPrivate),(boo r.fPublic),(boo r.fOnlyIfCached),(int r.fMaxAge),(int r.fSMaxAge),(int r.fMinFresh),(int r.fMaxStale)])):=by
 refine CM 141 Tryz.func120 hw fun S=>?_
 refine Ws<|Wg ?_
 refine W.alloc [(boo false),(boo false),(boo false),(boo false),(boo false),(boo false),(boo false),(int 0),(int 0),(int 0),(int 0)] S zGh ?_
 intro p w2 S
 refine We<|Ws<|Wg<|M<|B h fun k b5 h=>W.call S rfl (zDF S.holds (hG.post S.post) ay [67,97,99,104,101,45,67,111,110,116,114,111,108] b4 b5) ?_
 rintro v4 w5 H6 di S R8
 refine A<|We<|Ws<|Wg<|W.makeMap S ?_
 intro q dj S
 refine A<|We<|Ws<|Ws<|Wg<|M<|Nq R8<|M<|We<|B h fun l b7 h=>WP.cut (fun f w=>∃ (az:Hp),f 2=(ptr p 0)∧f 3=v4∧f 4=(mapv q)∧Sl az v4 k∧St w0 H0 w az [.mp q (encm (fun x:Gcachecontrol_directive=>(agg [(int x.fform),(str x.fvalue)])) l),.box p 164 [(boo false),(boo false),(boo false),(boo false),(boo false),(boo false),(boo false),(int 0),(int 0),(int 0),(int 0)]]) ?_ ?_
 ·refine Wb ?_
  refine WP.loopM (zBl k) (fun s f w=>match s with | (bi,ap)=>∃ (aq:Hp),f 2=(ptr p 0)∧f 3=v4∧f 4=(mapv q)∧f 33=v4∧f 34=(int (k.length:Int))∧f 35=(int bi)∧Sl aq v4 k∧St w0 H0 w aq [.mp q (encm (fun x:Gcachecontrol_directive=>(agg [(int x.fform),(str x.fvalue)])) ap),.box p 164 [(boo false),(boo false),(boo false),(boo false),(boo false),(boo false),(boo false),(int 0),(int 0),(int 0),(int 0)]]) (0,([]:List (Str×Gcachecontrol_directive))) l (lfW b7) ?_ ?_
  ·exact ⟨H6,rfl,rfl,rfl,rfl,rfl,rfl,R8,S⟩
  intro s f w hI dk o b8
  obtain ⟨bi,ap⟩:=s
  obtain ⟨aq,bj,bk,ar,bn,bo,a0,R8,S⟩:=hI
  refine Ws<|Wg<|La' a0 bo<|We<|Ws ?_
  rcases condE o with ⟨a1,o⟩ | ⟨a1,o⟩
  ·refine CT a1<|Wk<|Ws<|Wb<|Ws<|Wg<|B o fun ca cb o=>W.idx (α:=Str) R8 bn a0 el45 cb ?_
   rintro dl _ cc rfl
   refine Lq S cc<|A<|We<|Ws<|Wg<|M<|B o fun am cd o=>W.call S rfl (zEm S.holds (hG.post S.post) ca cd) ?_
   rintro dm dn ce cf S rfl
   have R8:=R8.up cf
   refine M ?_
   refine Ex ?_
   refine Ex ?_
   refine W.alloc [(int 0),(str [])] S zDI ?_
   intro dp dq S
   refine A ?_
   refine W.store (i:=0) [(int am.2.fform),(str am.2.fvalue)] S rfl rfl rfl zBt rfl rfl (Nat.le_of_ble_eq_true rfl) rfl ?_
   intro dr S
   refine We<|Ws<|Wg<|M' ar<|M<|B o fun g42 cg o=>?_
   refine WL.w (v:=.tuple ⟨[(agg [(int g42.1.fform),(str g42.1.fvalue)]),(boo g42.2)]⟩) (R.ofEq (R.lookup (fun x:Gcachecontrol_directive=>(agg [(int x.fform),(str x.fvalue)])) (i:=1) (m:=ap) (z:=(⟨0,[]⟩:Gcachecontrol_directive)) S rfl rfl rfl Tryz.underlying256 Tryz.underlying9 mz258 rfl) (by rw [oi cg]))<|M ?_
   refine Ex ?_
   refine Ex ?_
   refine W.alloc [(int 0),(str [])] S zDI ?_
   intro ds dt S
   refine W.store (i:=0) [(int g42.1.fform),(str g42.1.fvalue)] S rfl rfl rfl zBt rfl rfl (Nat.le_of_ble_eq_true rfl) rfl ?_
   intro du S
   refine A<|We<|Ws<|Wg<|M<|No<|M ?_
   refine WL.grp 3 [53,54] 55 (boo ((!g42.2)&&(am.1 !=[]))) ?_ ?_
   ·rcases boolE (!g42.2) with af | af
    ·refine Gy af<|M<|Gy af<|Nb<|Pt af ?_
     exact We ⟨(andT af),ag,rfl⟩
    refine Gn af<|Gn af<|Pf af ?_
    exact We ⟨(andF af),ag,rfl⟩
   intro us
   refine We ?_
   rcases condE o with ⟨a2,o⟩ | ⟨a2,o⟩
   ·refine CT a2<|Wg<|M' ar<|M ?_
    refine WL.w (R.loadBN (i:=1) (vs:=[(int am.2.fform),(str am.2.fvalue)]) S rfl rfl zBt rfl rfl)<|W.mapUpdate (fun x:Gcachecontrol_directive=>(agg [(int x.fform),(str x.fvalue)])) (i:=2) (m:=ap) am.2 S rfl rfl rfl rfl rfl Tryz.underlying256 Tryz.underlying9 ?_
    intro dv S
    refine We<|Wg<|Lg' a0 rfl<|M<|We ?_
    obtain rfl:=oi o
    exact ⟨rfl,⟨ce,bj,bk,ar,bn,bo,rfl,R8,(S.pk [2,3])⟩⟩
   refine CF a2 ?_
   cases o
  refine CF a1<|Wx ?_
  obtain rfl:=oi o
  obtain rfl:=b8
  exact ⟨aq,bj,bk,ar,R8,S⟩
 rintro f w ⟨az,bp,ch,ab,R8,S⟩
 refine Ws<|Wg<|M' ab<|B h fun g50 ci h=>?_
 refine WL.w (v:=.tuple ⟨[(agg [(int g50.1.fform),(str g50.1.fvalue)]),(boo g50.2)]⟩) (R.ofEq (R.lookup (fun x:Gcachecontrol_directive=>(agg [(int x.fform),(str x.fvalue)])) (i:=0) (m:=l) (z:=(⟨0,[]⟩:Gcachecontrol_directive)) S rfl rfl rfl Tryz.underlying256 Tryz.underlying9 mz258 rfl) (by rw [oi ci]))<|M ?_
 refine Ex ?_
 refine Ex ?_
 refine W.alloc [(int 0),(str [])] S zDI ?_
 intro dw dx S
 refine W.store (i:=0) [(int g50.1.fform),(str g50.1.fvalue)] S rfl rfl rfl zBt rfl rfl (Nat.le_of_ble_eq_true rfl) rfl ?_
 intro dy S
 refine A<|We<|Ws<|Wg<|M' ab<|B h fun g54 cj h=>?_
 refine WL.w (v:=.tuple ⟨[(agg [(int g54.1.fform),(str g54.1.fvalue)]),(boo g54.2)]⟩) (R.ofEq (R.lookup (fun x:Gcachecontrol_directive=>(agg [(int x.fform),(str x.fvalue)])) (i:=1) (m:=l) (z:=(⟨0,[]⟩:Gcachecontrol_directive)) S rfl rfl rfl Tryz.underlying256 Tryz.underlying9 mz258 rfl) (by rw [oi cj]))<|M ?_
 refine Ex ?_
 refine Ex ?_
 refine W.alloc [(int 0),(str [])] S zDI ?_
 intro dz d0 S
 refine W.store (i:=0) [(int g54.1.fform),(str g54.1.fvalue)] S rfl rfl rfl zBt rfl rfl (Nat.le_of_ble_eq_true rfl) rfl ?_
 intro d1 S
 refine A<|We<|Ws<|Wg<|M' ab<|B h fun g58 ck h=>?_
 refine WL.w (v:=.tuple ⟨[(agg [(int g58.1.fform),(str g58.1.fvalue)]),(boo g58.2)]⟩) (R.ofEq (R.lookup (fun x:Gcachecontrol_directive=>(agg [(int x.fform),(str x.fvalue)])) (i:=2) (m:=l) (z:=(⟨0,[]⟩:Gcachecontrol_directive)) S rfl rfl rfl Tryz.underlying256 Tryz.underlying9 mz258 rfl) (by rw [oi ck]))<|M ?_
 refine Ex ?_
 refine Ex ?_
 refine W.alloc [(int 0),(str [])] S zDI ?_
 intro d2 d3 S
 refine W.store (i:=0) [(int g58.1.fform),(str g58.1.fvalue)] S rfl rfl rfl zBt rfl rfl (Nat.le_of_ble_eq_true rfl) rfl ?_
 intro d4 S
 refine A<|We<|Ws<|Wg<|M' ab<|B h fun g62 cl h=>?_
 refine WL.w (v:=.tuple ⟨[(agg [(int g62.1.fform),(str g62.1.fvalue)]),(boo g62.2)]⟩) (R.ofEq (R.lookup (fun x:Gcachecontrol_directive=>(agg [(int x.fform),(str x.fvalue)])) (i:=3) (m:=l) (z:=(⟨0,[]⟩:Gcachecontrol_directive)) S rfl rfl rfl Tryz.underlying256 Tryz.underlying9 mz258 rfl) (by rw [oi cl]))<|M ?_
 refine Ex ?_
 refine Ex ?_
 refine W.alloc [(int 0),(str [])] S zDI ?_
 intro d5 d6 S
 refine W.store (i:=0) [(int g62.1.fform),(str g62.1.fvalue)] S rfl rfl rfl zBt rfl rfl (Nat.le_of_ble_eq_true rfl) rfl ?_
 intro d7 S
 refine A<|We<|Ws<|Wg<|M' ab<|B h fun g66 cm h=>?_
 refine WL.w (v:=.tuple ⟨[(agg [(int g66.1.fform),(str g66.1.fvalue)]),(boo g66.2)]⟩) (R.ofEq (R.lookup (fun x:Gcachecontrol_directive=>(agg [(int x.fform),(str x.fvalue)])) (i:=4) (m:=l) (z:=(⟨0,[]⟩:Gcachecontrol_directive)) S rfl rfl rfl Tryz.underlying256 Tryz.underlying9 mz258 rfl) (by rw [oi cm]))<|M ?_
 refine Ex ?_
 refine Ex ?_
 refine W.alloc [(int 0),(str [])] S zDI ?_
 intro d8 d9 S
 refine W.store (i:=0) [(int g66.1.fform),(str g66.1.fvalue)] S rfl rfl rfl zBt rfl rfl (Nat.le_of_ble_eq_true rfl) rfl ?_
 intro ea S
 refine A<|We<|Ws<|Wg<|M' ab<|B h fun g70 cn h=>?_
 refine WL.w (v:=.tuple ⟨[(agg [(int g70.1.fform),(str g70.1.fvalue)]),(boo g70.2)]⟩) (R.ofEq (R.lookup (fun x:Gcachecontrol_directive=>(agg [(int x.fform),(str x.fvalue)])) (i:=5) (m:=l) (z:=(⟨0,[]⟩:Gcachecontrol_directive)) S rfl rfl rfl Tryz.underlying256 Tryz.underlying9 mz258 rfl) (by rw [oi cn]))<|M ?_
 refine Ex ?_
 refine Ex ?_
 refine W.alloc [(int 0),(str [])] S zDI ?_
 intro eb ec S
 refine W.store (i:=0) [(int g70.1.fform),(str g70.1.fvalue)] S rfl rfl rfl zBt rfl rfl (Nat.le_of_ble_eq_true rfl) rfl ?_
 intro ed S
 refine A<|We<|Ws<|Wg<|M' ab<|B h fun g74 co h=>?_
 refine WL.w (v:=.tuple ⟨[(agg [(int g74.1.fform),(str g74.1.fvalue)]),(boo g74.2)]⟩) (R.ofEq (R.lookup (fun x:Gcachecontrol_directive=>(agg [(int x.fform),(str x.fvalue)])) (i:=6) (m:=l) (z:=(⟨0,[]⟩:Gcachecontrol_directive)) S rfl rfl rfl Tryz.underlying256 Tryz.underlying9 mz258 rfl) (by rw [oi co]))<|M ?_
 refine Ex ?_
 refine Ex ?_
 refine W.alloc [(int 0),(str [])] S zDI ?_
 intro ee ef S
 refine W.store (i:=0) [(int g74.1.fform),(str g74.1.fvalue)] S rfl rfl rfl zBt rfl rfl (Nat.le_of_ble_eq_true rfl) rfl ?_
 intro eg S
 refine A<|We<|Ws<|Wg<|M<|M ?_
 refine WL.grp 4 [97,98,99] 100 (boo (g50.2||(decide (64≤(k.length:Int))))) ?_ ?_
 ·rcases boolE g50.2 with u | u
  ·refine Gn u<|Gn u<|Gn u<|Pt u ?_
   exact We ⟨(orT u),ag,rfl⟩
  refine Gy u<|M' ch<|Gy u<|Nq R8<|Gy u<|Ld<|Pf u ?_
  exact We ⟨(orF u),ag,rfl⟩
 intro us
 refine M<|M<|M<|M<|M<|M ?_
 refine WL.w (R.build [(0,(boo (g50.2||(decide (64≤(k.length:Int)))))),(1,(boo g54.2)),(2,(boo g58.2)),(3,(boo g62.2)),(4,(boo g66.2)),(5,(boo g70.2)),(6,(boo g74.2)),(7,(int (-1))),(8,(int (-1))),(9,(int (-1))),(10,(int (-1)))] [(boo (g50.2||(decide (64≤(k.length:Int))))),(boo g54.2),(boo g58.2),(boo g62.2),(boo g66.2),(boo g70.2),(boo g74.2),(int (-1)),(int (-1)),(int (-1)),(int (-1))] bp164 zGh kr kr) ?_
 refine W.alloc [(boo false),(boo false),(boo false),(boo false),(boo false),(boo false),(boo false),(int 0),(int 0),(int 0),(int 0)] S zGh ?_
 intro d eh S
 refine W.store (i:=0) [(boo (g50.2||(decide (64≤(k.length:Int))))),(boo g54.2),(boo g58.2),(boo g62.2),(boo g66.2),(boo g70.2),(boo g74.2),(int (-1)),(int (-1)),(int (-1)),(int (-1))] S rfl rfl rfl zEb rfl rfl (Nat.le_of_ble_eq_true rfl) rfl ?_
 intro ei S
 refine We<|Ws<|Ws<|Wg<|Fb ?_
 refine WL.w (R.build [(0,(str [109,97,120,45,97,103,101])),(1,(ptr d 7)),(2,(int 0)),(3,(int 0))] [(str [109,97,120,45,97,103,101]),(ptr d 7),(int 0),(int 0)] bp263 zGl rfl rfl)<|Fb ?_
 refine WL.w (R.build [(0,(str [115,45,109,97,120,97,103,101])),(1,(ptr d 8)),(2,(int 0)),(3,(int 0))] [(str [115,45,109,97,120,97,103,101]),(ptr d 8),(int 0),(int 0)] bp263 zGl rfl rfl)<|Fb ?_
 refine WL.w (R.build [(0,(str [109,105,110,45,102,114,101,115,104])),(1,(ptr d 9)),(2,(int 2147483647)),(3,(int 2147483647))] [(str [109,105,110,45,102,114,101,115,104]),(ptr d 9),(int 2147483647),(int 2147483647)] bp263 zGl rfl rfl)<|Fb ?_
 refine WL.w (R.build [(0,(str [109,97,120,45,115,116,97,108,101])),(1,(ptr d 10)),(2,(int 2147483647)),(3,(int 0))] [(str [109,97,120,45,115,116,97,108,101]),(ptr d 10),(int 2147483647),(int 0)] bp263 zGl rfl rfl) ?_
 refine W.bslice (α:=Raw 4) [(agg [(str [109,97,120,45,97,103,101]),(ptr d 7),(int 0),(int 0)]),(agg [(str [115,45,109,97,120,97,103,101]),(ptr d 8),(int 0),(int 0)]),(agg [(str [109,105,110,45,102,114,101,115,104]),(ptr d 9),(int 2147483647),(int 2147483647)]),(agg [(str [109,97,120,45,115,116,97,108,101]),(ptr d 10),(int 2147483647),(int 0)])] ([⟨[(str [109,97,120,45,97,103,101]),(ptr d 7),(int 0),(int 0)],rfl,rfl⟩,⟨[(str [115,45,109,97,120,97,103,101]),(ptr d 8),(int 0),(int 0)],rfl,rfl⟩,⟨[(str [109,105,110,45,102,114,101,115,104]),(ptr d 9),(int 2147483647),(int 2147483647)],rfl,rfl⟩,⟨[(str [109,97,120,45,115,116,97,108,101]),(ptr d 10),(int 2147483647),(int 0)],rfl,rfl⟩]:List (Raw 4)) S el264 rfl rfl rfl (by decide) (Go.Eng.encS ⟨rfl,rfl⟩ (Go.Eng.encS ⟨rfl,rfl⟩ (Go.Eng.encS ⟨rfl,rfl⟩ (Go.Eng.encS ⟨rfl,rfl⟩ enc0)))) ?_
 intro t ej bq ek j S
 refine WL.w (v:=int 4) (R.ofEq (R.lenL (α:=Raw 4) (xs:=([⟨[(str [109,97,120,45,97,103,101]),(ptr d 7),(int 0),(int 0)],rfl,rfl⟩,⟨[(str [115,45,109,97,120,97,103,101]),(ptr d 8),(int 0),(int 0)],rfl,rfl⟩,⟨[(str [109,105,110,45,102,114,101,115,104]),(ptr d 9),(int 2147483647),(int 2147483647)],rfl,rfl⟩,⟨[(str [109,97,120,45,115,116,97,108,101]),(ptr d 10),(int 2147483647),(int 0)],rfl,rfl⟩]:List (Raw 4))) (H:=bq) j rfl Tryz.underlying264) rfl)<|M<|We<|Wb<|WP.loopRd 5<|RD.succ<|Ws<|Wg ?_
 refine WL.w (v:=boo true) (R.ofEq (R.lss rfl rfl) rfl)<|We<|Ws<|WP.condT (b:=true) rfl rfl ?_
 refine Wk<|Ws<|B h fun ac ah h=>WP.cut (fun f w=>∃ (au:Hp),f 2=(ptr p 0)∧f 4=(mapv q)∧f 25=(ptr d 0)∧f 116=t∧f 117=(int 4)∧f 118=(int 0)∧Sl (α:=Raw 4) au t ([⟨[(str [109,97,120,45,97,103,101]),(ptr d 7),(int 0),(int 0)],rfl,rfl⟩,⟨[(str [115,45,109,97,120,97,103,101]),(ptr d 8),(int 0),(int 0)],rfl,rfl⟩,⟨[(str [109,105,110,45,102,114,101,115,104]),(ptr d 9),(int 2147483647),(int 2147483647)],rfl,rfl⟩,⟨[(str [109,97,120,45,115,116,97,108,101]),(ptr d 10),(int 2147483647),(int 0)],rfl,rfl⟩]:List (Raw 4))∧St w0 H0 w au [.row t 263 4 ([⟨[(str [109,97,120,45,97,103,101]),(ptr d 7),(int 0),(int 0)],rfl,rfl⟩,⟨[(str [115,45,109,97,120,97,103,101]),(ptr d 8),(int 0),(int 0)],rfl,rfl⟩,⟨[(str [109,105,110,45,102,114,101,115,104]),(ptr d 9),(int 2147483647),(int 2147483647)],rfl,rfl⟩,⟨[(str [109,97,120,45,115,116,97,108,101]),(ptr d 10),(int 2147483647),(int 0)],rfl,rfl⟩]:List (Raw 4)).length,.box d 164 [(boo (g50.2||(decide (64≤(k.length:Int))))),(boo g54.2),(boo g58.2),(boo g62.2),(boo g66.2),(boo g70.2),(boo g74.2),(int ac),(int (-1)),(int (-1)),(int (-1))],.mp q (encm (fun x:Gcachecontrol_directive=>(agg [(int x.fform),(str x.fvalue)])) l),.box p 164 [(boo false),(boo false),(boo false),(boo false),(boo false),(boo false),(boo false),(int 0),(int 0),(int 0),(int 0)]]) ?_ ?_
 ·refine Wb<|Ws<|Wg<|W.idx (α:=Raw 4) (c:=⟨[(str [109,97,120,45,97,103,101]),(ptr d 7),(int 0),(int 0)],rfl,rfl⟩) j rfl rfl el264 rfl ?_
  rintro el _ cp rfl
  refine WL.w (R.loadHN (vs:=[(str [109,97,120,45,97,103,101]),(ptr d 7),(int 0),(int 0)]) S rfl cp zGE rfl rfl) ?_
  refine W.alloc [(str []),(.pointer none),(int 0),(int 0)] S zGl ?_
  intro em en S
  refine W.store (i:=0) [(str [109,97,120,45,97,103,101]),(ptr d 7),(int 0),(int 0)] S rfl rfl rfl zGE rfl rfl (Nat.le_of_ble_eq_true rfl) rfl ?_
  intro eo S
  refine We<|Ws<|Wg<|M' ab<|Fb ?_
  refine Lo 0 S<|B ah fun g103 cq ah=>?_
  refine WL.w (v:=.tuple ⟨[(agg [(int g103.1.fform),(str g103.1.fvalue)]),(boo g103.2)]⟩) (R.ofEq (R.lookup (fun x:Gcachecontrol_directive=>(agg [(int x.fform),(str x.fvalue)])) (i:=10) (m:=l) (z:=(⟨0,[]⟩:Gcachecontrol_directive)) S rfl rfl rfl Tryz.underlying256 Tryz.underlying9 mz258 rfl) (by rw [oi cq]))<|M ?_
  refine Ex ?_
  refine Ex ?_
  refine W.alloc [(int 0),(str [])] S zDI ?_
  intro ep eq S
  refine W.store (i:=0) [(int g103.1.fform),(str g103.1.fvalue)] S rfl rfl rfl zBt rfl rfl (Nat.le_of_ble_eq_true rfl) rfl ?_
  intro er S
  refine A<|We<|Ws<|Wg<|M<|We ?_
  rcases condE ah with ⟨a3,ah⟩ | ⟨a3,ah⟩
  ·refine CT a3<|WP.quietTail 9 S kr kr<|QFb ?_
   refine QB 1 (ptr d 7) ?_
   refine WQ.val (fun w hw=>by obtain ⟨_,hq,S⟩:=hw; exact (R.loadBN (i:=0) (vs:=[(int g103.1.fform),(str g103.1.fvalue)]) S rfl rfl zBt rfl rfl))<|QFb ?_
   refine QB 1 (int 0)<|QFb ?_
   refine QB 1 (int 0)<|B ah fun br cr ah=>WQ.call (v:=int br) rfl (fun w H' hq S=>zAg S.holds (hG.post S.post) g103.1 0 0 cr)<|QNn<|WQ.nil ?_
   intro es ct cu S
   have j:=j.up cu
   refine W.store (i:=3) [(boo (g50.2||(decide (64≤(k.length:Int))))),(boo g54.2),(boo g58.2),(boo g62.2),(boo g66.2),(boo g70.2),(boo g74.2),(int br),(int (-1)),(int (-1)),(int (-1))] S rfl rfl rfl lay3 rfl rfl (Nat.le_of_ble_eq_true rfl) rfl ?_
   intro et S
   refine We ?_
   obtain rfl:=oi ah
   exact ⟨ct,bp,ab,rfl,rfl,rfl,rfl,j,(S.pk [2,3,11,12])⟩
  refine CF a3<|Wk ?_
  obtain rfl:=oi ah
  exact ⟨bq,bp,ab,rfl,rfl,rfl,rfl,j,(S.pk [2,3,11,12])⟩
 rintro f w ⟨au,bs,a4,bt,a5,a6,cv,j,S⟩
 refine Wg ?_
 refine WL.w (v:=int 1) (R.ofEq (R.add cv rfl) rfl)<|M<|We<|RD.succ<|Ws<|Wg ?_
 refine WL.w (v:=boo true) (R.ofEq (R.lss rfl a6) rfl)<|We<|Ws<|WP.condT (b:=true) rfl rfl<|Wk ?_
 refine Ws<|B h fun al ai h=>WP.cut (fun f w=>∃ (av:Hp),f 2=(ptr p 0)∧f 4=(mapv q)∧f 25=(ptr d 0)∧f 116=t∧f 117=(int 4)∧f 118=(int 1)∧Sl (α:=Raw 4) av t ([⟨[(str [109,97,120,45,97,103,101]),(ptr d 7),(int 0),(int 0)],rfl,rfl⟩,⟨[(str [115,45,109,97,120,97,103,101]),(ptr d 8),(int 0),(int 0)],rfl,rfl⟩,⟨[(str [109,105,110,45,102,114,101,115,104]),(ptr d 9),(int 2147483647),(int 2147483647)],rfl,rfl⟩,⟨[(str [109,97,120,45,115,116,97,108,101]),(ptr d 10),(int 2147483647),(int 0)],rfl,rfl⟩]:List (Raw 4))∧St w0 H0 w av [.row t 263 4 ([⟨[(str [109,97,120,45,97,103,101]),(ptr d 7),(int 0),(int 0)],rfl,rfl⟩,⟨[(str [115,45,109,97,120,97,103,101]),(ptr d 8),(int 0),(int 0)],rfl,rfl⟩,⟨[(str [109,105,110,45,102,114,101,115,104]),(ptr d 9),(int 2147483647),(int 2147483647)],rfl,rfl⟩,⟨[(str [109,97,120,45,115,116,97,108,101]),(ptr d 10),(int 2147483647),(int 0)],rfl,rfl⟩]:List (Raw 4)).length,.box d 164 [(boo (g50.2||(decide (64≤(k.length:Int))))),(boo g54.2),(boo g58.2),(boo g62.2),(boo g66.2),(boo g70.2),(boo g74.2),(int ac),(int al),(int (-1)),(int (-1))],.mp q (encm (fun x:Gcachecontrol_directive=>(agg [(int x.fform),(str x.fvalue)])) l),.box p 164 [(boo false),(boo false),(boo false),(boo false),(boo false),(boo false),(boo false),(int 0),(int 0),(int 0),(int 0)]]) ?_ ?_
 ·refine Wb<|Ws<|Wg<|W.idx (α:=Raw 4) (c:=⟨[(str [115,45,109,97,120,97,103,101]),(ptr d 8),(int 0),(int 0)],rfl,rfl⟩) j a5 rfl el264 rfl ?_
  rintro eu _ cw rfl
  refine WL.w (R.loadHN (vs:=[(str [115,45,109,97,120,97,103,101]),(ptr d 8),(int 0),(int 0)]) S rfl cw zGE rfl rfl) ?_
  refine W.alloc [(str []),(.pointer none),(int 0),(int 0)] S zGl ?_
  intro ew ex S
  refine W.store (i:=0) [(str [115,45,109,97,120,97,103,101]),(ptr d 8),(int 0),(int 0)] S rfl rfl rfl zGE rfl rfl (Nat.le_of_ble_eq_true rfl) rfl ?_
  intro ey S
  refine We<|Ws<|Wg<|M' a4<|Fb ?_
  refine Lo 0 S<|B ai fun g132 cx ai=>?_
  refine WL.w (v:=.tuple ⟨[(agg [(int g132.1.fform),(str g132.1.fvalue)]),(boo g132.2)]⟩) (R.ofEq (R.lookup (fun x:Gcachecontrol_directive=>(agg [(int x.fform),(str x.fvalue)])) (i:=3) (m:=l) (z:=(⟨0,[]⟩:Gcachecontrol_directive)) S rfl rfl rfl Tryz.underlying256 Tryz.underlying9 mz258 rfl) (by rw [oi cx]))<|M ?_
  refine Ex ?_
  refine Ex ?_
  refine W.alloc [(int 0),(str [])] S zDI ?_
  intro ez e0 S
  refine W.store (i:=0) [(int g132.1.fform),(str g132.1.fvalue)] S rfl rfl rfl zBt rfl rfl (Nat.le_of_ble_eq_true rfl) rfl ?_
  intro e1 S
  refine A<|We<|Ws<|Wg<|M<|We ?_
  rcases condE ai with ⟨a7,ai⟩ | ⟨a7,ai⟩
  ·refine CT a7<|WP.quietTail 9 S kr kr<|QFb ?_
   refine QB 1 (ptr d 8) ?_
   refine WQ.val (fun w hw=>by obtain ⟨_,hq,S⟩:=hw; exact (R.loadBN (i:=0) (vs:=[(int g132.1.fform),(str g132.1.fvalue)]) S rfl rfl zBt rfl rfl))<|QFb ?_
   refine QB 1 (int 0)<|QFb ?_
   refine QB 1 (int 0)<|B ai fun bu cy ai=>WQ.call (v:=int bu) rfl (fun w H' hq S=>zAg S.holds (hG.post S.post) g132.1 0 0 cy)<|QNn<|WQ.nil ?_
   intro e2 cz c0 S
   have j:=j.up c0
   refine W.store (i:=3) [(boo (g50.2||(decide (64≤(k.length:Int))))),(boo g54.2),(boo g58.2),(boo g62.2),(boo g66.2),(boo g70.2),(boo g74.2),(int ac),(int bu),(int (-1)),(int (-1))] S rfl rfl rfl lay3 rfl rfl (Nat.le_of_ble_eq_true rfl) rfl ?_
   intro e3 S
   refine We ?_
   obtain rfl:=oi ai
   exact ⟨cz,bs,a4,bt,a5,a6,rfl,j,(S.pk [2,3,4,5])⟩
  refine CF a7<|Wk ?_
  obtain rfl:=oi ai
  exact ⟨au,bs,a4,bt,a5,a6,rfl,j,(S.pk [2,3,4,5])⟩
 rintro f w ⟨av,bv,a8,bw,a9,ba,c1,j,S⟩
 refine Wg ?_
 refine WL.w (v:=int 2) (R.ofEq (R.add c1 rfl) rfl)<|M<|We<|RD.succ<|Ws<|Wg ?_
 refine WL.w (v:=boo true) (R.ofEq (R.lss rfl ba) rfl)<|We<|Ws<|WP.condT (b:=true) rfl rfl<|Wk ?_
 refine Ws<|B h fun an aj h=>WP.cut (fun f w=>∃ (aw:Hp),f 2=(ptr p 0)∧f 4=(mapv q)∧f 25=(ptr d 0)∧f 116=t∧f 117=(int 4)∧f 118=(int 2)∧Sl (α:=Raw 4) aw t ([⟨[(str [109,97,120,45,97,103,101]),(ptr d 7),(int 0),(int 0)],rfl,rfl⟩,⟨[(str [115,45,109,97,120,97,103,101]),(ptr d 8),(int 0),(int 0)],rfl,rfl⟩,⟨[(str [109,105,110,45,102,114,101,115,104]),(ptr d 9),(int 2147483647),(int 2147483647)],rfl,rfl⟩,⟨[(str [109,97,120,45,115,116,97,108,101]),(ptr d 10),(int 2147483647),(int 0)],rfl,rfl⟩]:List (Raw 4))∧St w0 H0 w aw [.row t 263 4 ([⟨[(str [109,97,120,45,97,103,101]),(ptr d 7),(int 0),(int 0)],rfl,rfl⟩,⟨[(str [115,45,109,97,120,97,103,101]),(ptr d 8),(int 0),(int 0)],rfl,rfl⟩,⟨[(str [109,105,110,45,102,114,101,115,104]),(ptr d 9),(int 2147483647),(int 2147483647)],rfl,rfl⟩,⟨[(str [109,97,120,45,115,116,97,108,101]),(ptr d 10),(int 2147483647),(int 0)],rfl,rfl⟩]:List (Raw 4)).length,.box d 164 [(boo (g50.2||(decide (64≤(k.length:Int))))),(boo g54.2),(boo g58.2),(boo g62.2),(boo g66.2),(boo g70.2),(boo g74.2),(int ac),(int al),(int an),(int (-1))],.mp q (encm (fun x:Gcachecontrol_directive=>(agg [(int x.fform),(str x.fvalue)])) l),.box p 164 [(boo false),(boo false),(boo false),(boo false),(boo false),(boo false),(boo false),(int 0),(int 0),(int 0),(int 0)]]) ?_ ?_
 ·refine Wb<|Ws<|Wg<|W.idx (α:=Raw 4) (c:=⟨[(str [109,105,110,45,102,114,101,115,104]),(ptr d 9),(int 2147483647),(int 2147483647)],rfl,rfl⟩) j a9 rfl el264 rfl ?_
  rintro e4 _ c2 rfl
  refine WL.w (R.loadHN (vs:=[(str [109,105,110,45,102,114,101,115,104]),(ptr d 9),(int 2147483647),(int 2147483647)]) S rfl c2 zGE rfl rfl) ?_
  refine W.alloc [(str []),(.pointer none),(int 0),(int 0)] S zGl ?_
  intro e5 e6 S
  refine W.store (i:=0) [(str [109,105,110,45,102,114,101,115,104]),(ptr d 9),(int 2147483647),(int 2147483647)] S rfl rfl rfl zGE rfl rfl (Nat.le_of_ble_eq_true rfl) rfl ?_
  intro e7 S
  refine We<|Ws<|Wg<|M' a8<|Fb ?_
  refine Lo 0 S<|B aj fun g161 c3 aj=>?_
  refine WL.w (v:=.tuple ⟨[(agg [(int g161.1.fform),(str g161.1.fvalue)]),(boo g161.2)]⟩) (R.ofEq (R.lookup (fun x:Gcachecontrol_directive=>(agg [(int x.fform),(str x.fvalue)])) (i:=3) (m:=l) (z:=(⟨0,[]⟩:Gcachecontrol_directive)) S rfl rfl rfl Tryz.underlying256 Tryz.underlying9 mz258 rfl) (by rw [oi c3]))<|M ?_
  refine Ex ?_
  refine Ex ?_
  refine W.alloc [(int 0),(str [])] S zDI ?_
  intro e8 e9 S
  refine W.store (i:=0) [(int g161.1.fform),(str g161.1.fvalue)] S rfl rfl rfl zBt rfl rfl (Nat.le_of_ble_eq_true rfl) rfl ?_
  intro fa S
  refine A<|We<|Ws<|Wg<|M<|We ?_
  rcases condE aj with ⟨bb,aj⟩ | ⟨bb,aj⟩
  ·refine CT bb<|WP.quietTail 9 S kr kr<|QFb ?_
   refine QB 1 (ptr d 9) ?_
   refine WQ.val (fun w hw=>by obtain ⟨_,hq,S⟩:=hw; exact (R.loadBN (i:=0) (vs:=[(int g161.1.fform),(str g161.1.fvalue)]) S rfl rfl zBt rfl rfl))<|QFb ?_
   refine QB 1 (int 2147483647)<|QFb ?_
   refine QB 1 (int 2147483647)<|B aj fun bx c4 aj=>WQ.call (v:=int bx) rfl (fun w H' hq S=>zAg S.holds (hG.post S.post) g161.1 2147483647 2147483647 c4)<|QNn<|WQ.nil ?_
   intro fb c5 c6 S
   have j:=j.up c6
   refine W.store (i:=3) [(boo (g50.2||(decide (64≤(k.length:Int))))),(boo g54.2),(boo g58.2),(boo g62.2),(boo g66.2),(boo g70.2),(boo g74.2),(int ac),(int al),(int bx),(int (-1))] S rfl rfl rfl lay3 rfl rfl (Nat.le_of_ble_eq_true rfl) rfl ?_
   intro fc S
   refine We ?_
   obtain rfl:=oi aj
   exact ⟨c5,bv,a8,bw,a9,ba,rfl,j,(S.pk [2,3,4,5])⟩
  refine CF bb<|Wk ?_
  obtain rfl:=oi aj
  exact ⟨av,bv,a8,bw,a9,ba,rfl,j,(S.pk [2,3,4,5])⟩
 rintro f w ⟨aw,bz,bc,b0,bd,be,c7,j,S⟩
 refine Wg ?_
 refine WL.w (v:=int 3) (R.ofEq (R.add c7 rfl) rfl)<|M<|We<|RD.succ<|Ws<|Wg ?_
 refine WL.w (v:=boo true) (R.ofEq (R.lss rfl be) rfl)<|We<|Ws<|WP.condT (b:=true) rfl rfl<|Wk ?_
 refine Ws<|B h fun ax ak h=>WP.cut (fun f w=>∃ (bf:Hp),f 2=(ptr p 0)∧f 4=(mapv q)∧f 25=(ptr d 0)∧f 116=t∧f 117=(int 4)∧f 118=(int 3)∧Sl (α:=Raw 4) bf t ([⟨[(str [109,97,120,45,97,103,101]),(ptr d 7),(int 0),(int 0)],rfl,rfl⟩,⟨[(str [115,45,109,97,120,97,103,101]),(ptr d 8),(int 0),(int 0)],rfl,rfl⟩,⟨[(str [109,105,110,45,102,114,101,115,104]),(ptr d 9),(int 2147483647),(int 2147483647)],rfl,rfl⟩,⟨[(str [109,97,120,45,115,116,97,108,101]),(ptr d 10),(int 2147483647),(int 0)],rfl,rfl⟩]:List (Raw 4))∧St w0 H0 w bf [.row t 263 4 ([⟨[(str [109,97,120,45,97,103,101]),(ptr d 7),(int 0),(int 0)],rfl,rfl⟩,⟨[(str [115,45,109,97,120,97,103,101]),(ptr d 8),(int 0),(int 0)],rfl,rfl⟩,⟨[(str [109,105,110,45,102,114,101,115,104]),(ptr d 9),(int 2147483647),(int 2147483647)],rfl,rfl⟩,⟨[(str [109,97,120,45,115,116,97,108,101]),(ptr d 10),(int 2147483647),(int 0)],rfl,rfl⟩]:List (Raw 4)).length,.box d 164 [(boo (g50.2||(decide (64≤(k.length:Int))))),(boo g54.2),(boo g58.2),(boo g62.2),(boo g66.2),(boo g70.2),(boo g74.2),(int ac),(int al),(int an),(int ax)],.mp q (encm (fun x:Gcachecontrol_directive=>(agg [(int x.fform),(str x.fvalue)])) l),.box p 164 [(boo false),(boo false),(boo false),(boo false),(boo false),(boo false),(boo false),(int 0),(int 0),(int 0),(int 0)]]) ?_ ?_
 ·refine Wb<|Ws<|Wg<|W.idx (α:=Raw 4) (c:=⟨[(str [109,97,120,45,115,116,97,108,101]),(ptr d 10),(int 2147483647),(int 0)],rfl,rfl⟩) j bd rfl el264 rfl ?_
  rintro fd _ c8 rfl
  refine WL.w (R.loadHN (vs:=[(str [109,97,120,45,115,116,97,108,101]),(ptr d 10),(int 2147483647),(int 0)]) S rfl c8 zGE rfl rfl) ?_
  refine W.alloc [(str []),(.pointer none),(int 0),(int 0)] S zGl ?_
  intro fe ff S
  refine W.store (i:=0) [(str [109,97,120,45,115,116,97,108,101]),(ptr d 10),(int 2147483647),(int 0)] S rfl rfl rfl zGE rfl rfl (Nat.le_of_ble_eq_true rfl) rfl ?_
  intro fg S
  refine We<|Ws<|Wg<|M' bc<|Fb ?_
  refine Lo 0 S<|B ak fun g190 c9 ak=>?_
  refine WL.w (v:=.tuple ⟨[(agg [(int g190.1.fform),(str g190.1.fvalue)]),(boo g190.2)]⟩) (R.ofEq (R.lookup (fun x:Gcachecontrol_directive=>(agg [(int x.fform),(str x.fvalue)])) (i:=3) (m:=l) (z:=(⟨0,[]⟩:Gcachecontrol_directive)) S rfl rfl rfl Tryz.underlying256 Tryz.underlying9 mz258 rfl) (by rw [oi c9]))<|M ?_
  refine Ex ?_
  refine Ex ?_
  refine W.alloc [(int 0),(str [])] S zDI ?_
  intro fh fi S
  refine W.store (i:=0) [(int g190.1.fform),(str g190.1.fvalue)] S rfl rfl rfl zBt rfl rfl (Nat.le_of_ble_eq_true rfl) rfl ?_
  intro fj S
  refine A<|We<|Ws<|Wg<|M<|We ?_
  rcases condE ak with ⟨bg,ak⟩ | ⟨bg,ak⟩
  ·refine CT bg<|WP.quietTail 9 S kr kr<|QFb ?_
   refine QB 1 (ptr d 10) ?_
   refine WQ.val (fun w hw=>by obtain ⟨_,hq,S⟩:=hw; exact (R.loadBN (i:=0) (vs:=[(int g190.1.fform),(str g190.1.fvalue)]) S rfl rfl zBt rfl rfl))<|QFb ?_
   refine QB 1 (int 2147483647)<|QFb ?_
   refine QB 1 (int 0)<|B ak fun b2 da ak=>WQ.call (v:=int b2) rfl (fun w H' hq S=>zAg S.holds (hG.post S.post) g190.1 2147483647 0 da)<|QNn<|WQ.nil ?_
   intro fk db dc S
   have j:=j.up dc
   refine W.store (i:=3) [(boo (g50.2||(decide (64≤(k.length:Int))))),(boo g54.2),(boo g58.2),(boo g62.2),(boo g66.2),(boo g70.2),(boo g74.2),(int ac),(int al),(int an),(int b2)] S rfl rfl rfl lay3 rfl rfl (Nat.le_of_ble_eq_true rfl) rfl ?_
   intro fl S
   refine We ?_
   obtain rfl:=oi ak
   exact ⟨db,bz,bc,b0,bd,be,rfl,j,(S.pk [2,3,4,5])⟩
  refine CF bg<|Wk ?_
  obtain rfl:=oi ak
  exact ⟨aw,bz,bc,b0,bd,be,rfl,j,(S.pk [2,3,4,5])⟩
 rintro f w ⟨bf,b3,fm,dd,fn,de,df,j,S⟩
 refine Wg ?_
 refine WL.w (v:=int 4) (R.ofEq (R.add df rfl) rfl)<|M<|We<|RD.succ<|Ws<|Wg ?_
 refine WL.w (v:=boo false) (R.ofEq (R.lss rfl de) rfl)<|We<|Ws<|WP.condF (b:=false) rfl rfl<|Wx ?_
 refine Ws<|Wg ?_
 refine WL.w (R.loadBN (i:=1) (vs:=[(boo (g50.2||(decide (64≤(k.length:Int))))),(boo g54.2),(boo g58.2),(boo g62.2),(boo g66.2),(boo g70.2),(boo g74.2),(int ac),(int al),(int an),(int ax)]) S dd rfl zEb rfl rfl) ?_
 refine W.store (i:=3) [(boo (g50.2||(decide (64≤(k.length:Int))))),(boo g54.2),(boo g58.2),(boo g62.2),(boo g66.2),(boo g70.2),(boo g74.2),(int ac),(int al),(int an),(int ax)] S b3 rfl rfl zEb rfl rfl (Nat.le_of_ble_eq_true rfl) rfl ?_
 intro fo S
 refine We ?_
 obtain rfl:=oi h
 refine WP.ret (Out.one rfl S (Res.cellB (i:=3) (cs:=[(boo (g50.2||(decide (64≤(k.length:Int))))),(boo g54.2),(boo g58.2),(boo g62.2),(boo g66.2),(boo g70.2),(boo g74.2),(int ac),(int al),(int an),(int ax)]) S b3 rfl zEb rfl rfl) ?_)
 exact rfl
theorem zAj {b:World} {c:Hp} (hw:Holds b c) (hG:Tryz.Gl b) (d:(List GField)) (f:Str) {j:Value} (i:Sl c j d) {r:Bool} (h:zAw d f=some r) :
  Cb Tryz.prog 104 [j,(str f)] b c r:=by
 refine CM 11 Tryz.func104 hw fun S=>?_
 refine Ws<|Wg<|A<|We<|Ws<|Wg<|M<|M<|B h fun k l h=>W.call S rfl (zAl S.holds (hG.post S.post) f l) ?_
 rintro t u v o S ⟨kr1,cr1,rfl,Fr1⟩
 have i:=i.up o
 refine B h fun x p h=>W.call S rfl (zBc S.holds (hG.post S.post) d k i (fun hle=>Fr1 (Hp.le.trans lr hle)) p) ?_
 rintro z w8 H9 ac S q
 refine Nq q<|Lc<|A<|We ?_
 exact WP.ret (Rb h S)
theorem zAv {d:World} {c:Hp} (hw:Holds d c) (hG:Tryz.Gl d) (i:(List Str)) (o:(Str→Option Bool)) {j:Value} {kp_f:FuncId} {cp_f:List Value} (k:Sl c j i) (Fp_f:∀ {w:World} {H:Hp},c.le H→Holds w H→Tryz.Gl w→∀ (u:Str) (rr:Bool),o u=some rr→Con Tryz.prog kp_f ([(str u)]++cp_f) w H (fun H' v=>v=(boo rr))) {r:Int} (h:zAY i o=some r) :
  Ci Tryz.prog 224 [j,(.func (.func kp_f) #[] cp_f.toArray)] d c r:=by
 refine CM 19 Tryz.func224 hw fun S=>?_
 refine Ws<|Wg<|A<|We<|Ws<|Ws<|Wg<|M<|Nq k<|M<|We<|B h fun p ab h=>WP.cut (fun f w=>match p with | .inl _=>∃ (x:Hp),St d c w x [] | .inr _=>False) ?_ ?_
 ·refine Wb ?_
  refine WP.loopM (zAr i o) (fun s f w=>match s with | _=>∃ (l:Hp),f 0=j∧f 1=(.func (.func kp_f) #[] cp_f.toArray)∧f 7=(int (i.length:Int))∧f 8=(int 0)∧Sl l j i∧St d c w l []) () p (lfW ab) ?_ ?_
  ·exact ⟨c,rfl,rfl,rfl,rfl,k,S⟩
  intro s f w hI y7 b z
  obtain ⟨l,h2,h3,h4,h5,k,S⟩:=hI
  refine Ws<|Wg<|La' h5 h4<|We<|Ws ?_
  rcases condE b with ⟨q,b⟩ | ⟨q,b⟩
  ·refine CT q<|Wk<|Ws<|Wb<|Ws<|Wg<|M' h5<|A<|We<|Ws<|Wg<|M' h3 ?_
   refine M' h2<|M<|B b fun af ah b=>W.idx (α:=Str) k rfl rfl el45 ah ?_
   rintro al _ ai rfl
   refine Lq S ai<|B b fun am aj b=>W.callv S rfl rfl (Fp_f (S.post.le) S.holds (hG.post S.post) af _ aj) ?_
   rintro an ao ap aq S rfl
   refine We ?_
   rcases condE b with ⟨t,b⟩ | ⟨t,b⟩
   ·refine CT t<|Ws<|Wg<|M<|A<|We ?_
    obtain rfl:=oi b
    obtain rfl:=z
    exact WP.ret (Ri h S)
   refine CF t ?_
   cases b
  refine CF q<|Wx ?_
  obtain rfl:=oi b
  obtain rfl:=z
  exact ⟨l,S⟩
 intro f w hM
 rcases p with _ | e
 ·obtain ⟨x,S⟩:=hM
  refine Ws<|Wg<|A<|We ?_
  exact WP.ret (Ri h S)
 exact hM.elim
theorem zBg {c:World} {b:Hp} (hw:Holds c b) (hG:Tryz.Gl c) (d:(List Str)) (f:(Str→Option Bool)) {i:Value} {kp_f:FuncId} {cp_f:List Value} (k:Sl b i d) (Fp_f:∀ {w:World} {H:Hp},b.le H→Holds w H→Tryz.Gl w→∀ (j:Str) (rr:Bool),f j=some rr→Con Tryz.prog kp_f ([(str j)]++cp_f) w H (fun H' v=>v=(boo rr))) {r:Bool} (h:zAt d f=some r) :
  Cb Tryz.prog 157 [i,(.func (.func kp_f) #[] cp_f.toArray)] c b r:=by
 refine CM 9 Tryz.func157 hw fun S=>?_
 refine Ws<|Wg<|A<|We<|Ws<|Wg<|M<|M<|B h fun o l h=>W.call S rfl (zAv S.holds (hG.post S.post) d f k (fun hle=>Fp_f (Hp.le.trans S.post.le hle)) l) ?_
 rintro p q t u S rfl
 refine Ld<|A<|We ?_
 exact WP.ret (Rb h S)
theorem zDM {b:World} {c:Hp} (hw:Holds b c) (hG:Tryz.Gl b) (d:Str) {r:Bool} (h:zBH d=some r) :
  Cb Tryz.prog 159 [(str d)] b c r:=by
 refine CM 5 Tryz.func159 hw fun S=>?_
 cases h
theorem zA5 {k:World} {l:Hp} (hw:Holds k l) (hG:Tryz.Gl k) (j:(List GField)) {p:Value} (f:Sl l p j) {r:GControl} (h:zAx j=some r) :
  Con Tryz.prog 95 [p] k l (fun H' v=>v=(agg [(boo r.fNoStore),(boo r.fNoCache),(boo r.fMustRevalidate),(boo r.fProxyRevalidate),(boo r.fPrivate),(boo r.fPublic),(boo r.fOnlyIfCached),(int r.fMaxAge),(int r.fSMaxAge),(int r.fMinFresh),(int r.fMaxStale)])):=by
 refine CM 16 Tryz.func95 hw fun S=>?_
 refine Ws<|Wg ?_
 refine W.alloc [(boo false),(boo false),(boo false),(boo false),(boo false),(boo false),(boo false),(int 0),(int 0),(int 0),(int 0)] S zGh ?_
 intro t w2 S
 refine We<|Ws<|Wg<|M<|B h fun b u h=>W.call S rfl (zAa S.holds (hG.post S.post) j f u) ?_
 rintro v4 w5 H6 x S rfl
 have f:=f.up x
 refine W.alloc [(boo false),(boo false),(boo false),(boo false),(boo false),(boo false),(boo false),(int 0),(int 0),(int 0),(int 0)] S zGh ?_
 intro z w9 S
 refine W.store (i:=0) [(boo b.fNoStore),(boo b.fNoCache),(boo b.fMustRevalidate),(boo b.fProxyRevalidate),(boo b.fPrivate),(boo b.fPublic),(boo b.fOnlyIfCached),(int b.fMaxAge),(int b.fSMaxAge),(int b.fMinFresh),(int b.fMaxStale)] S rfl rfl rfl zEb rfl rfl (Nat.le_of_ble_eq_true rfl) rfl ?_
 intro au S
 refine We<|Ws<|Ws<|Wg<|M<|B h fun aa ab h=>W.call S rfl (zAj S.holds (hG.post S.post) j [67,97,99,104,101,45,67,111,110,116,114,111,108] f ab) ?_
 rintro av aw q ac S rfl
 have f:=f.up ac
 refine No<|M<|B h fun ad d h=>WL.grpw 4 [10,11,12] 13 (boo ad) (fun w=>∃ H':Hp,q.le H'∧St k l w H' [.box z 164 [(boo b.fNoStore),(boo b.fNoCache),(boo b.fMustRevalidate),(boo b.fProxyRevalidate),(boo b.fPrivate),(boo b.fPublic),(boo b.fOnlyIfCached),(int b.fMaxAge),(int b.fSMaxAge),(int b.fMinFresh),(int b.fMaxStale)],.box t 164 [(boo false),(boo false),(boo false),(boo false),(boo false),(boo false),(boo false),(int 0),(int 0),(int 0),(int 0)]]) ?_ ?_
 ·rcases boolE (!aa) with c | c
  ·replace d:=condT d c
   refine Gy c<|M<|Gy c<|B d fun ae af d=>W.call S rfl (zDF S.holds (hG.post S.post) j [80,114,97,103,109,97] f af) ?_
   rintro ax ay az ah S ai
   refine Gy c<|B d fun a0 aj d=>W.call S rfl (zBg S.holds (hG.post S.post) ae zBH ai (fun hle hw hG x0 r h=>zDM hw hG x0 h) aj) ?_
   rintro a1 a2 al am S rfl
   refine Pt c ?_
   exact We ⟨(ob d),ag,⟨al,(ah.trans am),S⟩⟩
  replace d:=condF d c
  refine Gn c<|Gn c<|Gn c<|Pf c ?_
  exact We ⟨(ob d),ag,⟨q,lr,S⟩⟩
 intro us a3 ⟨a4,a5,S⟩
 refine We ?_
 rcases condE h with ⟨o,h⟩ | ⟨o,h⟩
 ·refine CT o ?_
  cases h
 refine CF o<|Wk<|Ws<|Wg ?_
 refine WL.w (R.loadBN (i:=0) (vs:=[(boo b.fNoStore),(boo b.fNoCache),(boo b.fMustRevalidate),(boo b.fProxyRevalidate),(boo b.fPrivate),(boo b.fPublic),(boo b.fOnlyIfCached),(int b.fMaxAge),(int b.fSMaxAge),(int b.fMinFresh),(int b.fMaxStale)]) S rfl rfl zEb rfl rfl) ?_
 refine W.store (i:=1) [(boo b.fNoStore),(boo b.fNoCache),(boo b.fMustRevalidate),(boo b.fProxyRevalidate),(boo b.fPrivate),(boo b.fPublic),(boo b.fOnlyIfCached),(int b.fMaxAge),(int b.fSMaxAge),(int b.fMinFresh),(int b.fMaxStale)] S rfl rfl rfl zEb rfl rfl (Nat.le_of_ble_eq_true rfl) rfl ?_
 intro a6 S
 refine We ?_
 obtain rfl:=oi h
 refine WP.ret (Out.one rfl S (Res.cellB (i:=1) (cs:=[(boo b.fNoStore),(boo b.fNoCache),(boo b.fMustRevalidate),(boo b.fProxyRevalidate),(boo b.fPrivate),(boo b.fPublic),(boo b.fOnlyIfCached),(int b.fMaxAge),(int b.fSMaxAge),(int b.fMinFresh),(int b.fMaxStale)]) S rfl rfl zEb rfl rfl) ?_)
 exact rfl
theorem zB1 {c:World} {d:Hp} (hw:Holds c d) (hG:Tryz.Gl c) (f:(List GField)) {l:Value} (o:Sl d l f) {r:Int} (h:zBn f=some r) :
  Ci Tryz.prog 162 [l] c d r:=by
 refine CM 39 Tryz.func162 hw fun S=>?_
 refine Ws<|Wg<|A<|We<|Ws<|Wg<|M<|B h fun b p h=>W.call S rfl (zAa S.holds (hG.post S.post) f o p) ?_
 rintro q t u v S rfl
 refine W.alloc [(boo false),(boo false),(boo false),(boo false),(boo false),(boo false),(boo false),(int 0),(int 0),(int 0),(int 0)] S zGh ?_
 intro x z S
 refine W.store (i:=0) [(boo b.fNoStore),(boo b.fNoCache),(boo b.fMustRevalidate),(boo b.fProxyRevalidate),(boo b.fPrivate),(boo b.fPublic),(boo b.fOnlyIfCached),(int b.fMaxAge),(int b.fSMaxAge),(int b.fMinFresh),(int b.fMaxStale)] S rfl rfl rfl zEb rfl rfl (Nat.le_of_ble_eq_true rfl) rfl ?_
 intro w8 S
 refine We<|Ws<|Ws<|Wg<|Fb ?_
 refine Lo 0 S<|Ld<|We ?_
 rcases condE h with ⟨j,h⟩ | ⟨j,h⟩
 ·refine CT j ?_
  cases h
 refine CF j<|Wk<|Ws<|Ws<|Wg<|Fb ?_
 refine Lo 0 S<|Ld<|We ?_
 rcases condE h with ⟨k,h⟩ | ⟨k,h⟩
 ·refine CT k<|Ws<|Wg<|Fb ?_
  refine Lo 0 S<|A<|We ?_
  exact WP.ret (Ri h S)
 refine CF k ?_
 cases h
theorem zFT {z:World} {H0:Hp} (hw:Holds z H0) (hG:Tryz.Gl z) (aa:Str) {r:(Int×Bool)} (h:zE4 aa=some r) :
  Con Tryz.prog 163 [(str aa)] z H0 (fun H' v=>v=(.tuple ⟨[(int r.1),(boo r.2)]⟩)):=by
 refine CM 122 Tryz.func163 hw fun S=>?_
 refine Ws<|Wg<|A<|A<|We<|Ws<|Ws<|Wg<|M<|Ns<|Lf<|M<|B h fun b4 l h=>WL.grp 4 [14,15,16] 17 (boo b4) ?_ ?_
 ·rcases boolE ((aa.length:Int) !=29) with b | b
  ·replace l:=condT l b
   refine Gn b<|Gn b<|Gn b<|Pt b ?_
   exact We ⟨(ob l),ag,rfl⟩
  replace l:=condF l b
  refine Gy b<|M<|Gy b<|B l fun s3 ak l=>Jb ak<|Gy b<|Nb<|Pf b ?_
  exact We ⟨(ob l),ag,rfl⟩
 intro us
 refine M<|B h fun b8 o h=>WL.grp 4 [19,20,21] 22 (boo b8) ?_ ?_
 ·rcases boolE b4 with c | c
  ·replace o:=condT o c
   refine Gn c<|Gn c<|Gn c<|Pt c ?_
   exact We ⟨(ob o),ag,rfl⟩
  replace o:=condF o c
  refine Gy c<|M<|Gy c<|B o fun c7 am o=>Ja am<|Gy c<|Mf c7 32<|Pf c ?_
  exact We ⟨(ob o),ag,rfl⟩
 intro us
 refine M<|B h fun af p h=>WL.grp 4 [24,25,26] 27 (boo af) ?_ ?_
 ·rcases boolE b8 with d | d
  ·replace p:=condT p d
   refine Gn d<|Gn d<|Gn d<|Pt d ?_
   exact We ⟨(ob p),ag,rfl⟩
  replace p:=condF p d
  refine Gy d<|M<|Gy d<|B p fun an ao p=>Ja ao<|Gy d<|Mf an 32<|Pf d ?_
  exact We ⟨(ob p),ag,rfl⟩
 intro us
 refine M<|B h fun ah q h=>WL.grp 4 [29,30,31] 32 (boo ah) ?_ ?_
 ·rcases boolE af with f | f
  ·replace q:=condT q f
   refine Gn f<|Gn f<|Gn f<|Pt f ?_
   exact We ⟨(ob q),ag,rfl⟩
  replace q:=condF q f
  refine Gy f<|M<|Gy f<|B q fun ap aq q=>Ja aq<|Gy f<|Mf ap 32<|Pf f ?_
  exact We ⟨(ob q),ag,rfl⟩
 intro us
 refine M<|B h fun ai t h=>WL.grp 4 [34,35,36] 37 (boo ai) ?_ ?_
 ·rcases boolE ah with i | i
  ·replace t:=condT t i
   refine Gn i<|Gn i<|Gn i<|Pt i ?_
   exact We ⟨(ob t),ag,rfl⟩
  replace t:=condF t i
  refine Gy i<|M<|Gy i<|B t fun ar au t=>Ja au<|Gy i<|Mf ar 58<|Pf i ?_
  exact We ⟨(ob t),ag,rfl⟩
 intro us
 refine M<|B h fun aj u h=>WL.grp 4 [39,40,41] 42 (boo aj) ?_ ?_
 ·rcases boolE ai with j | j
  ·replace u:=condT u j
   refine Gn j<|Gn j<|Gn j<|Pt j ?_
   exact We ⟨(ob u),ag,rfl⟩
  replace u:=condF u j
  refine Gy j<|M<|Gy j<|B u fun av aw u=>Ja aw<|Gy j<|Mf av 58<|Pf j ?_
  exact We ⟨(ob u),ag,rfl⟩
 intro us
 refine M<|B h fun ax x h=>WL.grp 4 [44,45,46] 47 (boo ax) ?_ ?_
 ·rcases boolE aj with k | k
  ·replace x:=condT x k
   refine Gn k<|Gn k<|Gn k<|Pt k ?_
   exact We ⟨(ob x),ag,rfl⟩
  replace x:=condF x k
  refine Gy k<|M<|Gy k<|B x fun a0 ay x=>Jc ay<|Gy k<|Nb<|Pf k ?_
  exact We ⟨(ob x),ag,rfl⟩
 intro us
 refine We ?_
 rcases condE h with ⟨ab,h⟩ | ⟨ab,h⟩
 ·refine CT ab<|Ws<|Wg<|A<|A<|We ?_
  obtain rfl:=oi h
  refine WP.ret (Out.two rfl S rfl rfl ?_)
  exact rfl
 refine CF ab ?_
 cases h
theorem zFo {b:World} {c:Hp} (hw:Holds b c) (hG:Tryz.Gl b) (d:(List GField)) (f:Str) {i:Value} (j:Sl c i d) {r:(Int×Bool)} (h:zEI d f=some r) :
  Con Tryz.prog 226 [i,(str f)] b c (fun H' v=>v=(.tuple ⟨[(int r.1),(boo r.2)]⟩)):=by
 refine CM 18 Tryz.func226 hw fun S=>?_
 refine Ws<|Wg<|A<|A<|We<|Ws<|Wg<|M<|M<|B h fun k l h=>W.call S rfl (zA7 S.holds (hG.post S.post) d f j l) ?_
 rintro p q t u S rfl
 refine M ?_
 refine Ex ?_
 refine Ex<|A<|A<|We<|Ws<|Wg<|M<|B h fun x o h=>W.call S rfl (zFT S.holds (hG.post S.post) k.1 o) ?_
 rintro z w8 H9 ac S rfl
 refine Ex ?_
 refine Ex<|A<|A<|We ?_
 obtain rfl:=oi h
 refine WP.ret (Out.two rfl S rfl rfl ?_)
 exact rfl
theorem zGA {b:World} {c:Hp} (hw:Holds b c) (hG:Tryz.Gl b) (d:(List GField)) (i:Int) {j:Value} (k:Sl c j d) {r:Int} (h:zEh d i=some r) :
  Ci Tryz.prog 235 [j,(int i)] b c r:=by
 refine CM 15 Tryz.func235 hw fun S=>?_
 refine Ws<|Wg<|A<|We<|Ws<|Ws<|Wg<|M<|B h fun o l h=>W.call S rfl (zFo S.holds (hG.post S.post) d [68,97,116,101] k l) ?_
 rintro p q t u S rfl
 refine M ?_
 refine Ex ?_
 refine Ex<|A<|A<|We<|Ws<|Wg<|M<|We ?_
 rcases condE h with ⟨f,h⟩ | ⟨f,h⟩
 ·refine CT f ?_
  cases h
 refine CF f<|Wk<|Ws<|Wg<|M<|A<|We ?_
 exact WP.ret (Ri h S)
theorem zEL {b:World} {c:Hp} (hw:Holds b c) (hG:Tryz.Gl b) (d:Int) (f:Int) {r:Int} (h:zDA d f=some r) :
  Ci Tryz.prog 227 [(int d),(int f)] b c r:=by
 refine CM 10 Tryz.func227 hw fun S=>?_
 refine Ws<|Wg<|A<|We<|Ws<|Wg<|M<|M<|Lh<|Nj<|Ni<|A ?_
 refine We ?_
 exact WP.ret (Ri h S)
theorem zGR {p:World} {q:Hp} (hw:Holds p q) (hG:Tryz.Gl p) (l:(List GField)) (c:Int) (b:Int) (j:Int) {u:Value} (k:Sl q u l) {r:Int} (h:zEv l c b j=some r) :
  Ci Tryz.prog 169 [u,(int c),(int b),(int j)] p q r:=by
 refine CM 60 Tryz.func169 hw fun S=>?_
 refine Ws<|Wg<|A<|We<|Ws<|Ws<|Wg<|M<|La<|M ?_
 refine WL.grp 4 [18,19,20] 21 (boo ((decide (c<0))||(decide (b<c)))) ?_ ?_
 ·rcases boolE (decide (c<0)) with d | d
  ·refine Gn d<|Gn d<|Gn d<|Pt d ?_
   exact We ⟨(orT d),ag,rfl⟩
  refine Gy d<|M<|Gy d<|M<|Gy d<|La<|Pf d ?_
  exact We ⟨(orF d),ag,rfl⟩
 intro us
 refine M ?_
 refine WL.grp 4 [23,24,25] 26 (boo (((decide (c<0))||(decide (b<c)))||(decide (j<b)))) ?_ ?_
 ·rcases boolE ((decide (c<0))||(decide (b<c))) with f | f
  ·refine Gn f<|Gn f<|Gn f<|Pt f ?_
   exact We ⟨(orT f),ag,rfl⟩
  refine Gy f<|M<|Gy f<|M<|Gy f<|La<|Pf f ?_
  exact We ⟨(orF f),ag,rfl⟩
 intro us
 refine M ?_
 refine WL.grp 3 [28,29] 30 (boo ((((decide (c<0))||(decide (b<c)))||(decide (j<b)))||(decide (1099511627776<j)))) ?_ ?_
 ·rcases boolE (((decide (c<0))||(decide (b<c)))||(decide (j<b))) with i | i
  ·refine Gn i<|Gn i<|Pt i ?_
   exact We ⟨(orT i),ag,rfl⟩
  refine Gy i<|M<|Gy i<|Lc<|Pf i ?_
  exact We ⟨(orF i),ag,rfl⟩
 intro us
 refine We ?_
 rcases condE h with ⟨t,h⟩ | ⟨t,h⟩
 ·refine CT t ?_
  cases h
 refine CF t<|Wk<|Ws<|Wg<|M<|B h fun x z h=>W.call S rfl (zA7 S.holds (hG.post S.post) l [65,103,101] k z) ?_
 rintro v9 ah ai aa S rfl
 have k:=k.up aa
 refine M ?_
 refine Ex ?_
 refine Ex<|A<|A<|We<|Ws<|Wg<|M<|B h fun v ab h=>W.call S rfl (zA9 S.holds (hG.post S.post) x.1 ab) ?_
 rintro aj ak al ac S rfl
 have k:=k.up ac
 refine M ?_
 refine Ex ?_
 refine Ex<|A<|A<|We<|Ws<|Wg<|M<|M<|M<|B h fun o ad h=>W.call S rfl (zGA S.holds (hG.post S.post) l b k ad) ?_
 rintro am an ao ap S rfl
 refine Lh<|Nj<|A<|We<|Ws<|Wg<|M<|M<|Lg<|M<|Lh<|A ?_
 refine We<|Ws<|Wg<|M<|M<|Nj<|M<|Lg<|M<|Lh<|B h fun aq ae h=>W.call S rfl (zEL S.holds (hG.post S.post) (wr ((wr ((if (if 0<(wr (b - o)) then (wr (b - o)) else 0)<(wr ((wr (v.1+b)) - c)) then (wr ((wr (v.1+b)) - c)) else (if 0<(wr (b - o)) then (wr (b - o)) else 0))+j)) - b)) 0 ae) ?_
 rintro ar au av aw S rfl
 refine A<|We ?_
 exact WP.ret (Ri h S)
theorem zFy {d:World} {c:Hp} (hw:Holds d c) (hG:Tryz.Gl d) (b:GEntry) (f:Int) {i:Value} {j:Value} {k:Value} {l:Value} (q:Sl c i b.fKeys) (t:Sl c j b.fVary) (u:Sl c k b.fSnapshot) (o:Sl c l b.fFields) {r:Int} (h:zF5 b f=some r) :
  Ci Tryz.prog 101 [(agg [i,j,k,(str b.fReason),l,(str b.fBody),(int b.fRequested),(int b.fReceived)]),(int f)] d c r:=by
 refine CM 13 Tryz.func101 hw fun S=>?_
 refine Ws<|Wg ?_
 refine W.box [i,j,k,(str b.fReason),l,(str b.fBody),(int b.fRequested),(int b.fReceived)] S rfl rfl ?_
 intro v x S
 refine A<|We<|Ws<|Wg<|Fb ?_
 refine Lo 0 S<|Fb ?_
 refine Lo 0 S<|Fb ?_
 refine Lo 0 S<|M<|B h fun z p h=>W.call S rfl (zGR S.holds (hG.post S.post) b.fFields b.fRequested b.fReceived f o p) ?_
 rintro v4 w5 H6 ad S rfl
 refine A<|We ?_
 exact WP.ret (Ri h S)
end Go.Proofs

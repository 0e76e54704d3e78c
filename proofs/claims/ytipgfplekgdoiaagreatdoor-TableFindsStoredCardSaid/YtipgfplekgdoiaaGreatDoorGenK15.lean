/- A part. -/
import Derived.Test.YtipgfplekgdoiaaGreatDoorEng38
import Derived.Test.YtipgfplekgdoiaaGreatDoorEng33
import Derived.Test.YtipgfplekgdoiaaGreatDoorGenK14
namespace Go.Proofs
set_option maxHeartbeats 4000000
set_option maxRecDepth 10000
open Go.Eng Go.Eng.Pure
set_option linter.unusedVariables false
theorem zCf {w0:World} {H0:Hp} (hw:Holds w0 H0) (z:GEntry) {dn:Value} {cq:Value} {cr:Value} {ct:Value} (af:Sl H0 dn z.fKeys) (gz:Sl H0 cq z.fVary) (g0:Sl H0 cr z.fSnapshot) (g1:Sl H0 ct z.fFields) {r:GEntry} (h:zEc z=some r) :
  Con Tryz.prog 50 [(agg [dn,cq,cr,(str z.fReason),ct,(str z.fBody),(int z.fRequested),(int z.fReceived)])] w0 H0 (fun H' v=>∃ u1 u2 u3 u4:Value,v=(agg [u1,u2,u3,(str r.fReason),u4,(str r.fBody),(int r.fRequested),(int r.fReceived)])∧Sl H' u1 r.fKeys∧Sl H' u2 r.fVary∧Sl H' u3 r.fSnapshot∧Sl H' u4 r.fFields):=by
 refine CM 36 Tryz.func50 hw fun S=>?_
 refine Ws<|Wg ?_
 refine W.box [dn,cq,cr,(str z.fReason),ct,(str z.fBody),(int z.fRequested),(int z.fReceived)] S rfl rfl ?_
 intro b1 w2 S
 refine W.alloc [(.slice none 0 0),(.slice none 0 0),(.slice none 0 0),(str []),(.slice none 0 0),(str []),(int 0),(int 0)] S zer36 ?_
 intro b3 w4 S
 refine We<|Ws<|Wg<|Fb ?_
 refine Lo 1 S<|A<|We<|Ws<|Wg<|Fb ?_
 refine W.store (i:=1) [(.slice none 0 0),cq,cr,(str z.fReason),ct,(str z.fBody),(int z.fRequested),(int z.fReceived)] S rfl rfl rfl lay33 rfl (AllOne.all (l:=[(.slice none 0 0)]) (.cons rfl .nil)) (Nat.le_of_ble_eq_true rfl) rfl ?_
 intro w5 S
 refine We<|Ws<|Ws<|Wg<|M<|Nq af<|M<|We ?_
 obtain ⟨v6,e8⟩:∃ v:Value,v=.slice none 0 0:=⟨_,rfl⟩
 have R8:Sl (α:=(List Str)) H0 v6 []:=by rw [e8]; exact Sl.nil
 replace S:=(show ∀ {w:World},St w0 H0 w H0 [.box b3 36 [(.slice none 0 0),(.slice none 0 0),(.slice none 0 0),(str []),(.slice none 0 0),(str []),(int 0),(int 0)],.box b1 36 [(.slice none 0 0),cq,cr,(str z.fReason),ct,(str z.fBody),(int z.fRequested),(int z.fReceived)]]→St w0 H0 w H0 [.box b3 36 [(.slice none 0 0),(.slice none 0 0),(.slice none 0 0),(str []),(.slice none 0 0),(str []),(int 0),(int 0)],.box b1 36 [v6,cq,cr,(str z.fReason),ct,(str z.fBody),(int z.fRequested),(int z.fReceived)]] from fun S=>by rw [e8]; exact S) S
 replace S:=St.addNilV e8 S 34 1
 refine B h fun e9 g3 h=>WP.cut (fun f w=>match e9 with | (ak,a4,aw,p,ax,q,t,u)=>∃ (ai:Hp) (o:Value) (fa:Value) (ar:Value) (aa:Value),f 1=(ptr b1 0)∧f 2=(ptr b3 0)∧Sl ai o ak∧Sl ai fa a4∧Sl ai ar aw∧Sl ai aa ax∧St w0 H0 w ai [.row o 34 1 ak.length,.box b3 36 [(.slice none 0 0),(.slice none 0 0),(.slice none 0 0),(str []),(.slice none 0 0),(str []),(int 0),(int 0)],.box b1 36 [o,fa,ar,(str p),aa,(str q),(int t),(int u)]]) ?_ ?_
 ·refine Wb ?_
  refine WP.loopM (zDm z) (fun s f w=>match s with | (fx,fb,fy,fz,dp,f0,dq,dr,ds)=>∃ (H9:Hp) (dt:Value) (be:Value) (bf:Value) (bg:Value),f 1=(ptr b1 0)∧f 2=(ptr b3 0)∧f 9=dn∧f 10=(int (z.fKeys.length:Int))∧f 11=(int fx)∧Sl H9 dn z.fKeys∧Sl H9 dt fb∧Sl H9 be fy∧Sl H9 bf fz∧Sl H9 bg f0∧St w0 H0 w H9 [.row dt 34 1 fb.length,.box b3 36 [(.slice none 0 0),(.slice none 0 0),(.slice none 0 0),(str []),(.slice none 0 0),(str []),(int 0),(int 0)],.box b1 36 [dt,be,bf,(str dp),bg,(str dq),(int dr),(int ds)]]) (0,([]:List (List Str)),z.fVary,z.fSnapshot,z.fReason,z.fFields,z.fBody,z.fRequested,z.fReceived) e9 g3 ?_ ?_
  ·exact ⟨H0,v6,cq,cr,ct,rfl,rfl,rfl,rfl,rfl,af,R8,gz,g0,g1,S⟩
  intro s f w hI h1 aq g4
  obtain ⟨fx,fb,fy,fz,dp,f0,dq,dr,ds⟩:=s
  obtain ⟨H9,dt,be,bf,bg,cl,d7,d8,d9,du,af,al,am,an,ao,S⟩:=hI
  refine Ws<|Wg<|La' du d9<|We<|Ws ?_
  rcases condE aq with ⟨fc,aq⟩ | ⟨fc,aq⟩
  ·refine CT fc<|Wk<|Ws<|Wb<|Ws<|Wg<|B aq fun f1 g5 aq=>W.idx (α:=(List Str)) af d8 du el33 g5 ?_
   rintro h2 _ g6 ⟨g7,rfl,cm⟩
   refine Lq S g6<|A<|We<|WP.draw kr 8 rfl (bm 8 0) rfl ?_
   have S:=S.drew
   refine At_ 0 8 1 rfl (fun _=>(R.fieldB cl zKB)) ?_
   refine At_ 2 8 5 rfl (fun _=>(R.mv (v:=g7) rfl)) ?_
   refine WA.two (i:=1) (j:=3) (bm 8 7) (bm 8 13) rfl rfl kr rfl rfl ?_ ?_
   ·refine Lo 2 S<|We<|WA.one (i:=3) (bm 8 15) rfl kr rfl<|B aq fun ea fd aq=>W.call S rfl (zAD S.holds f1 cm fd) ?_
    rintro eb g8 g9 a5 S au
    have af:=af.up a5
    have cm:=cm.up a5
    have al:=al.up a5
    have am:=am.up a5
    have an:=an.up a5
    have ao:=ao.up a5
    refine We<|WA.one (i:=4) (bm 8 31) rfl kr rfl<|W.bslice (α:=(List Str)) [eb] ([ea]:List (List Str)) S el33 rfl rfl rfl (by decide) (Go.Eng.encS ⟨(by rw [Sl.cellsOne au]; rfl),_,(by rw [Sl.cellsOne au]),au⟩ enc0) ?_
    intro f2 f3 f4 ap ci S
    have af:=af.up ap
    have cm:=cm.up ap
    have al:=al.up ap
    have au:=au.up ap
    have am:=am.up ap
    have an:=an.up ap
    have ao:=ao.up ap
    refine We<|WA.one (i:=5) (bm 8 63) rfl kr rfl<|B aq fun f5 dw aq=>W.app (α:=(List Str)) (i:=1) S el33 rfl rfl rfl al ci dw ?_
    intro cn f6 dx aj co S
    have af:=af.up aj
    have cm:=cm.up aj
    have al:=al.up aj
    have au:=au.up aj
    have ci:=ci.up aj
    have am:=am.up aj
    have an:=an.up aj
    have ao:=ao.up aj
    refine We ?_
    refine At_ 6 8 127 rfl (fun _=>(R.fieldB cl zKB))<|WA.one (i:=7) (bm 8 255) rfl kr rfl ?_
    refine W.storeSl (α:=(List Str)) (i:=3) [cn,be,bf,(str dp),bg,(str dq),(int dr),(int ds)] S co rfl rfl rfl lay33 (Nat.le_of_ble_eq_true rfl) rfl ?_
    intro f7 S
    refine We<|WA.done kr<|Wg<|Lg' du rfl<|M<|We ?_
    cases aq
    exact ⟨rfl,⟨dx,cn,be,bf,bg,cl,d7,d8,d9,rfl,af,co,am,an,ao,(S.drop _ (.cons _ (.cons_cons _ (.cons_cons _ (.cons_cons _ .slnil)))))⟩⟩
   refine B aq fun ea fd aq=>W.call S rfl (zAD S.holds f1 cm fd) ?_
   rintro eb g8 g9 a5 S au
   have af:=af.up a5
   have al:=al.up a5
   have am:=am.up a5
   have an:=an.up a5
   have ao:=ao.up a5
   refine We ?_
   refine WA.two (i:=1) (j:=4) (bm 8 15) (bm 8 29) rfl rfl kr rfl rfl ?_ ?_
   ·refine Lo 2 S<|We<|WA.one (i:=4) (bm 8 31) rfl kr rfl<|W.bslice (α:=(List Str)) [eb] ([ea]:List (List Str)) S el33 rfl rfl rfl (by decide) (Go.Eng.encS ⟨(by rw [Sl.cellsOne au]; rfl),_,(by rw [Sl.cellsOne au]),au⟩ enc0) ?_
    intro f2 f3 f4 ap ci S
    have af:=af.up ap
    have au:=au.up ap
    have al:=al.up ap
    have am:=am.up ap
    have an:=an.up ap
    have ao:=ao.up ap
    refine We<|WA.one (i:=5) (bm 8 63) rfl kr rfl<|B aq fun f5 dw aq=>W.app (α:=(List Str)) (i:=1) S el33 rfl rfl rfl al ci dw ?_
    intro cn f6 dx aj co S
    have af:=af.up aj
    have au:=au.up aj
    have al:=al.up aj
    have ci:=ci.up aj
    have am:=am.up aj
    have an:=an.up aj
    have ao:=ao.up aj
    refine We ?_
    refine At_ 6 8 127 rfl (fun _=>(R.fieldB cl zKB))<|WA.one (i:=7) (bm 8 255) rfl kr rfl ?_
    refine W.storeSl (α:=(List Str)) (i:=3) [cn,be,bf,(str dp),bg,(str dq),(int dr),(int ds)] S co rfl rfl rfl lay33 (Nat.le_of_ble_eq_true rfl) rfl ?_
    intro f7 S
    refine We<|WA.done kr<|Wg<|Lg' du rfl<|M<|We ?_
    cases aq
    exact ⟨rfl,⟨dx,cn,be,bf,bg,cl,d7,d8,d9,rfl,af,co,am,an,ao,(S.drop _ (.cons _ (.cons_cons _ (.cons_cons _ (.cons_cons _ .slnil)))))⟩⟩
   refine W.bslice (α:=(List Str)) [eb] ([ea]:List (List Str)) S el33 rfl rfl rfl (by decide) (Go.Eng.encS ⟨(by rw [Sl.cellsOne au]; rfl),_,(by rw [Sl.cellsOne au]),au⟩ enc0) ?_
   intro f2 f3 f4 ap ci S
   have af:=af.up ap
   have al:=al.up ap
   have am:=am.up ap
   have an:=an.up ap
   have ao:=ao.up ap
   refine We<|WA.one (i:=1) (bm 8 31) rfl kr rfl ?_
   refine Lo 3 S<|We<|WA.one (i:=5) (bm 8 63) rfl kr rfl<|B aq fun f5 dw aq=>W.app (α:=(List Str)) (i:=1) S el33 rfl rfl rfl al ci dw ?_
   intro cn f6 dx aj co S
   have af:=af.up aj
   have al:=al.up aj
   have am:=am.up aj
   have an:=an.up aj
   have ao:=ao.up aj
   refine We ?_
   refine At_ 6 8 127 rfl (fun _=>(R.fieldB cl zKB))<|WA.one (i:=7) (bm 8 255) rfl kr rfl ?_
   refine W.storeSl (α:=(List Str)) (i:=3) [cn,be,bf,(str dp),bg,(str dq),(int dr),(int ds)] S co rfl rfl rfl lay33 (Nat.le_of_ble_eq_true rfl) rfl ?_
   intro f7 S
   refine We<|WA.done kr<|Wg<|Lg' du rfl<|M<|We ?_
   cases aq
   exact ⟨rfl,⟨dx,cn,be,bf,bg,cl,d7,d8,d9,rfl,af,co,am,an,ao,(S.drop _ (.cons _ (.cons_cons _ (.cons_cons _ (.cons_cons _ .slnil)))))⟩⟩
  refine CF fc<|Wx ?_
  cases aq
  obtain rfl:=g4
  exact ⟨H9,dt,be,bf,bg,cl,d7,al,am,an,ao,S⟩
 intro f w hM
 obtain ⟨ak,a4,aw,p,ax,q,t,u⟩:=e9
 obtain ⟨ai,o,fa,ar,aa,x,a0,b,k,d,c,S⟩:=hM
 refine Ws<|B h fun ha a8 h=>B h fun hb a1 h=>B h fun hc a2 h=>WP.cut (fun f w=>∃ (cy:Hp) (cu:Value) (cv:Value) (cw:Value),f 1=(ptr b1 0)∧f 2=(ptr b3 0)∧Sl cy o ak∧Sl cy cu ha∧Sl cy cv hb∧Sl cy cw hc∧St w0 H0 w cy [.row o 34 1 ak.length,.box b3 36 [(.slice none 0 0),(.slice none 0 0),(.slice none 0 0),(str []),(.slice none 0 0),(str []),(int 0),(int 0)],.box b1 36 [o,cu,cv,(str p),cw,(str q),(int t),(int u)]]) ?_ ?_
 ·refine WP.drawC (Cl w0 H0 ai [.box b3 36 [(.slice none 0 0),(.slice none 0 0),(.slice none 0 0),(str []),(.slice none 0 0),(str []),(int 0),(int 0)]]) kr 15 rfl (bm 15 0) rfl ?_
  have S:=S.drew
  refine Ct 0 15 1 rfl (fun _ _=>(R.fieldB x zCw)) ?_
  refine Ct 3 15 9 rfl (fun _ _=>(R.fieldB x zC1)) ?_
  refine Ct 6 15 73 rfl (fun _ _=>(R.fieldB x zCx)) ?_
  refine Cx [1,4,7] ⟨ai,lr,S.drop _ (.cons _ (.cons_cons _ (.cons _ .slnil)))⟩ (allS ?_ (allS ?_ (all1 ?_)))
  ·refine Nx 15 75 rfl ?_
   refine Lo 2 S<|We ?_
   refine Cx [2,4,7] ⟨ai,lr,S.drop _ (.cons _ (.cons_cons _ (.cons _ .slnil)))⟩ (allS ?_ (allS ?_ (all1 ?_)))
   ·refine Nx 15 79 rfl<|W.call S rfl (zAD S.holds a4 k a8) ?_
    rintro a3 h3 dy ac S av
    have k:=k.up ac
    have b:=b.up ac
    have d:=d.up ac
    have c:=c.up ac
    refine We ?_
    refine Cx [4,7] ⟨dy,ac,S.drop _ (.cons _ (.cons_cons _ (.cons _ .slnil)))⟩ (allS ?_ (all1 ?_))
    ·refine Nx 15 95 rfl ?_
     refine Lo 2 S<|We ?_
     refine Cx [5,7] ⟨dy,ac,S.drop _ (.cons _ (.cons_cons _ (.cons _ .slnil)))⟩ (allS ?_ (all1 ?_))
     ·refine Nx 15 127 rfl<|W.call S rfl (zAD S.holds aw d a1) ?_
      rintro ec h4 f8 a9 S ed
      have k:=k.up a9
      have av:=av.up a9
      have d:=d.up a9
      have b:=b.up a9
      have c:=c.up a9
      refine We ?_
      refine Cx [7] ⟨f8,(ac.trans a9),S.drop _ (.cons _ (.cons_cons _ (.cons _ .slnil)))⟩ (all1 ?_)
      refine Nx 15 255 rfl ?_
      refine Lo 2 S<|We ?_
      refine Ct 9 15 767 rfl (fun _ _=>(R.fieldB x zCw)) ?_
      refine Cx [8] ⟨f8,(ac.trans a9),S.drop _ (.cons _ (.cons_cons _ (.cons _ .slnil)))⟩ (all1 ?_)
      refine Nx 15 1023 rfl<|W.call S rfl (zAJ S.holds ax c a2) ?_
      rintro fe h5 cz bh S f9
      have k:=k.up bh
      have av:=av.up bh
      have d:=d.up bh
      have ed:=ed.up bh
      have c:=c.up bh
      have b:=b.up bh
      refine We ?_
      refine Cx [10] ⟨cz,((ac.trans a9).trans bh),S.drop _ (.cons _ (.cons_cons _ (.cons _ .slnil)))⟩ (all1 ?_)
      refine Nx 15 2047 rfl ?_
      refine W.storeSl (α:=Str) (i:=2) [o,a3,ar,(str p),aa,(str q),(int t),(int u)] S av rfl rfl rfl lay34 (Nat.le_of_ble_eq_true rfl) rfl ?_
      intro h6 S
      refine We ?_
      refine Ct 11 15 4095 rfl (fun _ _=>(R.fieldB x zC1)) ?_
      refine Cx [12] ⟨cz,((ac.trans a9).trans bh),S.drop _ (.cons _ (.cons_cons _ (.cons _ .slnil)))⟩ (all1 ?_)
      refine Nx 15 8191 rfl ?_
      refine W.storeSl (α:=Str) (i:=2) [o,a3,ec,(str p),aa,(str q),(int t),(int u)] S ed rfl rfl rfl lay34 (Nat.le_of_ble_eq_true rfl) rfl ?_
      intro h7 S
      refine We ?_
      refine Ct 13 15 16383 rfl (fun _ _=>(R.fieldB x zCx)) ?_
      refine Cx [14] ⟨cz,((ac.trans a9).trans bh),S.drop _ (.cons _ (.cons_cons _ (.cons _ .slnil)))⟩ (all1 ?_)
      refine Nx 15 32767 rfl ?_
      refine W.storeSl (α:=GField) (i:=2) [o,a3,ec,(str p),fe,(str q),(int t),(int u)] S f9 rfl rfl rfl lay26 (Nat.le_of_ble_eq_true rfl) rfl ?_
      intro h8 S
      refine We<|WC.done ⟨cz,((ac.trans a9).trans bh),S.drop _ (.cons _ (.cons_cons _ (.cons _ .slnil)))⟩ kr ?_
      have S3:=S
      replace S3:=S3.front 2 rfl
      replace S3:=S3.front 2 rfl
      replace S3:=S3.front 2 rfl
      replace S3:St w0 H0 _ cz [.row o 34 1 ak.length,.box b3 36 [(.slice none 0 0),(.slice none 0 0),(.slice none 0 0),(str []),(.slice none 0 0),(str []),(int 0),(int 0)],.box b1 36 [o,a3,ec,(str p),fe,(str q),(int t),(int u)]]:=S3.drop _ (.cons_cons _ (.cons_cons _ (.cons_cons _ .slnil)))
      exact ⟨cz,a3,ec,fe,x,a0,b,av,ed,f9,S3⟩
     refine Nx 15 223 rfl ?_
     refine Lo 2 S<|We ?_
     refine Ct 9 15 735 rfl (fun _ _=>(R.fieldB x zCw)) ?_
     refine Cx [5] ⟨dy,ac,S.drop _ (.cons _ (.cons_cons _ (.cons _ .slnil)))⟩ (all1 ?_)
     refine Nx 15 767 rfl<|W.call S rfl (zAD S.holds aw d a1) ?_
     rintro ee h9 he bi S ef
     have k:=k.up bi
     have av:=av.up bi
     have d:=d.up bi
     have c:=c.up bi
     have b:=b.up bi
     refine We ?_
     refine Cx [8] ⟨he,(ac.trans bi),S.drop _ (.cons _ (.cons_cons _ (.cons _ .slnil)))⟩ (all1 ?_)
     refine Nx 15 1023 rfl<|W.call S rfl (zAJ S.holds ax c a2) ?_
     rintro ff ia c0 bj S ga
     have k:=k.up bj
     have av:=av.up bj
     have d:=d.up bj
     have c:=c.up bj
     have ef:=ef.up bj
     have b:=b.up bj
     refine We ?_
     refine Cx [10] ⟨c0,((ac.trans bi).trans bj),S.drop _ (.cons _ (.cons_cons _ (.cons _ .slnil)))⟩ (all1 ?_)
     refine Nx 15 2047 rfl ?_
     refine W.storeSl (α:=Str) (i:=2) [o,a3,ar,(str p),aa,(str q),(int t),(int u)] S av rfl rfl rfl lay34 (Nat.le_of_ble_eq_true rfl) rfl ?_
     intro ib S
     refine We ?_
     refine Ct 11 15 4095 rfl (fun _ _=>(R.fieldB x zC1)) ?_
     refine Cx [12] ⟨c0,((ac.trans bi).trans bj),S.drop _ (.cons _ (.cons_cons _ (.cons _ .slnil)))⟩ (all1 ?_)
     refine Nx 15 8191 rfl ?_
     refine W.storeSl (α:=Str) (i:=2) [o,a3,ee,(str p),aa,(str q),(int t),(int u)] S ef rfl rfl rfl lay34 (Nat.le_of_ble_eq_true rfl) rfl ?_
     intro ic S
     refine We ?_
     refine Ct 13 15 16383 rfl (fun _ _=>(R.fieldB x zCx)) ?_
     refine Cx [14] ⟨c0,((ac.trans bi).trans bj),S.drop _ (.cons _ (.cons_cons _ (.cons _ .slnil)))⟩ (all1 ?_)
     refine Nx 15 32767 rfl ?_
     refine W.storeSl (α:=GField) (i:=2) [o,a3,ee,(str p),ff,(str q),(int t),(int u)] S ga rfl rfl rfl lay26 (Nat.le_of_ble_eq_true rfl) rfl ?_
     intro id S
     refine We<|WC.done ⟨c0,((ac.trans bi).trans bj),S.drop _ (.cons _ (.cons_cons _ (.cons _ .slnil)))⟩ kr ?_
     have S3:=S
     replace S3:=S3.front 2 rfl
     replace S3:=S3.front 2 rfl
     replace S3:=S3.front 2 rfl
     replace S3:St w0 H0 _ c0 [.row o 34 1 ak.length,.box b3 36 [(.slice none 0 0),(.slice none 0 0),(.slice none 0 0),(str []),(.slice none 0 0),(str []),(int 0),(int 0)],.box b1 36 [o,a3,ee,(str p),ff,(str q),(int t),(int u)]]:=S3.drop _ (.cons_cons _ (.cons_cons _ (.cons_cons _ .slnil)))
     exact ⟨c0,a3,ee,ff,x,a0,b,av,ef,ga,S3⟩
    refine Nx 15 207 rfl ?_
    refine Lo 2 S<|We ?_
    refine Cx [4] ⟨dy,ac,S.drop _ (.cons _ (.cons_cons _ (.cons _ .slnil)))⟩ (all1 ?_)
    refine Nx 15 223 rfl ?_
    refine Lo 2 S<|We ?_
    refine Ct 9 15 735 rfl (fun _ _=>(R.fieldB x zCw)) ?_
    refine Cx [5] ⟨dy,ac,S.drop _ (.cons _ (.cons_cons _ (.cons _ .slnil)))⟩ (all1 ?_)
    refine Nx 15 767 rfl<|W.call S rfl (zAD S.holds aw d a1) ?_
    rintro eg ie hf bk S eh
    have k:=k.up bk
    have av:=av.up bk
    have c:=c.up bk
    have d:=d.up bk
    have b:=b.up bk
    refine We ?_
    refine Cx [8] ⟨hf,(ac.trans bk),S.drop _ (.cons _ (.cons_cons _ (.cons _ .slnil)))⟩ (all1 ?_)
    refine Nx 15 1023 rfl<|W.call S rfl (zAJ S.holds ax c a2) ?_
    rintro fg ig c1 bn S gb
    have k:=k.up bn
    have av:=av.up bn
    have c:=c.up bn
    have d:=d.up bn
    have eh:=eh.up bn
    have b:=b.up bn
    refine We ?_
    refine Cx [10] ⟨c1,((ac.trans bk).trans bn),S.drop _ (.cons _ (.cons_cons _ (.cons _ .slnil)))⟩ (all1 ?_)
    refine Nx 15 2047 rfl ?_
    refine W.storeSl (α:=Str) (i:=2) [o,a3,ar,(str p),aa,(str q),(int t),(int u)] S av rfl rfl rfl lay34 (Nat.le_of_ble_eq_true rfl) rfl ?_
    intro ih S
    refine We ?_
    refine Ct 11 15 4095 rfl (fun _ _=>(R.fieldB x zC1)) ?_
    refine Cx [12] ⟨c1,((ac.trans bk).trans bn),S.drop _ (.cons _ (.cons_cons _ (.cons _ .slnil)))⟩ (all1 ?_)
    refine Nx 15 8191 rfl ?_
    refine W.storeSl (α:=Str) (i:=2) [o,a3,eg,(str p),aa,(str q),(int t),(int u)] S eh rfl rfl rfl lay34 (Nat.le_of_ble_eq_true rfl) rfl ?_
    intro ii S
    refine We ?_
    refine Ct 13 15 16383 rfl (fun _ _=>(R.fieldB x zCx)) ?_
    refine Cx [14] ⟨c1,((ac.trans bk).trans bn),S.drop _ (.cons _ (.cons_cons _ (.cons _ .slnil)))⟩ (all1 ?_)
    refine Nx 15 32767 rfl ?_
    refine W.storeSl (α:=GField) (i:=2) [o,a3,eg,(str p),fg,(str q),(int t),(int u)] S gb rfl rfl rfl lay26 (Nat.le_of_ble_eq_true rfl) rfl ?_
    intro ij S
    refine We<|WC.done ⟨c1,((ac.trans bk).trans bn),S.drop _ (.cons _ (.cons_cons _ (.cons _ .slnil)))⟩ kr ?_
    have S3:=S
    replace S3:=S3.front 2 rfl
    replace S3:=S3.front 2 rfl
    replace S3:=S3.front 2 rfl
    replace S3:St w0 H0 _ c1 [.row o 34 1 ak.length,.box b3 36 [(.slice none 0 0),(.slice none 0 0),(.slice none 0 0),(str []),(.slice none 0 0),(str []),(int 0),(int 0)],.box b1 36 [o,a3,eg,(str p),fg,(str q),(int t),(int u)]]:=S3.drop _ (.cons_cons _ (.cons_cons _ (.cons_cons _ .slnil)))
    exact ⟨c1,a3,eg,fg,x,a0,b,av,eh,gb,S3⟩
   ·refine Nx 15 91 rfl ?_
    refine Lo 2 S<|We ?_
    refine Cx [2,7] ⟨ai,lr,S.drop _ (.cons _ (.cons_cons _ (.cons _ .slnil)))⟩ (allS ?_ (all1 ?_))
    ·refine Nx 15 95 rfl<|W.call S rfl (zAD S.holds a4 k a8) ?_
     rintro bo ik gc ay S a6
     have k:=k.up ay
     have d:=d.up ay
     have b:=b.up ay
     have c:=c.up ay
     refine We ?_
     refine Cx [5,7] ⟨gc,ay,S.drop _ (.cons _ (.cons_cons _ (.cons _ .slnil)))⟩ (allS ?_ (all1 ?_))
     ·refine Nx 15 127 rfl<|W.call S rfl (zAD S.holds aw d a1) ?_
      rintro ei il gd ba S ej
      have k:=k.up ba
      have d:=d.up ba
      have a6:=a6.up ba
      have b:=b.up ba
      have c:=c.up ba
      refine We ?_
      refine Cx [7] ⟨gd,(ay.trans ba),S.drop _ (.cons _ (.cons_cons _ (.cons _ .slnil)))⟩ (all1 ?_)
      refine Nx 15 255 rfl ?_
      refine Lo 2 S<|We ?_
      refine Ct 9 15 767 rfl (fun _ _=>(R.fieldB x zCw)) ?_
      refine Cx [8] ⟨gd,(ay.trans ba),S.drop _ (.cons _ (.cons_cons _ (.cons _ .slnil)))⟩ (all1 ?_)
      refine Nx 15 1023 rfl<|W.call S rfl (zAJ S.holds ax c a2) ?_
      rintro fh im c2 bp S ge
      have k:=k.up bp
      have d:=d.up bp
      have a6:=a6.up bp
      have ej:=ej.up bp
      have c:=c.up bp
      have b:=b.up bp
      refine We ?_
      refine Cx [10] ⟨c2,((ay.trans ba).trans bp),S.drop _ (.cons _ (.cons_cons _ (.cons _ .slnil)))⟩ (all1 ?_)
      refine Nx 15 2047 rfl ?_
      refine W.storeSl (α:=Str) (i:=2) [o,bo,ar,(str p),aa,(str q),(int t),(int u)] S a6 rfl rfl rfl lay34 (Nat.le_of_ble_eq_true rfl) rfl ?_
      intro io S
      refine We ?_
      refine Ct 11 15 4095 rfl (fun _ _=>(R.fieldB x zC1)) ?_
      refine Cx [12] ⟨c2,((ay.trans ba).trans bp),S.drop _ (.cons _ (.cons_cons _ (.cons _ .slnil)))⟩ (all1 ?_)
      refine Nx 15 8191 rfl ?_
      refine W.storeSl (α:=Str) (i:=2) [o,bo,ei,(str p),aa,(str q),(int t),(int u)] S ej rfl rfl rfl lay34 (Nat.le_of_ble_eq_true rfl) rfl ?_
      intro ip S
      refine We ?_
      refine Ct 13 15 16383 rfl (fun _ _=>(R.fieldB x zCx)) ?_
      refine Cx [14] ⟨c2,((ay.trans ba).trans bp),S.drop _ (.cons _ (.cons_cons _ (.cons _ .slnil)))⟩ (all1 ?_)
      refine Nx 15 32767 rfl ?_
      refine W.storeSl (α:=GField) (i:=2) [o,bo,ei,(str p),fh,(str q),(int t),(int u)] S ge rfl rfl rfl lay26 (Nat.le_of_ble_eq_true rfl) rfl ?_
      intro iq S
      refine We<|WC.done ⟨c2,((ay.trans ba).trans bp),S.drop _ (.cons _ (.cons_cons _ (.cons _ .slnil)))⟩ kr ?_
      have S3:=S
      replace S3:=S3.front 2 rfl
      replace S3:=S3.front 2 rfl
      replace S3:=S3.front 2 rfl
      replace S3:St w0 H0 _ c2 [.row o 34 1 ak.length,.box b3 36 [(.slice none 0 0),(.slice none 0 0),(.slice none 0 0),(str []),(.slice none 0 0),(str []),(int 0),(int 0)],.box b1 36 [o,bo,ei,(str p),fh,(str q),(int t),(int u)]]:=S3.drop _ (.cons_cons _ (.cons_cons _ (.cons_cons _ .slnil)))
      exact ⟨c2,bo,ei,fh,x,a0,b,a6,ej,ge,S3⟩
     refine Nx 15 223 rfl ?_
     refine Lo 2 S<|We ?_
     refine Ct 9 15 735 rfl (fun _ _=>(R.fieldB x zCw)) ?_
     refine Cx [5] ⟨gc,ay,S.drop _ (.cons _ (.cons_cons _ (.cons _ .slnil)))⟩ (all1 ?_)
     refine Nx 15 767 rfl<|W.call S rfl (zAD S.holds aw d a1) ?_
     rintro ek ir hg bq S el
     have k:=k.up bq
     have d:=d.up bq
     have a6:=a6.up bq
     have c:=c.up bq
     have b:=b.up bq
     refine We ?_
     refine Cx [8] ⟨hg,(ay.trans bq),S.drop _ (.cons _ (.cons_cons _ (.cons _ .slnil)))⟩ (all1 ?_)
     refine Nx 15 1023 rfl<|W.call S rfl (zAJ S.holds ax c a2) ?_
     rintro fi is c3 br S gf
     have k:=k.up br
     have d:=d.up br
     have a6:=a6.up br
     have c:=c.up br
     have el:=el.up br
     have b:=b.up br
     refine We ?_
     refine Cx [10] ⟨c3,((ay.trans bq).trans br),S.drop _ (.cons _ (.cons_cons _ (.cons _ .slnil)))⟩ (all1 ?_)
     refine Nx 15 2047 rfl ?_
     refine W.storeSl (α:=Str) (i:=2) [o,bo,ar,(str p),aa,(str q),(int t),(int u)] S a6 rfl rfl rfl lay34 (Nat.le_of_ble_eq_true rfl) rfl ?_
     intro it S
     refine We ?_
     refine Ct 11 15 4095 rfl (fun _ _=>(R.fieldB x zC1)) ?_
     refine Cx [12] ⟨c3,((ay.trans bq).trans br),S.drop _ (.cons _ (.cons_cons _ (.cons _ .slnil)))⟩ (all1 ?_)
     refine Nx 15 8191 rfl ?_
     refine W.storeSl (α:=Str) (i:=2) [o,bo,ek,(str p),aa,(str q),(int t),(int u)] S el rfl rfl rfl lay34 (Nat.le_of_ble_eq_true rfl) rfl ?_
     intro iu S
     refine We ?_
     refine Ct 13 15 16383 rfl (fun _ _=>(R.fieldB x zCx)) ?_
     refine Cx [14] ⟨c3,((ay.trans bq).trans br),S.drop _ (.cons _ (.cons_cons _ (.cons _ .slnil)))⟩ (all1 ?_)
     refine Nx 15 32767 rfl ?_
     refine W.storeSl (α:=GField) (i:=2) [o,bo,ek,(str p),fi,(str q),(int t),(int u)] S gf rfl rfl rfl lay26 (Nat.le_of_ble_eq_true rfl) rfl ?_
     intro iv S
     refine We<|WC.done ⟨c3,((ay.trans bq).trans br),S.drop _ (.cons _ (.cons_cons _ (.cons _ .slnil)))⟩ kr ?_
     have S3:=S
     replace S3:=S3.front 2 rfl
     replace S3:=S3.front 2 rfl
     replace S3:=S3.front 2 rfl
     replace S3:St w0 H0 _ c3 [.row o 34 1 ak.length,.box b3 36 [(.slice none 0 0),(.slice none 0 0),(.slice none 0 0),(str []),(.slice none 0 0),(str []),(int 0),(int 0)],.box b1 36 [o,bo,ek,(str p),fi,(str q),(int t),(int u)]]:=S3.drop _ (.cons_cons _ (.cons_cons _ (.cons_cons _ .slnil)))
     exact ⟨c3,bo,ek,fi,x,a0,b,a6,el,gf,S3⟩
    refine Nx 15 219 rfl ?_
    refine Lo 2 S<|We ?_
    refine Cx [2] ⟨ai,lr,S.drop _ (.cons _ (.cons_cons _ (.cons _ .slnil)))⟩ (all1 ?_)
    refine Nx 15 223 rfl<|W.call S rfl (zAD S.holds a4 k a8) ?_
    rintro dz iw hh bs S c4
    have k:=k.up bs
    have d:=d.up bs
    have c:=c.up bs
    have b:=b.up bs
    refine We ?_
    refine Ct 9 15 735 rfl (fun _ _=>(R.fieldB x zCw)) ?_
    refine Cx [5] ⟨hh,bs,S.drop _ (.cons _ (.cons_cons _ (.cons _ .slnil)))⟩ (all1 ?_)
    refine Nx 15 767 rfl<|W.call S rfl (zAD S.holds aw d a1) ?_
    rintro em ix hi bt S en
    have k:=k.up bt
    have d:=d.up bt
    have c:=c.up bt
    have c4:=c4.up bt
    have b:=b.up bt
    refine We ?_
    refine Cx [8] ⟨hi,(bs.trans bt),S.drop _ (.cons _ (.cons_cons _ (.cons _ .slnil)))⟩ (all1 ?_)
    refine Nx 15 1023 rfl<|W.call S rfl (zAJ S.holds ax c a2) ?_
    rintro fj iy c5 bu S gg
    have k:=k.up bu
    have d:=d.up bu
    have c:=c.up bu
    have c4:=c4.up bu
    have en:=en.up bu
    have b:=b.up bu
    refine We ?_
    refine Cx [10] ⟨c5,((bs.trans bt).trans bu),S.drop _ (.cons _ (.cons_cons _ (.cons _ .slnil)))⟩ (all1 ?_)
    refine Nx 15 2047 rfl ?_
    refine W.storeSl (α:=Str) (i:=2) [o,dz,ar,(str p),aa,(str q),(int t),(int u)] S c4 rfl rfl rfl lay34 (Nat.le_of_ble_eq_true rfl) rfl ?_
    intro iz S
    refine We ?_
    refine Ct 11 15 4095 rfl (fun _ _=>(R.fieldB x zC1)) ?_
    refine Cx [12] ⟨c5,((bs.trans bt).trans bu),S.drop _ (.cons _ (.cons_cons _ (.cons _ .slnil)))⟩ (all1 ?_)
    refine Nx 15 8191 rfl ?_
    refine W.storeSl (α:=Str) (i:=2) [o,dz,em,(str p),aa,(str q),(int t),(int u)] S en rfl rfl rfl lay34 (Nat.le_of_ble_eq_true rfl) rfl ?_
    intro i0 S
    refine We ?_
    refine Ct 13 15 16383 rfl (fun _ _=>(R.fieldB x zCx)) ?_
    refine Cx [14] ⟨c5,((bs.trans bt).trans bu),S.drop _ (.cons _ (.cons_cons _ (.cons _ .slnil)))⟩ (all1 ?_)
    refine Nx 15 32767 rfl ?_
    refine W.storeSl (α:=GField) (i:=2) [o,dz,em,(str p),fj,(str q),(int t),(int u)] S gg rfl rfl rfl lay26 (Nat.le_of_ble_eq_true rfl) rfl ?_
    intro i1 S
    refine We<|WC.done ⟨c5,((bs.trans bt).trans bu),S.drop _ (.cons _ (.cons_cons _ (.cons _ .slnil)))⟩ kr ?_
    have S3:=S
    replace S3:=S3.front 2 rfl
    replace S3:=S3.front 2 rfl
    replace S3:=S3.front 2 rfl
    replace S3:St w0 H0 _ c5 [.row o 34 1 ak.length,.box b3 36 [(.slice none 0 0),(.slice none 0 0),(.slice none 0 0),(str []),(.slice none 0 0),(str []),(int 0),(int 0)],.box b1 36 [o,dz,em,(str p),fj,(str q),(int t),(int u)]]:=S3.drop _ (.cons_cons _ (.cons_cons _ (.cons_cons _ .slnil)))
    exact ⟨c5,dz,em,fj,x,a0,b,c4,en,gg,S3⟩
   refine Nx 15 203 rfl ?_
   refine Lo 2 S<|We ?_
   refine Cx [2,4] ⟨ai,lr,S.drop _ (.cons _ (.cons_cons _ (.cons _ .slnil)))⟩ (allS ?_ (all1 ?_))
   ·refine Nx 15 207 rfl<|W.call S rfl (zAD S.holds a4 k a8) ?_
    rintro d0 i2 gh bb S c6
    have k:=k.up bb
    have c:=c.up bb
    have b:=b.up bb
    have d:=d.up bb
    refine We ?_
    refine Cx [4] ⟨gh,bb,S.drop _ (.cons _ (.cons_cons _ (.cons _ .slnil)))⟩ (all1 ?_)
    refine Nx 15 223 rfl ?_
    refine Lo 2 S<|We ?_
    refine Ct 9 15 735 rfl (fun _ _=>(R.fieldB x zCw)) ?_
    refine Cx [5] ⟨gh,bb,S.drop _ (.cons _ (.cons_cons _ (.cons _ .slnil)))⟩ (all1 ?_)
    refine Nx 15 767 rfl<|W.call S rfl (zAD S.holds aw d a1) ?_
    rintro eo i3 hj bv S ep
    have k:=k.up bv
    have c:=c.up bv
    have c6:=c6.up bv
    have d:=d.up bv
    have b:=b.up bv
    refine We ?_
    refine Cx [8] ⟨hj,(bb.trans bv),S.drop _ (.cons _ (.cons_cons _ (.cons _ .slnil)))⟩ (all1 ?_)
    refine Nx 15 1023 rfl<|W.call S rfl (zAJ S.holds ax c a2) ?_
    rintro fk i4 c7 bw S gi
    have k:=k.up bw
    have c:=c.up bw
    have c6:=c6.up bw
    have d:=d.up bw
    have ep:=ep.up bw
    have b:=b.up bw
    refine We ?_
    refine Cx [10] ⟨c7,((bb.trans bv).trans bw),S.drop _ (.cons _ (.cons_cons _ (.cons _ .slnil)))⟩ (all1 ?_)
    refine Nx 15 2047 rfl ?_
    refine W.storeSl (α:=Str) (i:=2) [o,d0,ar,(str p),aa,(str q),(int t),(int u)] S c6 rfl rfl rfl lay34 (Nat.le_of_ble_eq_true rfl) rfl ?_
    intro i5 S
    refine We ?_
    refine Ct 11 15 4095 rfl (fun _ _=>(R.fieldB x zC1)) ?_
    refine Cx [12] ⟨c7,((bb.trans bv).trans bw),S.drop _ (.cons _ (.cons_cons _ (.cons _ .slnil)))⟩ (all1 ?_)
    refine Nx 15 8191 rfl ?_
    refine W.storeSl (α:=Str) (i:=2) [o,d0,eo,(str p),aa,(str q),(int t),(int u)] S ep rfl rfl rfl lay34 (Nat.le_of_ble_eq_true rfl) rfl ?_
    intro i6 S
    refine We ?_
    refine Ct 13 15 16383 rfl (fun _ _=>(R.fieldB x zCx)) ?_
    refine Cx [14] ⟨c7,((bb.trans bv).trans bw),S.drop _ (.cons _ (.cons_cons _ (.cons _ .slnil)))⟩ (all1 ?_)
    refine Nx 15 32767 rfl ?_
    refine W.storeSl (α:=GField) (i:=2) [o,d0,eo,(str p),fk,(str q),(int t),(int u)] S gi rfl rfl rfl lay26 (Nat.le_of_ble_eq_true rfl) rfl ?_
    intro i7 S
    refine We<|WC.done ⟨c7,((bb.trans bv).trans bw),S.drop _ (.cons _ (.cons_cons _ (.cons _ .slnil)))⟩ kr ?_
    have S3:=S
    replace S3:=S3.front 2 rfl
    replace S3:=S3.front 2 rfl
    replace S3:=S3.front 2 rfl
    replace S3:St w0 H0 _ c7 [.row o 34 1 ak.length,.box b3 36 [(.slice none 0 0),(.slice none 0 0),(.slice none 0 0),(str []),(.slice none 0 0),(str []),(int 0),(int 0)],.box b1 36 [o,d0,eo,(str p),fk,(str q),(int t),(int u)]]:=S3.drop _ (.cons_cons _ (.cons_cons _ (.cons_cons _ .slnil)))
    exact ⟨c7,d0,eo,fk,x,a0,b,c6,ep,gi,S3⟩
   refine Nx 15 219 rfl ?_
   refine Lo 2 S<|We ?_
   refine Cx [2] ⟨ai,lr,S.drop _ (.cons _ (.cons_cons _ (.cons _ .slnil)))⟩ (all1 ?_)
   refine Nx 15 223 rfl<|W.call S rfl (zAD S.holds a4 k a8) ?_
   rintro d1 i8 hk bx S c8
   have k:=k.up bx
   have c:=c.up bx
   have d:=d.up bx
   have b:=b.up bx
   refine We ?_
   refine Ct 9 15 735 rfl (fun _ _=>(R.fieldB x zCw)) ?_
   refine Cx [5] ⟨hk,bx,S.drop _ (.cons _ (.cons_cons _ (.cons _ .slnil)))⟩ (all1 ?_)
   refine Nx 15 767 rfl<|W.call S rfl (zAD S.holds aw d a1) ?_
   rintro eq i9 hl bz S er
   have k:=k.up bz
   have c:=c.up bz
   have d:=d.up bz
   have c8:=c8.up bz
   have b:=b.up bz
   refine We ?_
   refine Cx [8] ⟨hl,(bx.trans bz),S.drop _ (.cons _ (.cons_cons _ (.cons _ .slnil)))⟩ (all1 ?_)
   refine Nx 15 1023 rfl<|W.call S rfl (zAJ S.holds ax c a2) ?_
   rintro fl ja c9 b0 S gj
   have k:=k.up b0
   have c:=c.up b0
   have d:=d.up b0
   have c8:=c8.up b0
   have er:=er.up b0
   have b:=b.up b0
   refine We ?_
   refine Cx [10] ⟨c9,((bx.trans bz).trans b0),S.drop _ (.cons _ (.cons_cons _ (.cons _ .slnil)))⟩ (all1 ?_)
   refine Nx 15 2047 rfl ?_
   refine W.storeSl (α:=Str) (i:=2) [o,d1,ar,(str p),aa,(str q),(int t),(int u)] S c8 rfl rfl rfl lay34 (Nat.le_of_ble_eq_true rfl) rfl ?_
   intro jb S
   refine We ?_
   refine Ct 11 15 4095 rfl (fun _ _=>(R.fieldB x zC1)) ?_
   refine Cx [12] ⟨c9,((bx.trans bz).trans b0),S.drop _ (.cons _ (.cons_cons _ (.cons _ .slnil)))⟩ (all1 ?_)
   refine Nx 15 8191 rfl ?_
   refine W.storeSl (α:=Str) (i:=2) [o,d1,eq,(str p),aa,(str q),(int t),(int u)] S er rfl rfl rfl lay34 (Nat.le_of_ble_eq_true rfl) rfl ?_
   intro jc S
   refine We ?_
   refine Ct 13 15 16383 rfl (fun _ _=>(R.fieldB x zCx)) ?_
   refine Cx [14] ⟨c9,((bx.trans bz).trans b0),S.drop _ (.cons _ (.cons_cons _ (.cons _ .slnil)))⟩ (all1 ?_)
   refine Nx 15 32767 rfl ?_
   refine W.storeSl (α:=GField) (i:=2) [o,d1,eq,(str p),fl,(str q),(int t),(int u)] S gj rfl rfl rfl lay26 (Nat.le_of_ble_eq_true rfl) rfl ?_
   intro jd S
   refine We<|WC.done ⟨c9,((bx.trans bz).trans b0),S.drop _ (.cons _ (.cons_cons _ (.cons _ .slnil)))⟩ kr ?_
   have S3:=S
   replace S3:=S3.front 2 rfl
   replace S3:=S3.front 2 rfl
   replace S3:=S3.front 2 rfl
   replace S3:St w0 H0 _ c9 [.row o 34 1 ak.length,.box b3 36 [(.slice none 0 0),(.slice none 0 0),(.slice none 0 0),(str []),(.slice none 0 0),(str []),(int 0),(int 0)],.box b1 36 [o,d1,eq,(str p),fl,(str q),(int t),(int u)]]:=S3.drop _ (.cons_cons _ (.cons_cons _ (.cons_cons _ .slnil)))
   exact ⟨c9,d1,eq,fl,x,a0,b,c8,er,gj,S3⟩
  ·refine Nx 15 89 rfl ?_
   refine Lo 2 S<|We ?_
   refine Cx [1,7] ⟨ai,lr,S.drop _ (.cons _ (.cons_cons _ (.cons _ .slnil)))⟩ (allS ?_ (all1 ?_))
   ·refine Nx 15 91 rfl ?_
    refine Lo 2 S<|We ?_
    refine Cx [2,7] ⟨ai,lr,S.drop _ (.cons _ (.cons_cons _ (.cons _ .slnil)))⟩ (allS ?_ (all1 ?_))
    ·refine Nx 15 95 rfl<|W.call S rfl (zAD S.holds a4 k a8) ?_
     rintro b2 je gk az S a7
     have d:=d.up az
     have k:=k.up az
     have b:=b.up az
     have c:=c.up az
     refine We ?_
     refine Cx [5,7] ⟨gk,az,S.drop _ (.cons _ (.cons_cons _ (.cons _ .slnil)))⟩ (allS ?_ (all1 ?_))
     ·refine Nx 15 127 rfl<|W.call S rfl (zAD S.holds aw d a1) ?_
      rintro es jf gl bc S et
      have d:=d.up bc
      have k:=k.up bc
      have a7:=a7.up bc
      have b:=b.up bc
      have c:=c.up bc
      refine We ?_
      refine Cx [7] ⟨gl,(az.trans bc),S.drop _ (.cons _ (.cons_cons _ (.cons _ .slnil)))⟩ (all1 ?_)
      refine Nx 15 255 rfl ?_
      refine Lo 2 S<|We ?_
      refine Ct 9 15 767 rfl (fun _ _=>(R.fieldB x zCw)) ?_
      refine Cx [8] ⟨gl,(az.trans bc),S.drop _ (.cons _ (.cons_cons _ (.cons _ .slnil)))⟩ (all1 ?_)
      refine Nx 15 1023 rfl<|W.call S rfl (zAJ S.holds ax c a2) ?_
      rintro fm jg da b4 S gm
      have d:=d.up b4
      have k:=k.up b4
      have a7:=a7.up b4
      have et:=et.up b4
      have c:=c.up b4
      have b:=b.up b4
      refine We ?_
      refine Cx [10] ⟨da,((az.trans bc).trans b4),S.drop _ (.cons _ (.cons_cons _ (.cons _ .slnil)))⟩ (all1 ?_)
      refine Nx 15 2047 rfl ?_
      refine W.storeSl (α:=Str) (i:=2) [o,b2,ar,(str p),aa,(str q),(int t),(int u)] S a7 rfl rfl rfl lay34 (Nat.le_of_ble_eq_true rfl) rfl ?_
      intro jh S
      refine We ?_
      refine Ct 11 15 4095 rfl (fun _ _=>(R.fieldB x zC1)) ?_
      refine Cx [12] ⟨da,((az.trans bc).trans b4),S.drop _ (.cons _ (.cons_cons _ (.cons _ .slnil)))⟩ (all1 ?_)
      refine Nx 15 8191 rfl ?_
      refine W.storeSl (α:=Str) (i:=2) [o,b2,es,(str p),aa,(str q),(int t),(int u)] S et rfl rfl rfl lay34 (Nat.le_of_ble_eq_true rfl) rfl ?_
      intro ji S
      refine We ?_
      refine Ct 13 15 16383 rfl (fun _ _=>(R.fieldB x zCx)) ?_
      refine Cx [14] ⟨da,((az.trans bc).trans b4),S.drop _ (.cons _ (.cons_cons _ (.cons _ .slnil)))⟩ (all1 ?_)
      refine Nx 15 32767 rfl ?_
      refine W.storeSl (α:=GField) (i:=2) [o,b2,es,(str p),fm,(str q),(int t),(int u)] S gm rfl rfl rfl lay26 (Nat.le_of_ble_eq_true rfl) rfl ?_
      intro jj S
      refine We<|WC.done ⟨da,((az.trans bc).trans b4),S.drop _ (.cons _ (.cons_cons _ (.cons _ .slnil)))⟩ kr ?_
      have S3:=S
      replace S3:=S3.front 2 rfl
      replace S3:=S3.front 2 rfl
      replace S3:=S3.front 2 rfl
      replace S3:St w0 H0 _ da [.row o 34 1 ak.length,.box b3 36 [(.slice none 0 0),(.slice none 0 0),(.slice none 0 0),(str []),(.slice none 0 0),(str []),(int 0),(int 0)],.box b1 36 [o,b2,es,(str p),fm,(str q),(int t),(int u)]]:=S3.drop _ (.cons_cons _ (.cons_cons _ (.cons_cons _ .slnil)))
      exact ⟨da,b2,es,fm,x,a0,b,a7,et,gm,S3⟩
     refine Nx 15 223 rfl ?_
     refine Lo 2 S<|We ?_
     refine Ct 9 15 735 rfl (fun _ _=>(R.fieldB x zCw)) ?_
     refine Cx [5] ⟨gk,az,S.drop _ (.cons _ (.cons_cons _ (.cons _ .slnil)))⟩ (all1 ?_)
     refine Nx 15 767 rfl<|W.call S rfl (zAD S.holds aw d a1) ?_
     rintro eu jk hm b5 S ew
     have d:=d.up b5
     have k:=k.up b5
     have a7:=a7.up b5
     have c:=c.up b5
     have b:=b.up b5
     refine We ?_
     refine Cx [8] ⟨hm,(az.trans b5),S.drop _ (.cons _ (.cons_cons _ (.cons _ .slnil)))⟩ (all1 ?_)
     refine Nx 15 1023 rfl<|W.call S rfl (zAJ S.holds ax c a2) ?_
     rintro fn jl db b6 S gn
     have d:=d.up b6
     have k:=k.up b6
     have a7:=a7.up b6
     have c:=c.up b6
     have ew:=ew.up b6
     have b:=b.up b6
     refine We ?_
     refine Cx [10] ⟨db,((az.trans b5).trans b6),S.drop _ (.cons _ (.cons_cons _ (.cons _ .slnil)))⟩ (all1 ?_)
     refine Nx 15 2047 rfl ?_
     refine W.storeSl (α:=Str) (i:=2) [o,b2,ar,(str p),aa,(str q),(int t),(int u)] S a7 rfl rfl rfl lay34 (Nat.le_of_ble_eq_true rfl) rfl ?_
     intro jm S
     refine We ?_
     refine Ct 11 15 4095 rfl (fun _ _=>(R.fieldB x zC1)) ?_
     refine Cx [12] ⟨db,((az.trans b5).trans b6),S.drop _ (.cons _ (.cons_cons _ (.cons _ .slnil)))⟩ (all1 ?_)
     refine Nx 15 8191 rfl ?_
     refine W.storeSl (α:=Str) (i:=2) [o,b2,eu,(str p),aa,(str q),(int t),(int u)] S ew rfl rfl rfl lay34 (Nat.le_of_ble_eq_true rfl) rfl ?_
     intro jn S
     refine We ?_
     refine Ct 13 15 16383 rfl (fun _ _=>(R.fieldB x zCx)) ?_
     refine Cx [14] ⟨db,((az.trans b5).trans b6),S.drop _ (.cons _ (.cons_cons _ (.cons _ .slnil)))⟩ (all1 ?_)
     refine Nx 15 32767 rfl ?_
     refine W.storeSl (α:=GField) (i:=2) [o,b2,eu,(str p),fn,(str q),(int t),(int u)] S gn rfl rfl rfl lay26 (Nat.le_of_ble_eq_true rfl) rfl ?_
     intro jp S
     refine We<|WC.done ⟨db,((az.trans b5).trans b6),S.drop _ (.cons _ (.cons_cons _ (.cons _ .slnil)))⟩ kr ?_
     have S3:=S
     replace S3:=S3.front 2 rfl
     replace S3:=S3.front 2 rfl
     replace S3:=S3.front 2 rfl
     replace S3:St w0 H0 _ db [.row o 34 1 ak.length,.box b3 36 [(.slice none 0 0),(.slice none 0 0),(.slice none 0 0),(str []),(.slice none 0 0),(str []),(int 0),(int 0)],.box b1 36 [o,b2,eu,(str p),fn,(str q),(int t),(int u)]]:=S3.drop _ (.cons_cons _ (.cons_cons _ (.cons_cons _ .slnil)))
     exact ⟨db,b2,eu,fn,x,a0,b,a7,ew,gn,S3⟩
    refine Nx 15 219 rfl ?_
    refine Lo 2 S<|We ?_
    refine Cx [2] ⟨ai,lr,S.drop _ (.cons _ (.cons_cons _ (.cons _ .slnil)))⟩ (all1 ?_)
    refine Nx 15 223 rfl<|W.call S rfl (zAD S.holds a4 k a8) ?_
    rintro d2 jq hn b7 S dc
    have d:=d.up b7
    have k:=k.up b7
    have c:=c.up b7
    have b:=b.up b7
    refine We ?_
    refine Ct 9 15 735 rfl (fun _ _=>(R.fieldB x zCw)) ?_
    refine Cx [5] ⟨hn,b7,S.drop _ (.cons _ (.cons_cons _ (.cons _ .slnil)))⟩ (all1 ?_)
    refine Nx 15 767 rfl<|W.call S rfl (zAD S.holds aw d a1) ?_
    rintro ex jr ho b8 S ey
    have d:=d.up b8
    have k:=k.up b8
    have c:=c.up b8
    have dc:=dc.up b8
    have b:=b.up b8
    refine We ?_
    refine Cx [8] ⟨ho,(b7.trans b8),S.drop _ (.cons _ (.cons_cons _ (.cons _ .slnil)))⟩ (all1 ?_)
    refine Nx 15 1023 rfl<|W.call S rfl (zAJ S.holds ax c a2) ?_
    rintro fo js dd b9 S go
    have d:=d.up b9
    have k:=k.up b9
    have c:=c.up b9
    have dc:=dc.up b9
    have ey:=ey.up b9
    have b:=b.up b9
    refine We ?_
    refine Cx [10] ⟨dd,((b7.trans b8).trans b9),S.drop _ (.cons _ (.cons_cons _ (.cons _ .slnil)))⟩ (all1 ?_)
    refine Nx 15 2047 rfl ?_
    refine W.storeSl (α:=Str) (i:=2) [o,d2,ar,(str p),aa,(str q),(int t),(int u)] S dc rfl rfl rfl lay34 (Nat.le_of_ble_eq_true rfl) rfl ?_
    intro jt S
    refine We ?_
    refine Ct 11 15 4095 rfl (fun _ _=>(R.fieldB x zC1)) ?_
    refine Cx [12] ⟨dd,((b7.trans b8).trans b9),S.drop _ (.cons _ (.cons_cons _ (.cons _ .slnil)))⟩ (all1 ?_)
    refine Nx 15 8191 rfl ?_
    refine W.storeSl (α:=Str) (i:=2) [o,d2,ex,(str p),aa,(str q),(int t),(int u)] S ey rfl rfl rfl lay34 (Nat.le_of_ble_eq_true rfl) rfl ?_
    intro ju S
    refine We ?_
    refine Ct 13 15 16383 rfl (fun _ _=>(R.fieldB x zCx)) ?_
    refine Cx [14] ⟨dd,((b7.trans b8).trans b9),S.drop _ (.cons _ (.cons_cons _ (.cons _ .slnil)))⟩ (all1 ?_)
    refine Nx 15 32767 rfl ?_
    refine W.storeSl (α:=GField) (i:=2) [o,d2,ex,(str p),fo,(str q),(int t),(int u)] S go rfl rfl rfl lay26 (Nat.le_of_ble_eq_true rfl) rfl ?_
    intro jv S
    refine We<|WC.done ⟨dd,((b7.trans b8).trans b9),S.drop _ (.cons _ (.cons_cons _ (.cons _ .slnil)))⟩ kr ?_
    have S3:=S
    replace S3:=S3.front 2 rfl
    replace S3:=S3.front 2 rfl
    replace S3:=S3.front 2 rfl
    replace S3:St w0 H0 _ dd [.row o 34 1 ak.length,.box b3 36 [(.slice none 0 0),(.slice none 0 0),(.slice none 0 0),(str []),(.slice none 0 0),(str []),(int 0),(int 0)],.box b1 36 [o,d2,ex,(str p),fo,(str q),(int t),(int u)]]:=S3.drop _ (.cons_cons _ (.cons_cons _ (.cons_cons _ .slnil)))
    exact ⟨dd,d2,ex,fo,x,a0,b,dc,ey,go,S3⟩
   refine Nx 15 217 rfl ?_
   refine Lo 2 S<|We ?_
   refine Cx [1] ⟨ai,lr,S.drop _ (.cons _ (.cons_cons _ (.cons _ .slnil)))⟩ (all1 ?_)
   refine Nx 15 219 rfl ?_
   refine Lo 2 S<|We ?_
   refine Cx [2] ⟨ai,lr,S.drop _ (.cons _ (.cons_cons _ (.cons _ .slnil)))⟩ (all1 ?_)
   refine Nx 15 223 rfl<|W.call S rfl (zAD S.holds a4 k a8) ?_
   rintro d3 jw hp ca S de
   have d:=d.up ca
   have c:=c.up ca
   have k:=k.up ca
   have b:=b.up ca
   refine We ?_
   refine Ct 9 15 735 rfl (fun _ _=>(R.fieldB x zCw)) ?_
   refine Cx [5] ⟨hp,ca,S.drop _ (.cons _ (.cons_cons _ (.cons _ .slnil)))⟩ (all1 ?_)
   refine Nx 15 767 rfl<|W.call S rfl (zAD S.holds aw d a1) ?_
   rintro ez jx hq cb S e0
   have d:=d.up cb
   have c:=c.up cb
   have k:=k.up cb
   have de:=de.up cb
   have b:=b.up cb
   refine We ?_
   refine Cx [8] ⟨hq,(ca.trans cb),S.drop _ (.cons _ (.cons_cons _ (.cons _ .slnil)))⟩ (all1 ?_)
   refine Nx 15 1023 rfl<|W.call S rfl (zAJ S.holds ax c a2) ?_
   rintro fp jy df cc S gp
   have d:=d.up cc
   have c:=c.up cc
   have k:=k.up cc
   have de:=de.up cc
   have e0:=e0.up cc
   have b:=b.up cc
   refine We ?_
   refine Cx [10] ⟨df,((ca.trans cb).trans cc),S.drop _ (.cons _ (.cons_cons _ (.cons _ .slnil)))⟩ (all1 ?_)
   refine Nx 15 2047 rfl ?_
   refine W.storeSl (α:=Str) (i:=2) [o,d3,ar,(str p),aa,(str q),(int t),(int u)] S de rfl rfl rfl lay34 (Nat.le_of_ble_eq_true rfl) rfl ?_
   intro jz S
   refine We ?_
   refine Ct 11 15 4095 rfl (fun _ _=>(R.fieldB x zC1)) ?_
   refine Cx [12] ⟨df,((ca.trans cb).trans cc),S.drop _ (.cons _ (.cons_cons _ (.cons _ .slnil)))⟩ (all1 ?_)
   refine Nx 15 8191 rfl ?_
   refine W.storeSl (α:=Str) (i:=2) [o,d3,ez,(str p),aa,(str q),(int t),(int u)] S e0 rfl rfl rfl lay34 (Nat.le_of_ble_eq_true rfl) rfl ?_
   intro j0 S
   refine We ?_
   refine Ct 13 15 16383 rfl (fun _ _=>(R.fieldB x zCx)) ?_
   refine Cx [14] ⟨df,((ca.trans cb).trans cc),S.drop _ (.cons _ (.cons_cons _ (.cons _ .slnil)))⟩ (all1 ?_)
   refine Nx 15 32767 rfl ?_
   refine W.storeSl (α:=GField) (i:=2) [o,d3,ez,(str p),fp,(str q),(int t),(int u)] S gp rfl rfl rfl lay26 (Nat.le_of_ble_eq_true rfl) rfl ?_
   intro j1 S
   refine We<|WC.done ⟨df,((ca.trans cb).trans cc),S.drop _ (.cons _ (.cons_cons _ (.cons _ .slnil)))⟩ kr ?_
   have S3:=S
   replace S3:=S3.front 2 rfl
   replace S3:=S3.front 2 rfl
   replace S3:=S3.front 2 rfl
   replace S3:St w0 H0 _ df [.row o 34 1 ak.length,.box b3 36 [(.slice none 0 0),(.slice none 0 0),(.slice none 0 0),(str []),(.slice none 0 0),(str []),(int 0),(int 0)],.box b1 36 [o,d3,ez,(str p),fp,(str q),(int t),(int u)]]:=S3.drop _ (.cons_cons _ (.cons_cons _ (.cons_cons _ .slnil)))
   exact ⟨df,d3,ez,fp,x,a0,b,de,e0,gp,S3⟩
  refine Nx 15 201 rfl ?_
  refine Lo 2 S<|We ?_
  refine Cx [1,4] ⟨ai,lr,S.drop _ (.cons _ (.cons_cons _ (.cons _ .slnil)))⟩ (allS ?_ (all1 ?_))
  ·refine Nx 15 203 rfl ?_
   refine Lo 2 S<|We ?_
   refine Cx [2,4] ⟨ai,lr,S.drop _ (.cons _ (.cons_cons _ (.cons _ .slnil)))⟩ (allS ?_ (all1 ?_))
   ·refine Nx 15 207 rfl<|W.call S rfl (zAD S.holds a4 k a8) ?_
    rintro d4 j2 gq bd S dh
    have c:=c.up bd
    have k:=k.up bd
    have b:=b.up bd
    have d:=d.up bd
    refine We ?_
    refine Cx [4] ⟨gq,bd,S.drop _ (.cons _ (.cons_cons _ (.cons _ .slnil)))⟩ (all1 ?_)
    refine Nx 15 223 rfl ?_
    refine Lo 2 S<|We ?_
    refine Ct 9 15 735 rfl (fun _ _=>(R.fieldB x zCw)) ?_
    refine Cx [5] ⟨gq,bd,S.drop _ (.cons _ (.cons_cons _ (.cons _ .slnil)))⟩ (all1 ?_)
    refine Nx 15 767 rfl<|W.call S rfl (zAD S.holds aw d a1) ?_
    rintro e1 j3 hr cd S e2
    have c:=c.up cd
    have k:=k.up cd
    have dh:=dh.up cd
    have d:=d.up cd
    have b:=b.up cd
    refine We ?_
    refine Cx [8] ⟨hr,(bd.trans cd),S.drop _ (.cons _ (.cons_cons _ (.cons _ .slnil)))⟩ (all1 ?_)
    refine Nx 15 1023 rfl<|W.call S rfl (zAJ S.holds ax c a2) ?_
    rintro fq j4 di ce S gr
    have c:=c.up ce
    have k:=k.up ce
    have dh:=dh.up ce
    have d:=d.up ce
    have e2:=e2.up ce
    have b:=b.up ce
    refine We ?_
    refine Cx [10] ⟨di,((bd.trans cd).trans ce),S.drop _ (.cons _ (.cons_cons _ (.cons _ .slnil)))⟩ (all1 ?_)
    refine Nx 15 2047 rfl ?_
    refine W.storeSl (α:=Str) (i:=2) [o,d4,ar,(str p),aa,(str q),(int t),(int u)] S dh rfl rfl rfl lay34 (Nat.le_of_ble_eq_true rfl) rfl ?_
    intro j5 S
    refine We ?_
    refine Ct 11 15 4095 rfl (fun _ _=>(R.fieldB x zC1)) ?_
    refine Cx [12] ⟨di,((bd.trans cd).trans ce),S.drop _ (.cons _ (.cons_cons _ (.cons _ .slnil)))⟩ (all1 ?_)
    refine Nx 15 8191 rfl ?_
    refine W.storeSl (α:=Str) (i:=2) [o,d4,e1,(str p),aa,(str q),(int t),(int u)] S e2 rfl rfl rfl lay34 (Nat.le_of_ble_eq_true rfl) rfl ?_
    intro j6 S
    refine We ?_
    refine Ct 13 15 16383 rfl (fun _ _=>(R.fieldB x zCx)) ?_
    refine Cx [14] ⟨di,((bd.trans cd).trans ce),S.drop _ (.cons _ (.cons_cons _ (.cons _ .slnil)))⟩ (all1 ?_)
    refine Nx 15 32767 rfl ?_
    refine W.storeSl (α:=GField) (i:=2) [o,d4,e1,(str p),fq,(str q),(int t),(int u)] S gr rfl rfl rfl lay26 (Nat.le_of_ble_eq_true rfl) rfl ?_
    intro j7 S
    refine We<|WC.done ⟨di,((bd.trans cd).trans ce),S.drop _ (.cons _ (.cons_cons _ (.cons _ .slnil)))⟩ kr ?_
    have S3:=S
    replace S3:=S3.front 2 rfl
    replace S3:=S3.front 2 rfl
    replace S3:=S3.front 2 rfl
    replace S3:St w0 H0 _ di [.row o 34 1 ak.length,.box b3 36 [(.slice none 0 0),(.slice none 0 0),(.slice none 0 0),(str []),(.slice none 0 0),(str []),(int 0),(int 0)],.box b1 36 [o,d4,e1,(str p),fq,(str q),(int t),(int u)]]:=S3.drop _ (.cons_cons _ (.cons_cons _ (.cons_cons _ .slnil)))
    exact ⟨di,d4,e1,fq,x,a0,b,dh,e2,gr,S3⟩
   refine Nx 15 219 rfl ?_
   refine Lo 2 S<|We ?_
   refine Cx [2] ⟨ai,lr,S.drop _ (.cons _ (.cons_cons _ (.cons _ .slnil)))⟩ (all1 ?_)
   refine Nx 15 223 rfl<|W.call S rfl (zAD S.holds a4 k a8) ?_
   rintro d5 j8 hs cf S dj
   have c:=c.up cf
   have k:=k.up cf
   have d:=d.up cf
   have b:=b.up cf
   refine We ?_
   refine Ct 9 15 735 rfl (fun _ _=>(R.fieldB x zCw)) ?_
   refine Cx [5] ⟨hs,cf,S.drop _ (.cons _ (.cons_cons _ (.cons _ .slnil)))⟩ (all1 ?_)
   refine Nx 15 767 rfl<|W.call S rfl (zAD S.holds aw d a1) ?_
   rintro e3 j9 ht cg S e4
   have c:=c.up cg
   have k:=k.up cg
   have d:=d.up cg
   have dj:=dj.up cg
   have b:=b.up cg
   refine We ?_
   refine Cx [8] ⟨ht,(cf.trans cg),S.drop _ (.cons _ (.cons_cons _ (.cons _ .slnil)))⟩ (all1 ?_)
   refine Nx 15 1023 rfl<|W.call S rfl (zAJ S.holds ax c a2) ?_
   rintro fr ka dk ch S gs
   have c:=c.up ch
   have k:=k.up ch
   have d:=d.up ch
   have dj:=dj.up ch
   have e4:=e4.up ch
   have b:=b.up ch
   refine We ?_
   refine Cx [10] ⟨dk,((cf.trans cg).trans ch),S.drop _ (.cons _ (.cons_cons _ (.cons _ .slnil)))⟩ (all1 ?_)
   refine Nx 15 2047 rfl ?_
   refine W.storeSl (α:=Str) (i:=2) [o,d5,ar,(str p),aa,(str q),(int t),(int u)] S dj rfl rfl rfl lay34 (Nat.le_of_ble_eq_true rfl) rfl ?_
   intro kb S
   refine We ?_
   refine Ct 11 15 4095 rfl (fun _ _=>(R.fieldB x zC1)) ?_
   refine Cx [12] ⟨dk,((cf.trans cg).trans ch),S.drop _ (.cons _ (.cons_cons _ (.cons _ .slnil)))⟩ (all1 ?_)
   refine Nx 15 8191 rfl ?_
   refine W.storeSl (α:=Str) (i:=2) [o,d5,e3,(str p),aa,(str q),(int t),(int u)] S e4 rfl rfl rfl lay34 (Nat.le_of_ble_eq_true rfl) rfl ?_
   intro kc S
   refine We ?_
   refine Ct 13 15 16383 rfl (fun _ _=>(R.fieldB x zCx)) ?_
   refine Cx [14] ⟨dk,((cf.trans cg).trans ch),S.drop _ (.cons _ (.cons_cons _ (.cons _ .slnil)))⟩ (all1 ?_)
   refine Nx 15 32767 rfl ?_
   refine W.storeSl (α:=GField) (i:=2) [o,d5,e3,(str p),fr,(str q),(int t),(int u)] S gs rfl rfl rfl lay26 (Nat.le_of_ble_eq_true rfl) rfl ?_
   intro kd S
   refine We<|WC.done ⟨dk,((cf.trans cg).trans ch),S.drop _ (.cons _ (.cons_cons _ (.cons _ .slnil)))⟩ kr ?_
   have S3:=S
   replace S3:=S3.front 2 rfl
   replace S3:=S3.front 2 rfl
   replace S3:=S3.front 2 rfl
   replace S3:St w0 H0 _ dk [.row o 34 1 ak.length,.box b3 36 [(.slice none 0 0),(.slice none 0 0),(.slice none 0 0),(str []),(.slice none 0 0),(str []),(int 0),(int 0)],.box b1 36 [o,d5,e3,(str p),fr,(str q),(int t),(int u)]]:=S3.drop _ (.cons_cons _ (.cons_cons _ (.cons_cons _ .slnil)))
   exact ⟨dk,d5,e3,fr,x,a0,b,dj,e4,gs,S3⟩
  refine Nx 15 217 rfl ?_
  refine Lo 2 S<|We ?_
  refine Cx [1] ⟨ai,lr,S.drop _ (.cons _ (.cons_cons _ (.cons _ .slnil)))⟩ (all1 ?_)
  refine Nx 15 219 rfl ?_
  refine Lo 2 S<|We ?_
  refine Cx [2] ⟨ai,lr,S.drop _ (.cons _ (.cons_cons _ (.cons _ .slnil)))⟩ (all1 ?_)
  refine Nx 15 223 rfl<|W.call S rfl (zAD S.holds a4 k a8) ?_
  rintro d6 ke hu cj S dl
  have c:=c.up cj
  have d:=d.up cj
  have b:=b.up cj
  refine We ?_
  refine Ct 9 15 735 rfl (fun _ _=>(R.fieldB x zCw)) ?_
  refine Cx [5] ⟨hu,cj,S.drop _ (.cons _ (.cons_cons _ (.cons _ .slnil)))⟩ (all1 ?_)
  refine Nx 15 767 rfl<|W.call S rfl (zAD S.holds aw d a1) ?_
  rintro e5 kf hv cp S e6
  have c:=c.up cp
  have dl:=dl.up cp
  have b:=b.up cp
  refine We ?_
  refine Cx [8] ⟨hv,(cj.trans cp),S.drop _ (.cons _ (.cons_cons _ (.cons _ .slnil)))⟩ (all1 ?_)
  refine Nx 15 1023 rfl<|W.call S rfl (zAJ S.holds ax c a2) ?_
  rintro fs kg dm cx S gt
  have dl:=dl.up cx
  have e6:=e6.up cx
  have b:=b.up cx
  refine We ?_
  refine Cx [10] ⟨dm,((cj.trans cp).trans cx),S.drop _ (.cons _ (.cons_cons _ (.cons _ .slnil)))⟩ (all1 ?_)
  refine Nx 15 2047 rfl ?_
  refine W.storeSl (α:=Str) (i:=2) [o,d6,ar,(str p),aa,(str q),(int t),(int u)] S dl rfl rfl rfl lay34 (Nat.le_of_ble_eq_true rfl) rfl ?_
  intro kh S
  refine We ?_
  refine Ct 11 15 4095 rfl (fun _ _=>(R.fieldB x zC1)) ?_
  refine Cx [12] ⟨dm,((cj.trans cp).trans cx),S.drop _ (.cons _ (.cons_cons _ (.cons _ .slnil)))⟩ (all1 ?_)
  refine Nx 15 8191 rfl ?_
  refine W.storeSl (α:=Str) (i:=2) [o,d6,e5,(str p),aa,(str q),(int t),(int u)] S e6 rfl rfl rfl lay34 (Nat.le_of_ble_eq_true rfl) rfl ?_
  intro ki S
  refine We ?_
  refine Ct 13 15 16383 rfl (fun _ _=>(R.fieldB x zCx)) ?_
  refine Cx [14] ⟨dm,((cj.trans cp).trans cx),S.drop _ (.cons _ (.cons_cons _ (.cons _ .slnil)))⟩ (all1 ?_)
  refine Nx 15 32767 rfl ?_
  refine W.storeSl (α:=GField) (i:=2) [o,d6,e5,(str p),fs,(str q),(int t),(int u)] S gt rfl rfl rfl lay26 (Nat.le_of_ble_eq_true rfl) rfl ?_
  intro kj S
  refine We<|WC.done ⟨dm,((cj.trans cp).trans cx),S.drop _ (.cons _ (.cons_cons _ (.cons _ .slnil)))⟩ kr ?_
  have S3:=S
  replace S3:=S3.front 2 rfl
  replace S3:=S3.front 2 rfl
  replace S3:=S3.front 2 rfl
  replace S3:St w0 H0 _ dm [.row o 34 1 ak.length,.box b3 36 [(.slice none 0 0),(.slice none 0 0),(.slice none 0 0),(str []),(.slice none 0 0),(str []),(int 0),(int 0)],.box b1 36 [o,d6,e5,(str p),fs,(str q),(int t),(int u)]]:=S3.drop _ (.cons_cons _ (.cons_cons _ (.cons_cons _ .slnil)))
  exact ⟨dm,d6,e5,fs,x,a0,b,dl,e6,gt,S3⟩
 rintro f w ⟨cy,cu,cv,cw,hx,gu,gv,gw,gx,gy,S⟩
 refine Ws<|Wg ?_
 refine WL.w (R.loadBN (i:=2) (vs:=[o,cu,cv,(str p),cw,(str q),(int t),(int u)]) S hx rfl lay36 rfl rfl) ?_
 refine W.store (i:=1) [o,cu,cv,(str p),cw,(str q),(int t),(int u)] S gu rfl rfl lay36 rfl (AllOne.all (l:=[o,cu,cv,(str p),cw,(str q),(int t),(int u)]) (.cons (Sl.oneC gv) (.cons (Sl.oneC gw) (.cons (Sl.oneC gx) (.cons rfl (.cons (Sl.oneC gy) (.cons rfl (.cons rfl (.cons rfl .nil))))))))) (Nat.le_of_ble_eq_true rfl) rfl ?_
 intro kk S
 refine We ?_
 cases h
 refine WP.ret (Out.one rfl S (Res.cellB (i:=1) (cs:=[o,cu,cv,(str p),cw,(str q),(int t),(int u)]) S gu rfl lay36 rfl rfl) ?_)
 exact ⟨_,_,_,_,rfl,gv,gw,gx,gy⟩
end Go.Proofs

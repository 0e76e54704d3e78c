/- A part. -/
import Derived.Test.YtljjaiijlaeoeaaGreatDoorEng38
import Derived.Test.YtljjaiijlaeoeaaGreatDoorEng36
import Derived.Test.YtljjaiijlaeoeaaGreatDoorGenP13
namespace Go.Proofs
set_option maxHeartbeats 4000000
set_option maxRecDepth 10000
open Go.Eng Go.Eng.Pure
set_option linter.unusedVariables false
theorem zGb {w0 ws:World} {H0 Hs:Hp} {L2:List Ent} (hG:Tryz.Gl w0) (al:GTable) {a6:Value} {am:Value} (S:St w0 H0 ws Hs (L2)) (cg:Sl Hs a6 al.fAxes) (b:Sl Hs am al.fEntries) {r:GTable} (h:zCH al=some r) :
  ConS Tryz.prog 81 [(agg [a6,am])] w0 H0 ws Hs L2 (fun H' v L'=>∃ u1 u2:Value,∃ e1:Ent,L'=[e1]∧v=(agg [u1,u2])∧Sl H' u1 r.fAxes∧MR (α:=GEntry) H' e1 92 u2 r.fEntries):=by
 refine ConS.mk (N:=26) Tryz.func81 rfl rfl kr rfl<|Ws<|Wg ?_
 refine W.box [a6,am] S rfl rfl ?_
 intro b1 w2 S
 refine W.alloc [(.slice none 0 0),(.slice none 0 0)] S zer62 ?_
 intro b3 w4 S
 refine We<|Ws<|Wg<|Fb ?_
 refine Lo 1 S<|B h fun r5 ci h=>W.call S rfl (zFX S.holds (hG.post S.post) al.fAxes cg ci) ?_
 rintro v6 w7 H8 b4 S bo
 have b:=b.up b4
 refine WL.w (R.build [(0,v6)] [v6,(.slice none 0 0)] bp62 zer62 rfl (by obtain ⟨_,_,rfl,_⟩:=bo; rfl)) ?_
 refine W.alloc [(.slice none 0 0),(.slice none 0 0)] S zer62 ?_
 intro a0 cu S
 refine W.store (i:=0) [v6,(.slice none 0 0)] S rfl rfl rfl lay62 rfl (AllOne.all (l:=[v6,(.slice none 0 0)]) (.cons (Sl.oneC bo) (.cons rfl .nil))) (Nat.le_of_ble_eq_true rfl) rfl ?_
 intro cv S
 refine We<|Ws<|Ws<|Wg<|Fb ?_
 refine Lo 2 S<|Nq b<|M<|We ?_
 obtain ⟨a7,bp⟩:∃ v:Value,v=.slice none 0 0:=⟨_,rfl⟩
 have cj:MR (α:=GEntry) H8 (.row a7 92 8 0) 92 a7 []:=by rw [bp]; exact MR.nil
 replace S:=(show ∀ {w:World},St w0 H0 w H8 (.box a0 62 [v6,(.slice none 0 0)] :: .box b3 62 [(.slice none 0 0),(.slice none 0 0)] :: .box b1 62 [a6,am] :: L2)→St w0 H0 w H8 (.box a0 62 [v6,a7] :: .box b3 62 [(.slice none 0 0),(.slice none 0 0)] :: .box b1 62 [a6,am] :: L2) from fun S=>by rw [bp]; exact S) S
 replace S:=St.addNilV bp S 92 8
 refine B h fun bq ck h=>WP.cut (fun f w=>match bq with | (b5,b6)=>∃ (a8:Hp) (ao:Value) (ap:Value) (bj:Ent),f 2=(ptr b3 0)∧f 3=(ptr a0 0)∧Sl a8 ao b5∧MR (α:=GEntry) a8 bj 92 ap b6∧Hp.le Hs a8∧St w0 H0 w a8 (bj :: .box a0 62 [ao,ap] :: .box b3 62 [(.slice none 0 0),(.slice none 0 0)] :: L2)) ?_ ?_
 ·refine Wb ?_
  refine WP.loopM (zCu al) (fun s f w=>match s with | (b7,b8,b9)=>∃ (aq:Hp) (u:Value) (bk:Value) (bn:Ent),f 2=(ptr b3 0)∧f 3=(ptr a0 0)∧f 11=am∧f 12=(int (al.fEntries.length:Int))∧f 13=(int b7)∧Sl aq am al.fEntries∧Sl aq u b8∧MR (α:=GEntry) aq bn 92 bk b9∧Hp.le Hs aq∧St w0 H0 w aq (bn :: .box a0 62 [u,bk] :: .box b3 62 [(.slice none 0 0),(.slice none 0 0)] :: L2)) (0,r5,([]:List GEntry)) bq (lfW ck) ?_ ?_
  ·exact ⟨H8,v6,a7,(.row a7 92 8 0),rfl,rfl,rfl,rfl,rfl,b,bo,cj,b4,(S.pt 4 [0,1,2])⟩
  intro s f w hI cw c cl
  obtain ⟨b7,b8,b9⟩:=s
  obtain ⟨aq,u,bk,bn,a9,aj,ba,bb,a1,b,o,p,bc,S⟩:=hI
  refine Ws<|Wg<|La' a1 bb<|We<|Ws ?_
  rcases condE c with ⟨br,c⟩ | ⟨br,c⟩
  ·refine CT br<|Wk<|Ws<|Wb<|Ws<|Wg<|B c fun d cm c=>W.idx (α:=GEntry) b ba a1 el60 cm ?_
   rintro cx _ cn ⟨bd,be,bf,bg,rfl,x,z,aa,ab⟩
   refine WL.w (R.loadHN (vs:=[bd,be,bf,(str d.fReason),bg,(str d.fBody),(int d.fRequested),(int d.fReceived)]) S rfl cn lay92 rfl rfl) ?_
   refine W.alloc [(.slice none 0 0),(.slice none 0 0),(.slice none 0 0),(str []),(.slice none 0 0),(str []),(int 0),(int 0)] S zer92 ?_
   intro cy cz S
   refine W.store (i:=0) [bd,be,bf,(str d.fReason),bg,(str d.fBody),(int d.fRequested),(int d.fReceived)] S rfl rfl rfl lay92 rfl (AllOne.all (l:=[bd,be,bf,(str d.fReason),bg,(str d.fBody),(int d.fRequested),(int d.fReceived)]) (.cons (Sl.oneC x) (.cons (Sl.oneC z) (.cons (Sl.oneC aa) (.cons rfl (.cons (Sl.oneC ab) (.cons rfl (.cons rfl (.cons rfl .nil))))))))) (Nat.le_of_ble_eq_true rfl) rfl ?_
   intro c0 S
   refine We<|WP.draw kr 8 rfl (bm 8 0) rfl ?_
   have S:=S.drew
   refine At_ 0 8 1 rfl (fun _=>(R.fieldB aj zBU)) ?_
   refine WA.two (i:=1) (j:=2) (bm 8 3) (bm 8 5) rfl rfl kr rfl rfl ?_ ?_
   ·refine Lo 2 S<|We<|WA.one (i:=2) (bm 8 7) rfl kr rfl ?_
    refine WL.w (R.loadBN (i:=0) (vs:=[bd,be,bf,(str d.fReason),bg,(str d.fBody),(int d.fRequested),(int d.fReceived)]) S rfl rfl lay92 rfl rfl)<|We<|WA.one (i:=3) (bm 8 15) rfl kr rfl<|B c fun k bh c=>W.call S rfl (zAT S.holds (hG.post S.post) d x z aa ab bh) ?_
    rintro ca cb cc t S ⟨a2,a3,a4,a5,rfl,ac,ad,ae,af⟩
    have ⟨b,x,z,aa,ab⟩:=U5 t b x z aa ab
    have p:=MR.mono p t
    have o:=o.up t
    refine We<|WA.one (i:=4) (bm 8 31) rfl kr rfl<|W.bslice (α:=GEntry) [(agg [a2,a3,a4,(str k.fReason),a5,(str k.fBody),(int k.fRequested),(int k.fReceived)])] ([k]:List GEntry) S el60 rfl rfl rfl (by decide) (Go.Eng.encS ⟨rfl,_,_,_,_,rfl,ac,ad,ae,af⟩ enc0) ?_
    intro bs bt ar q au S
    have ⟨b,x,z,aa,ab⟩:=U5 q b x z aa ab
    have p:=MR.mono p q
    have ⟨ac,ad,ae,af,o⟩:=U5 q ac ad ae af o
    refine We<|WA.one (i:=5) (bm 8 63) rfl kr rfl<|B c fun bu av c=>W.appM (α:=GEntry) (i:=2) S el60 rfl rfl rfl p au av ?_
    intro ah aw bv ai S
    refine We ?_
    refine At_ 6 8 127 rfl (fun _=>(R.fieldB aj zBU))<|WA.one (i:=7) (bm 8 255) rfl kr rfl ?_
    refine W.storeMR (α:=GEntry) (i:=3) [u,ah] S ai rfl rfl rfl lay60 (Nat.le_of_ble_eq_true rfl) rfl ?_
    intro bw S
    refine We<|WA.done kr<|Wg<|Lg' a1 rfl<|M<|We ?_
    obtain rfl:=oi c
    exact ⟨rfl,⟨ar,u,ah,(aw),a9,aj,ba,bb,rfl,b,o,ai,((bc.trans t).trans q),(S.pt 5 [2,3,4])⟩⟩
   refine WL.w (R.loadBN (i:=0) (vs:=[bd,be,bf,(str d.fReason),bg,(str d.fBody),(int d.fRequested),(int d.fReceived)]) S rfl rfl lay92 rfl rfl)<|We ?_
   refine WA.two (i:=1) (j:=3) (bm 8 7) (bm 8 13) rfl rfl kr rfl rfl ?_ ?_
   ·refine Lo 2 S<|We<|WA.one (i:=3) (bm 8 15) rfl kr rfl<|B c fun k bh c=>W.call S rfl (zAT S.holds (hG.post S.post) d x z aa ab bh) ?_
    rintro ca cb cc t S ⟨a2,a3,a4,a5,rfl,ac,ad,ae,af⟩
    have ⟨b,x,z,aa,ab⟩:=U5 t b x z aa ab
    have p:=MR.mono p t
    have o:=o.up t
    refine We<|WA.one (i:=4) (bm 8 31) rfl kr rfl<|W.bslice (α:=GEntry) [(agg [a2,a3,a4,(str k.fReason),a5,(str k.fBody),(int k.fRequested),(int k.fReceived)])] ([k]:List GEntry) S el60 rfl rfl rfl (by decide) (Go.Eng.encS ⟨rfl,_,_,_,_,rfl,ac,ad,ae,af⟩ enc0) ?_
    intro bs bt ar q au S
    have ⟨b,x,z,aa,ab⟩:=U5 q b x z aa ab
    have p:=MR.mono p q
    have ⟨ac,ad,ae,af,o⟩:=U5 q ac ad ae af o
    refine We<|WA.one (i:=5) (bm 8 63) rfl kr rfl<|B c fun bu av c=>W.appM (α:=GEntry) (i:=2) S el60 rfl rfl rfl p au av ?_
    intro ah aw bv ai S
    refine We ?_
    refine At_ 6 8 127 rfl (fun _=>(R.fieldB aj zBU))<|WA.one (i:=7) (bm 8 255) rfl kr rfl ?_
    refine W.storeMR (α:=GEntry) (i:=3) [u,ah] S ai rfl rfl rfl lay60 (Nat.le_of_ble_eq_true rfl) rfl ?_
    intro bw S
    refine We<|WA.done kr<|Wg<|Lg' a1 rfl<|M<|We ?_
    obtain rfl:=oi c
    exact ⟨rfl,⟨ar,u,ah,(aw),a9,aj,ba,bb,rfl,b,o,ai,((bc.trans t).trans q),(S.pt 5 [2,3,4])⟩⟩
   refine B c fun k bh c=>W.call S rfl (zAT S.holds (hG.post S.post) d x z aa ab bh) ?_
   rintro ca cb cc t S ⟨a2,a3,a4,a5,rfl,ac,ad,ae,af⟩
   have ⟨b,o⟩:=U2 t b o
   have p:=MR.mono p t
   refine We ?_
   refine WA.two (i:=1) (j:=4) (bm 8 15) (bm 8 29) rfl rfl kr rfl rfl ?_ ?_
   ·refine Lo 2 S<|We<|WA.one (i:=4) (bm 8 31) rfl kr rfl<|W.bslice (α:=GEntry) [(agg [a2,a3,a4,(str k.fReason),a5,(str k.fBody),(int k.fRequested),(int k.fReceived)])] ([k]:List GEntry) S el60 rfl rfl rfl (by decide) (Go.Eng.encS ⟨rfl,_,_,_,_,rfl,ac,ad,ae,af⟩ enc0) ?_
    intro bs bt ar q au S
    have ⟨b,ac,ad,ae,af⟩:=U5 q b ac ad ae af
    have p:=MR.mono p q
    have o:=o.up q
    refine We<|WA.one (i:=5) (bm 8 63) rfl kr rfl<|B c fun bu av c=>W.appM (α:=GEntry) (i:=2) S el60 rfl rfl rfl p au av ?_
    intro ah aw bv ai S
    refine We ?_
    refine At_ 6 8 127 rfl (fun _=>(R.fieldB aj zBU))<|WA.one (i:=7) (bm 8 255) rfl kr rfl ?_
    refine W.storeMR (α:=GEntry) (i:=3) [u,ah] S ai rfl rfl rfl lay60 (Nat.le_of_ble_eq_true rfl) rfl ?_
    intro bw S
    refine We<|WA.done kr<|Wg<|Lg' a1 rfl<|M<|We ?_
    obtain rfl:=oi c
    exact ⟨rfl,⟨ar,u,ah,(aw),a9,aj,ba,bb,rfl,b,o,ai,((bc.trans t).trans q),(S.pt 5 [2,3,4])⟩⟩
   refine W.bslice (α:=GEntry) [(agg [a2,a3,a4,(str k.fReason),a5,(str k.fBody),(int k.fRequested),(int k.fReceived)])] ([k]:List GEntry) S el60 rfl rfl rfl (by decide) (Go.Eng.encS ⟨rfl,_,_,_,_,rfl,ac,ad,ae,af⟩ enc0) ?_
   intro bs bt ar q au S
   have ⟨b,o⟩:=U2 q b o
   have p:=MR.mono p q
   refine We<|WA.one (i:=1) (bm 8 31) rfl kr rfl ?_
   refine Lo 3 S<|We<|WA.one (i:=5) (bm 8 63) rfl kr rfl<|B c fun bu av c=>W.appM (α:=GEntry) (i:=2) S el60 rfl rfl rfl p au av ?_
   intro ah aw bv ai S
   refine We ?_
   refine At_ 6 8 127 rfl (fun _=>(R.fieldB aj zBU))<|WA.one (i:=7) (bm 8 255) rfl kr rfl ?_
   refine W.storeMR (α:=GEntry) (i:=3) [u,ah] S ai rfl rfl rfl lay60 (Nat.le_of_ble_eq_true rfl) rfl ?_
   intro bw S
   refine We<|WA.done kr<|Wg<|Lg' a1 rfl<|M<|We ?_
   obtain rfl:=oi c
   exact ⟨rfl,⟨ar,u,ah,(aw),a9,aj,ba,bb,rfl,b,o,ai,((bc.trans t).trans q),(S.pt 5 [2,3,4])⟩⟩
  refine CF br<|Wx ?_
  obtain rfl:=oi c
  obtain rfl:=cl
  exact ⟨aq,u,bk,(bn),a9,aj,o,p,bc,S⟩
 intro f w hM
 obtain ⟨b5,b6⟩:=bq
 obtain ⟨a8,ao,ap,bj,cd,co,ce,cf,cp,S⟩:=hM
 refine Ws<|Wg ?_
 refine WL.w (R.loadBN (i:=1) (vs:=[ao,ap]) S co rfl lay62 rfl rfl) ?_
 refine W.store (i:=2) [ao,ap] S cd rfl rfl lay62 rfl (AllOne.all (l:=[ao,ap]) (.cons (Sl.oneC ce) (.cons (MR.oneC cf) .nil))) (Nat.le_of_ble_eq_true rfl) rfl ?_
 intro c1 S
 refine We ?_
 obtain rfl:=oi h
 refine WP.ret (OutS.one (L':=[bj]) rfl cp (S.pt 3 [0]) (Res.cellB (i:=2) (cs:=[ao,ap]) S cd rfl lay62 rfl rfl) ?_)
 exact ⟨_,_,_,rfl,rfl,ce,cf⟩
theorem zD6 {w0:World} {H0:Hp} (hw:Holds w0 H0) (hG:Tryz.Gl w0) (ba:GTable) (c:GEntry) (bb:(List GAxis)) (b0:Int) {aj:Value} {ak:Value} {av:Value} {aw:Value} {ax:Value} {ay:Value} {bc:Value} (be:Sl H0 aj ba.fAxes) (cd:Sl H0 ak ba.fEntries) (o:Sl H0 av c.fKeys) (p:Sl H0 aw c.fVary) (q:Sl H0 ax c.fSnapshot) (t:Sl H0 ay c.fFields) (ao:Sl H0 bc bb) {r:GTable} (h:zG6 ba c bb b0=some r) :
  Con Tryz.prog 199 [(agg [aj,ak]),(agg [av,aw,ax,(str c.fReason),ay,(str c.fBody),(int c.fRequested),(int c.fReceived)]),bc,(int b0)] w0 H0 (fun H' v=>∃ u1 u2:Value,v=(agg [u1,u2])∧Sl H' u1 r.fAxes∧Sl H' u2 r.fEntries):=by
 refine CM 44 Tryz.func199 hw fun S=>?_
 refine Ws<|Wg ?_
 refine W.box [aj,ak] S rfl rfl ?_
 intro b1 w2 S
 refine W.box [av,aw,ax,(str c.fReason),ay,(str c.fBody),(int c.fRequested),(int c.fReceived)] S rfl rfl ?_
 intro b3 w4 S
 refine W.box [bc] S rfl (congrArg Array.toList (Sl.cellsOne ao)) ?_
 intro b5 w6 S
 refine W.alloc [(.slice none 0 0),(.slice none 0 0)] S zer62 ?_
 intro b7 w8 S
 refine We<|Ws<|Wg ?_
 refine WL.w (R.loadBN (i:=3) (vs:=[aj,ak]) S rfl rfl lay62 rfl rfl)<|B h fun r9 cf h=>W.callS rfl (zGb hG ba S be cd cf) ?_
 rintro cy cz cg c0 ch S ⟨d,a5,bg,rfl,rfl,b,f⟩
 replace S:St w0 H0 _ cg [bg,.box b7 62 [(.slice none 0 0),(.slice none 0 0)],.box b5 59 [bc],.box b3 92 [av,aw,ax,(str c.fReason),ay,(str c.fBody),(int c.fRequested),(int c.fReceived)],.box b1 62 [aj,ak]]:=S
 have ⟨be,o,p,q,t,ao⟩:=U6 ch be o p q t ao
 refine W.alloc [(.slice none 0 0),(.slice none 0 0)] S zer62 ?_
 intro az c1 S
 refine W.store (i:=0) [d,a5] S rfl rfl rfl lay62 rfl (AllOne.all (l:=[d,a5]) (.cons (Sl.oneC b) (.cons (MR.oneC f) .nil))) (Nat.le_of_ble_eq_true rfl) rfl ?_
 intro c2 S
 refine We<|Ws<|Ws<|Wg<|Fb ?_
 refine Lo 5 S ?_
 refine Lo 3 S<|B h fun c3 ci h=>W.call S rfl (zF8 S.holds (hG.post S.post) ba.fAxes bb be ao ci) ?_
 rintro c4 c5 c6 b6 S rfl
 have ⟨o,p,q,t,ao,b⟩:=U6 b6 o p q t ao b
 have f:=MR.mono f b6
 refine No<|We ?_
 rcases condE h with ⟨bk,h⟩ | ⟨bk,h⟩
 ·refine CT bk ?_
  cases h
 refine CF bk<|Wk<|Ws<|Wg<|Fb ?_
 refine Lo 0 S ?_
 obtain ⟨b8,b9,cj,_,S⟩:=S.settle (i:=3) rfl
 replace S:St w0 H0 _ b8 [.box az 62 [d,a5],bg,.box b7 62 [(.slice none 0 0),(.slice none 0 0)],.box b3 92 [av,aw,ax,(str c.fReason),ay,(str c.fBody),(int c.fRequested),(int c.fReceived)],.box b1 62 [aj,ak]]:=S
 have bn:At b8 ⟨b5,0,none⟩ [bc]:=⟨_,_,rfl,cj,[],by simp⟩
 have ⟨o,p,q,t,ao,b⟩:=U6 b9 o p q t ao b
 have f:=MR.mono f b9
 obtain ⟨bo,bh,ck,_,S⟩:=S.settle (i:=3) rfl
 replace S:St w0 H0 _ bo [.box az 62 [d,a5],bg,.box b7 62 [(.slice none 0 0),(.slice none 0 0)],.box b1 62 [aj,ak]]:=S
 have ap:At bo ⟨b3,0,none⟩ [av,aw,ax,(str c.fReason),ay,(str c.fBody),(int c.fRequested),(int c.fReceived)]:=⟨_,_,rfl,ck,[],by simp⟩
 have ⟨o,p,q,t,ao⟩:=U5 bh o p q t ao
 have bn:=At.mono bn bh (by simp)
 have b:=b.up bh
 have f:=MR.mono f bh
 refine WL.w (R.mkFunc (vs:=[(.pointer (some ⟨b5,0,none⟩)),(.pointer (some ⟨b3,0,none⟩))]) rfl)<|B h fun c7 cl h=>?_
 have S:=S.front 1 rfl
 replace S:St w0 H0 _ bo (bg :: [.box az 62 [d,a5],.box b7 62 [(.slice none 0 0),(.slice none 0 0)],.box b1 62 [aj,ak]]):=S
 refine W.callS rfl (zBI hG r9.fEntries (fun x0=>zET x0 bb c) S f (fun hle hw hG x0=>fun cm cn co cp r h=>zGt hw hG x0 bb c cm cn co cp (At.mono bn hle (by simp)) (ao.up hle) (At.mono ap hle (by simp)) (o.up hle) (p.up hle) (q.up hle) (t.up hle) h) cl) ?_
 rintro cq c8 cr c9 bi S ⟨ct,rfl,k⟩
 replace S:St w0 H0 _ cr [ct,.box az 62 [d,a5],.box b7 62 [(.slice none 0 0),(.slice none 0 0)],.box b1 62 [aj,ak]]:=S
 have ⟨o,p,q,t⟩:=U4 bi o p q t
 have ap:=At.mono ap bi (by simp)
 have b:=b.up bi
 have f:=MR.mono f bi
 refine Fb ?_
 refine W.storeMR (α:=GEntry) (i:=1) [d,cq] S k rfl rfl rfl lay60 (Nat.le_of_ble_eq_true rfl) rfl ?_
 intro da S
 refine We<|Ws<|WP.draw kr 8 rfl (bm 8 0) rfl ?_
 have S:=S.drew
 refine At_ 0 8 1 rfl (fun _=>(R.fieldB rfl zBU)) ?_
 refine WA.two (i:=1) (j:=2) (bm 8 3) (bm 8 5) rfl rfl kr rfl rfl ?_ ?_
 ·refine Lo 1 S<|We<|WA.one (i:=2) (bm 8 7) rfl kr rfl ?_
  refine WL.w (R.loadHN (vs:=[av,aw,ax,(str c.fReason),ay,(str c.fBody),(int c.fRequested),(int c.fReceived)]) S rfl ap lay92 rfl rfl)<|We<|WA.one (i:=3) (bm 8 15) rfl kr rfl<|B h fun u bd h=>W.call S rfl (zAT S.holds (hG.post S.post) c o p q t bd) ?_
  rintro ca cb cc al S ⟨a6,a7,a8,a9,rfl,ac,ad,ae,af⟩
  have ⟨o,p,q,t⟩:=U4 al o p q t
  have ap:=At.mono ap al (by simp)
  have b:=b.up al
  have f:=MR.mono f al
  have k:=MR.mono k al
  refine We<|WA.one (i:=4) (bm 8 31) rfl kr rfl<|W.bslice (α:=GEntry) [(agg [a6,a7,a8,(str u.fReason),a9,(str u.fBody),(int u.fRequested),(int u.fReceived)])] ([u]:List GEntry) S el60 rfl rfl rfl (by decide) (Go.Eng.encS ⟨rfl,_,_,_,_,rfl,ac,ad,ae,af⟩ enc0) ?_
  intro a0 bq br z am S
  have ⟨o,p,q,t⟩:=U4 z o p q t
  have ap:=At.mono ap z (by simp)
  have b:=b.up z
  have f:=MR.mono f z
  have k:=MR.mono k z
  have ⟨ac,ad,ae,af⟩:=U4 z ac ad ae af
  refine We<|WA.one (i:=5) (bm 8 63) rfl kr rfl<|B h fun bs a1 h=>W.appM (α:=GEntry) (i:=1) S el60 rfl rfl rfl k am a1 ?_
  intro aq bt bu ah S
  refine We ?_
  refine At_ 6 8 127 rfl (fun _=>(R.fieldB rfl zBU))<|WA.one (i:=7) (bm 8 255) rfl kr rfl ?_
  refine W.storeMR (α:=GEntry) (i:=2) [d,aq] S ah rfl rfl rfl lay60 (Nat.le_of_ble_eq_true rfl) rfl ?_
  intro bv S
  refine We<|WA.done kr<|Ws<|Wg<|Fb ?_
  refine Lo 2 S<|Fb ?_
  refine Lo 2 S ?_
  refine WL.w (R.lenMR (α:=GEntry) ah rfl Tryz.underlying60)<|M<|Nj<|Lh ?_
  refine Nj ?_
  obtain ⟨a2,aa,a3,S⟩:=S.settleM (i:=1) rfl ah
  replace S:St w0 H0 _ a2 [.row a0 92 8 ([u]:List GEntry).length,.box az 62 [d,aq],.box b7 62 [(.slice none 0 0),(.slice none 0 0)],.box b1 62 [aj,ak]]:=S
  have ⟨o,p,q,t⟩:=U4 aa o p q t
  have ap:=At.mono ap aa (by simp)
  have b:=b.up aa
  have f:=MR.mono f aa
  have k:=MR.mono k aa
  have ⟨ac,ad,ae,af,am⟩:=U5 aa ac ad ae af am
  refine B h fun bw a4 h=>W.subLo (α:=GEntry) a3 rfl rfl el60 a4 ?_
  intro x ai
  refine Fb ?_
  refine W.storeSl (α:=GEntry) (i:=1) [d,x] S ai rfl rfl rfl lay60 (Nat.le_of_ble_eq_true rfl) rfl ?_
  intro bx S
  refine We<|Ws<|Wg ?_
  refine WL.w (R.loadBN (i:=1) (vs:=[d,x]) S rfl rfl lay62 rfl rfl) ?_
  refine W.store (i:=2) [d,x] S rfl rfl rfl lay62 rfl (AllOne.all (l:=[d,x]) (.cons (Sl.oneC b) (.cons (Sl.oneC ai) .nil))) (Nat.le_of_ble_eq_true rfl) rfl ?_
  intro bz S
  refine We ?_
  obtain rfl:=oi h
  refine WP.ret (Out.one rfl S (Res.cellB (i:=2) (cs:=[d,x]) S rfl rfl lay62 rfl rfl) ?_)
  exact ⟨_,_,rfl,b,ai⟩
 refine WL.w (R.loadHN (vs:=[av,aw,ax,(str c.fReason),ay,(str c.fBody),(int c.fRequested),(int c.fReceived)]) S rfl ap lay92 rfl rfl)<|We ?_
 refine WA.two (i:=1) (j:=3) (bm 8 7) (bm 8 13) rfl rfl kr rfl rfl ?_ ?_
 ·refine Lo 1 S<|We<|WA.one (i:=3) (bm 8 15) rfl kr rfl<|B h fun u bd h=>W.call S rfl (zAT S.holds (hG.post S.post) c o p q t bd) ?_
  rintro ca cb cc al S ⟨a6,a7,a8,a9,rfl,ac,ad,ae,af⟩
  have ⟨o,p,q,t,b⟩:=U5 al o p q t b
  have f:=MR.mono f al
  have k:=MR.mono k al
  refine We<|WA.one (i:=4) (bm 8 31) rfl kr rfl<|W.bslice (α:=GEntry) [(agg [a6,a7,a8,(str u.fReason),a9,(str u.fBody),(int u.fRequested),(int u.fReceived)])] ([u]:List GEntry) S el60 rfl rfl rfl (by decide) (Go.Eng.encS ⟨rfl,_,_,_,_,rfl,ac,ad,ae,af⟩ enc0) ?_
  intro a0 bq br z am S
  have ⟨o,p,q,t,b⟩:=U5 z o p q t b
  have f:=MR.mono f z
  have k:=MR.mono k z
  have ⟨ac,ad,ae,af⟩:=U4 z ac ad ae af
  refine We<|WA.one (i:=5) (bm 8 63) rfl kr rfl<|B h fun bs a1 h=>W.appM (α:=GEntry) (i:=1) S el60 rfl rfl rfl k am a1 ?_
  intro aq bt bu ah S
  refine We ?_
  refine At_ 6 8 127 rfl (fun _=>(R.fieldB rfl zBU))<|WA.one (i:=7) (bm 8 255) rfl kr rfl ?_
  refine W.storeMR (α:=GEntry) (i:=2) [d,aq] S ah rfl rfl rfl lay60 (Nat.le_of_ble_eq_true rfl) rfl ?_
  intro bv S
  refine We<|WA.done kr<|Ws<|Wg<|Fb ?_
  refine Lo 2 S<|Fb ?_
  refine Lo 2 S ?_
  refine WL.w (R.lenMR (α:=GEntry) ah rfl Tryz.underlying60)<|M<|Nj<|Lh ?_
  refine Nj ?_
  obtain ⟨a2,aa,a3,S⟩:=S.settleM (i:=1) rfl ah
  replace S:St w0 H0 _ a2 [.row a0 92 8 ([u]:List GEntry).length,.box az 62 [d,aq],.box b7 62 [(.slice none 0 0),(.slice none 0 0)],.box b1 62 [aj,ak]]:=S
  have ⟨o,p,q,t,b⟩:=U5 aa o p q t b
  have f:=MR.mono f aa
  have k:=MR.mono k aa
  have ⟨ac,ad,ae,af,am⟩:=U5 aa ac ad ae af am
  refine B h fun bw a4 h=>W.subLo (α:=GEntry) a3 rfl rfl el60 a4 ?_
  intro x ai
  refine Fb ?_
  refine W.storeSl (α:=GEntry) (i:=1) [d,x] S ai rfl rfl rfl lay60 (Nat.le_of_ble_eq_true rfl) rfl ?_
  intro bx S
  refine We<|Ws<|Wg ?_
  refine WL.w (R.loadBN (i:=1) (vs:=[d,x]) S rfl rfl lay62 rfl rfl) ?_
  refine W.store (i:=2) [d,x] S rfl rfl rfl lay62 rfl (AllOne.all (l:=[d,x]) (.cons (Sl.oneC b) (.cons (Sl.oneC ai) .nil))) (Nat.le_of_ble_eq_true rfl) rfl ?_
  intro bz S
  refine We ?_
  obtain rfl:=oi h
  refine WP.ret (Out.one rfl S (Res.cellB (i:=2) (cs:=[d,x]) S rfl rfl lay62 rfl rfl) ?_)
  exact ⟨_,_,rfl,b,ai⟩
 refine B h fun u bd h=>W.call S rfl (zAT S.holds (hG.post S.post) c o p q t bd) ?_
 rintro ca cb cc al S ⟨a6,a7,a8,a9,rfl,ac,ad,ae,af⟩
 have b:=b.up al
 have f:=MR.mono f al
 have k:=MR.mono k al
 refine We ?_
 refine WA.two (i:=1) (j:=4) (bm 8 15) (bm 8 29) rfl rfl kr rfl rfl ?_ ?_
 ·refine Lo 1 S<|We<|WA.one (i:=4) (bm 8 31) rfl kr rfl<|W.bslice (α:=GEntry) [(agg [a6,a7,a8,(str u.fReason),a9,(str u.fBody),(int u.fRequested),(int u.fReceived)])] ([u]:List GEntry) S el60 rfl rfl rfl (by decide) (Go.Eng.encS ⟨rfl,_,_,_,_,rfl,ac,ad,ae,af⟩ enc0) ?_
  intro a0 bq br z am S
  have b:=b.up z
  have f:=MR.mono f z
  have k:=MR.mono k z
  have ⟨ac,ad,ae,af⟩:=U4 z ac ad ae af
  refine We<|WA.one (i:=5) (bm 8 63) rfl kr rfl<|B h fun bs a1 h=>W.appM (α:=GEntry) (i:=1) S el60 rfl rfl rfl k am a1 ?_
  intro aq bt bu ah S
  refine We ?_
  refine At_ 6 8 127 rfl (fun _=>(R.fieldB rfl zBU))<|WA.one (i:=7) (bm 8 255) rfl kr rfl ?_
  refine W.storeMR (α:=GEntry) (i:=2) [d,aq] S ah rfl rfl rfl lay60 (Nat.le_of_ble_eq_true rfl) rfl ?_
  intro bv S
  refine We<|WA.done kr<|Ws<|Wg<|Fb ?_
  refine Lo 2 S<|Fb ?_
  refine Lo 2 S ?_
  refine WL.w (R.lenMR (α:=GEntry) ah rfl Tryz.underlying60)<|M<|Nj<|Lh ?_
  refine Nj ?_
  obtain ⟨a2,aa,a3,S⟩:=S.settleM (i:=1) rfl ah
  replace S:St w0 H0 _ a2 [.row a0 92 8 ([u]:List GEntry).length,.box az 62 [d,aq],.box b7 62 [(.slice none 0 0),(.slice none 0 0)],.box b1 62 [aj,ak]]:=S
  have b:=b.up aa
  have f:=MR.mono f aa
  have k:=MR.mono k aa
  have ⟨ac,ad,ae,af,am⟩:=U5 aa ac ad ae af am
  refine B h fun bw a4 h=>W.subLo (α:=GEntry) a3 rfl rfl el60 a4 ?_
  intro x ai
  refine Fb ?_
  refine W.storeSl (α:=GEntry) (i:=1) [d,x] S ai rfl rfl rfl lay60 (Nat.le_of_ble_eq_true rfl) rfl ?_
  intro bx S
  refine We<|Ws<|Wg ?_
  refine WL.w (R.loadBN (i:=1) (vs:=[d,x]) S rfl rfl lay62 rfl rfl) ?_
  refine W.store (i:=2) [d,x] S rfl rfl rfl lay62 rfl (AllOne.all (l:=[d,x]) (.cons (Sl.oneC b) (.cons (Sl.oneC ai) .nil))) (Nat.le_of_ble_eq_true rfl) rfl ?_
  intro bz S
  refine We ?_
  obtain rfl:=oi h
  refine WP.ret (Out.one rfl S (Res.cellB (i:=2) (cs:=[d,x]) S rfl rfl lay62 rfl rfl) ?_)
  exact ⟨_,_,rfl,b,ai⟩
 refine W.bslice (α:=GEntry) [(agg [a6,a7,a8,(str u.fReason),a9,(str u.fBody),(int u.fRequested),(int u.fReceived)])] ([u]:List GEntry) S el60 rfl rfl rfl (by decide) (Go.Eng.encS ⟨rfl,_,_,_,_,rfl,ac,ad,ae,af⟩ enc0) ?_
 intro a0 bq br z am S
 have b:=b.up z
 have f:=MR.mono f z
 have k:=MR.mono k z
 refine We<|WA.one (i:=1) (bm 8 31) rfl kr rfl ?_
 refine Lo 2 S<|We<|WA.one (i:=5) (bm 8 63) rfl kr rfl<|B h fun bs a1 h=>W.appM (α:=GEntry) (i:=1) S el60 rfl rfl rfl k am a1 ?_
 intro aq bt bu ah S
 refine We ?_
 refine At_ 6 8 127 rfl (fun _=>(R.fieldB rfl zBU))<|WA.one (i:=7) (bm 8 255) rfl kr rfl ?_
 refine W.storeMR (α:=GEntry) (i:=2) [d,aq] S ah rfl rfl rfl lay60 (Nat.le_of_ble_eq_true rfl) rfl ?_
 intro bv S
 refine We<|WA.done kr<|Ws<|Wg<|Fb ?_
 refine Lo 2 S<|Fb ?_
 refine Lo 2 S ?_
 refine WL.w (R.lenMR (α:=GEntry) ah rfl Tryz.underlying60)<|M<|Nj<|Lh ?_
 refine Nj ?_
 obtain ⟨a2,aa,a3,S⟩:=S.settleM (i:=1) rfl ah
 replace S:St w0 H0 _ a2 [.row a0 92 8 ([u]:List GEntry).length,.box az 62 [d,aq],.box b7 62 [(.slice none 0 0),(.slice none 0 0)],.box b1 62 [aj,ak]]:=S
 have b:=b.up aa
 have f:=MR.mono f aa
 have k:=MR.mono k aa
 refine B h fun bw a4 h=>W.subLo (α:=GEntry) a3 rfl rfl el60 a4 ?_
 intro x ai
 refine Fb ?_
 refine W.storeSl (α:=GEntry) (i:=1) [d,x] S ai rfl rfl rfl lay60 (Nat.le_of_ble_eq_true rfl) rfl ?_
 intro bx S
 refine We<|Ws<|Wg ?_
 refine WL.w (R.loadBN (i:=1) (vs:=[d,x]) S rfl rfl lay62 rfl rfl) ?_
 refine W.store (i:=2) [d,x] S rfl rfl rfl lay62 rfl (AllOne.all (l:=[d,x]) (.cons (Sl.oneC b) (.cons (Sl.oneC ai) .nil))) (Nat.le_of_ble_eq_true rfl) rfl ?_
 intro bz S
 refine We ?_
 obtain rfl:=oi h
 refine WP.ret (Out.one rfl S (Res.cellB (i:=2) (cs:=[d,x]) S rfl rfl lay62 rfl rfl) ?_)
 exact ⟨_,_,rfl,b,ai⟩
theorem zFU {o:World} {d:Hp} (hw:Holds o d) (hG:Tryz.Gl o) (k:GTable) {z:Value} {p:Value} (ay:Sl d z k.fAxes) (j:Sl d p k.fEntries) {r:Int} (h:zFD k=some r) :
  Ci Tryz.prog 250 [(agg [z,p])] o d r:=by
 refine CM 19 Tryz.func250 hw fun S=>?_
 refine Ws<|Wg ?_
 refine W.box [z,p] S rfl rfl ?_
 intro b1 w2 S
 refine A<|We<|Ws<|Wg<|A<|We<|Ws<|Ws<|Wg<|Fb ?_
 refine Lo 0 S<|Nq j ?_
 refine M<|We<|B h fun ac ao h=>WP.cut (fun f w=>∃ (ad:Hp),f 3=(int ac)∧St o d w ad []) ?_ ?_
 ·refine Wb ?_
  refine WP.loopM (zE0 k) (fun s f w=>match s with | (ae,af)=>∃ (q:Hp),f 3=(int ae)∧f 7=p∧f 8=(int (k.fEntries.length:Int))∧f 9=(int af)∧Sl q p k.fEntries∧St o d w q []) (0,0) ac (lfW ao) ?_ ?_
  ·exact ⟨d,rfl,rfl,rfl,rfl,j,(S.pk [])⟩
  intro s f w hI a1 c ap
  obtain ⟨ae,af⟩:=s
  obtain ⟨q,h5,h6,h7,h9,j,S⟩:=hI
  refine Ws<|Wg<|La' h9 h7<|We<|Ws ?_
  rcases condE c with ⟨ab,c⟩ | ⟨ab,c⟩
  ·refine CT ab<|Wk<|Ws<|Wb<|Ws<|Wg<|B c fun b aq c=>W.idx (α:=GEntry) j h6 h9 el60 aq ?_
   rintro a2 _ ar ⟨t,u,v,x,rfl,ak,al,am,an⟩
   refine WL.w (R.loadHN (vs:=[t,u,v,(str b.fReason),x,(str b.fBody),(int b.fRequested),(int b.fReceived)]) S rfl ar lay92 rfl rfl) ?_
   refine W.alloc [(.slice none 0 0),(.slice none 0 0),(.slice none 0 0),(str []),(.slice none 0 0),(str []),(int 0),(int 0)] S zer92 ?_
   intro a3 a4 S
   refine W.store (i:=0) [t,u,v,(str b.fReason),x,(str b.fBody),(int b.fRequested),(int b.fReceived)] S rfl rfl rfl lay92 rfl (AllOne.all (l:=[t,u,v,(str b.fReason),x,(str b.fBody),(int b.fRequested),(int b.fReceived)]) (.cons (Sl.oneC ak) (.cons (Sl.oneC al) (.cons (Sl.oneC am) (.cons rfl (.cons (Sl.oneC an) (.cons rfl (.cons rfl (.cons rfl .nil))))))))) (Nat.le_of_ble_eq_true rfl) rfl ?_
   intro a5 S
   refine We<|Wg<|M' h5 ?_
   refine WL.w (R.loadBN (i:=0) (vs:=[t,u,v,(str b.fReason),x,(str b.fBody),(int b.fRequested),(int b.fReceived)]) S rfl rfl lay92 rfl rfl)<|B c fun a6 au c=>W.call S rfl (zAs S.holds (hG.post S.post) b ak al am an au) ?_
   rintro a7 a8 av aw S rfl
   have j:=j.up aw
   refine Lg<|A<|We<|Wg<|Lg' h9 rfl<|M<|We ?_
   obtain rfl:=oi c
   exact ⟨rfl,⟨av,rfl,h6,h7,rfl,j,(S.pk [])⟩⟩
  refine CF ab<|Wx ?_
  obtain rfl:=oi c
  obtain rfl:=ap
  exact ⟨q,h5,S⟩
 rintro f w ⟨ad,ax,S⟩
 refine Ws<|Wg<|M' ax<|A<|We ?_
 exact WP.ret (Ri h S)
theorem zFm {l:World} {p:Hp} (hw:Holds l p) (hG:Tryz.Gl l) {b:GConfig} {t:Nat} {q:Hp} {w:World} (S:St l p w q [.box t 38 [(str b.fName),(int b.fBytes),(int b.fVariants),(int b.fTables),(boo b.fStrict),(boo b.fRefuse)]]) (h:zC1 b=some ()) {K:Value→World→Prop}
  (hK:∀ (o:Nat) (k:Nat) (Hz:Hp),q.le Hz→∀ w',St l p w' Hz [.box o 136 [(int b.fBytes),(int b.fVariants),(int b.fTables),(int 0),(.slice none 0 0),(mapv k)],.mp k [],.box t 38 [(str b.fName),(int b.fBytes),(int b.fVariants),(int b.fTables),(boo b.fStrict),(boo b.fRefuse)]]→K (.tuple ⟨[(ptr o 0),(int 0)]⟩) w') :
  CallK Tryz.prog 36 [(int b.fBytes),(int b.fVariants),(int b.fTables)] w K:=by
 unfold zC1 at h
 refine zAi (N':=36) Tryz.func36 rfl rfl kr rfl<|Ws<|Wg<|A<|A<|We<|Ws<|Ws<|Wg<|M<|La<|M ?_
 refine WL.grp 3 [11,12] 13 (boo ((decide (b.fBytes<1))||(decide (100000000<b.fBytes)))) ?_ ?_
 ·rcases boolE (decide (b.fBytes<1)) with c | c
  ·refine Gn c<|Gn c<|Pt c ?_
   exact We ⟨(orT c),ag,rfl⟩
  refine Gy c<|M<|Gy c<|Lc<|Pf c ?_
  exact We ⟨(orF c),ag,rfl⟩
 intro us
 refine M ?_
 refine WL.grp 3 [15,16] 17 (boo (((decide (b.fBytes<1))||(decide (100000000<b.fBytes)))||(decide (b.fVariants<1)))) ?_ ?_
 ·rcases boolE ((decide (b.fBytes<1))||(decide (100000000<b.fBytes))) with d | d
  ·refine Gn d<|Gn d<|Pt d ?_
   exact We ⟨(orT d),ag,rfl⟩
  refine Gy d<|M<|Gy d<|La<|Pf d ?_
  exact We ⟨(orF d),ag,rfl⟩
 intro us
 refine M ?_
 refine WL.grp 3 [19,20] 21 (boo ((((decide (b.fBytes<1))||(decide (100000000<b.fBytes)))||(decide (b.fVariants<1)))||(decide (64<b.fVariants)))) ?_ ?_
 ·rcases boolE (((decide (b.fBytes<1))||(decide (100000000<b.fBytes)))||(decide (b.fVariants<1))) with f | f
  ·refine Gn f<|Gn f<|Pt f ?_
   exact We ⟨(orT f),ag,rfl⟩
  refine Gy f<|M<|Gy f<|Lc<|Pf f ?_
  exact We ⟨(orF f),ag,rfl⟩
 intro us
 refine M ?_
 refine WL.grp 3 [23,24] 25 (boo (((((decide (b.fBytes<1))||(decide (100000000<b.fBytes)))||(decide (b.fVariants<1)))||(decide (64<b.fVariants)))||(decide (b.fTables<1)))) ?_ ?_
 ·rcases boolE ((((decide (b.fBytes<1))||(decide (100000000<b.fBytes)))||(decide (b.fVariants<1)))||(decide (64<b.fVariants))) with i | i
  ·refine Gn i<|Gn i<|Pt i ?_
   exact We ⟨(orT i),ag,rfl⟩
  refine Gy i<|M<|Gy i<|La<|Pf i ?_
  exact We ⟨(orF i),ag,rfl⟩
 intro us
 refine M ?_
 refine WL.grp 3 [27,28] 29 (boo ((((((decide (b.fBytes<1))||(decide (100000000<b.fBytes)))||(decide (b.fVariants<1)))||(decide (64<b.fVariants)))||(decide (b.fTables<1)))||(decide (1000<b.fTables)))) ?_ ?_
 ·rcases boolE (((((decide (b.fBytes<1))||(decide (100000000<b.fBytes)))||(decide (b.fVariants<1)))||(decide (64<b.fVariants)))||(decide (b.fTables<1))) with j | j
  ·refine Gn j<|Gn j<|Pt j ?_
   exact We ⟨(orT j),ag,rfl⟩
  refine Gy j<|M<|Gy j<|Lc<|Pf j ?_
  exact We ⟨(orF j),ag,rfl⟩
 intro us
 refine We ?_
 rcases condE h with ⟨r,h⟩ | ⟨r,h⟩
 ·refine CT r ?_
  cases h
 refine CF r<|Wk<|Ws<|Wg<|M<|M<|M<|W.makeMap S ?_
 intro k u S
 refine WL.w (R.build [(0,(int b.fBytes)),(1,(int b.fVariants)),(2,(int b.fTables)),(5,(mapv k))] [(int b.fBytes),(int b.fVariants),(int b.fTables),(int 0),(.slice none 0 0),(mapv k)] bp136 zJu rfl rfl) ?_
 refine W.box [(int b.fBytes),(int b.fVariants),(int b.fTables),(int 0),(.slice none 0 0),(mapv k)] S rfl rfl ?_
 intro o v S
 refine A<|A<|We ?_
 refine WP.ret (In.two rfl rfl rfl ?_)
 cases oi h
 exact hK o k q lr _ S
theorem zFg {k:World} {q:Hp} (hw:Holds k q) (hG:Tryz.Gl k) {b:GConfig} {u:Hp} {w:World} (S:St k q w u []) (h:zC0 b=some ()) {K:Value→World→Prop}
  (hK:∀ (l:Nat) (j:Nat) (o:Nat) (r:Nat) (Hz:Hp),u.le Hz→∀ w',St k q w' Hz [.box l 54 [(str b.fName),(int b.fBytes),(int b.fVariants),(int b.fTables),(boo b.fStrict),(boo b.fRefuse),(ptr j 0),(int 0),(.pointer none)],.box j 136 [(int b.fBytes),(int b.fVariants),(int b.fTables),(int 0),(.slice none 0 0),(mapv o)],.mp o [],.box r 38 [(str b.fName),(int b.fBytes),(int b.fVariants),(int b.fTables),(boo b.fStrict),(boo b.fRefuse)]]→K (.tuple ⟨[(ptr l 0),(int 0)]⟩) w') :
  CallK Tryz.prog 13 [(agg [(str b.fName),(int b.fBytes),(int b.fVariants),(int b.fTables),(boo b.fStrict),(boo b.fRefuse)])] w K:=by
 unfold zC0 at h
 refine zAi (N':=43) Tryz.func13 rfl rfl kr rfl<|Ws<|Wg ?_
 refine W.box [(str b.fName),(int b.fBytes),(int b.fVariants),(int b.fTables),(boo b.fStrict),(boo b.fRefuse)] S rfl rfl ?_
 intro r w7 S
 refine A<|A<|We<|Ws<|Wg<|Fb ?_
 refine Lo 0 S<|Fb ?_
 refine Lo 0 S<|Fb ?_
 refine Lo 0 S<|B h fun _ x h=>callK rfl (zFm hw (hG) S x ?_)
 intro j o ae z af S
 refine M ?_
 refine Ex ?_
 refine Ex<|A<|A<|We<|Ws<|Ws<|Wg<|M ?_
 refine WL.w (v:=boo false) (R.ofEq (R.neq rfl rfl) rfl)<|M ?_
 refine Gy rfl<|Fb<|Gy rfl ?_
 refine Lo 2 S<|Gy rfl<|B h fun p aa h=>W.call S rfl (zA0 S.holds (hG.post S.post) b.fName aa) ?_
 rintro ah ai ab ac S rfl
 refine Gy rfl<|No<|Pf rfl<|M ?_
 refine WL.grp 5 [25,26,27,28] 29 (boo ((!p)||(decide (100<(b.fName.length:Int))))) ?_ ?_
 ·rcases boolE (!p) with d | d
  ·refine Gn d<|Gn d<|Gn d<|Gn d<|Pt d ?_
   exact We ⟨(orT d),ag,rfl⟩
  refine Gy d<|Fb<|Gy d ?_
  refine Lo 2 S<|Gy d<|Ns<|Gy d<|Lc<|Pf d ?_
  exact We ⟨(orF d),ag,rfl⟩
 intro us
 refine M ?_
 refine WL.grp 8 [31,32,33,34,35,36,37] 38 (boo (((!p)||(decide (100<(b.fName.length:Int))))||(b.fRefuse&&(!b.fStrict)))) ?_ ?_
 ·rcases boolE ((!p)||(decide (100<(b.fName.length:Int)))) with c | c
  ·refine Gn c<|Gn c<|Gn c<|WL.gund rfl rfl<|WL.gund rfl rfl<|WL.gund rfl rfl<|Gn c<|Pt c ?_
   exact We ⟨(orT c),ag,rfl⟩
  refine Gy c<|Fb<|Gy c ?_
  refine Lo 2 S<|Gy c<|M ?_
  refine WL.grp 4 [34,35,36] 37 (boo (b.fRefuse&&(!b.fStrict))) ?_ ?_
  ·rcases boolE b.fRefuse with f | f
   ·refine Gy f<|Fb<|Gy f ?_
    refine Lo 2 S<|Gy f<|No<|Gy c<|Pt f ?_
    exact We ⟨(andT f),ag,rfl⟩
   refine Gn f<|Gn f<|Gn f<|Gy c<|Pf f ?_
   exact We ⟨(andF f),ag,rfl⟩
  intro us
  refine Pf c ?_
  exact We ⟨(orF c),ag,rfl⟩
 intro us
 refine We ?_
 rcases condE h with ⟨t,h⟩ | ⟨t,h⟩
 ·refine CT t ?_
  cases h
 refine CF t<|Wk<|Ws<|Wg ?_
 refine WL.w (R.loadBN (i:=2) (vs:=[(str b.fName),(int b.fBytes),(int b.fVariants),(int b.fTables),(boo b.fStrict),(boo b.fRefuse)]) S rfl rfl lay38 rfl rfl)<|M ?_
 refine WL.w (R.build [(0,(agg [(str b.fName),(int b.fBytes),(int b.fVariants),(int b.fTables),(boo b.fStrict),(boo b.fRefuse)])),(1,(ptr j 0))] [(str b.fName),(int b.fBytes),(int b.fVariants),(int b.fTables),(boo b.fStrict),(boo b.fRefuse),(ptr j 0),(int 0),(.pointer none)] bp54 zer54 rfl rfl) ?_
 refine W.box [(str b.fName),(int b.fBytes),(int b.fVariants),(int b.fTables),(boo b.fStrict),(boo b.fRefuse),(ptr j 0),(int 0),(.pointer none)] S rfl rfl ?_
 intro l aj S
 refine A<|A<|We ?_
 refine WP.ret (In.two rfl rfl rfl ?_)
 cases oi h
 exact hK l j o r ab (z.trans ac) _ S
theorem zFh {j:World} {q:Hp} (hw:Holds j q) (hG:Tryz.Gl j) {d:GConfig} {c:(GRequest×GURI×Unit)} {ac:Str} {f:Nat} {u:Nat} {x:Nat} {z:Nat} {k:Value} {aa:Nat} {ab:Nat} {o:Nat} {p:Hp} {w:World} (S:St j q w p [.box u 62 [(.slice none 0 0),(.slice none 0 0)],.box x 96 [(str c.2.1.fHost),(int c.2.1.fPort),(str c.2.1.fPath),(str c.2.1.fQuery),(boo c.2.1.fHasQuery)],.box z 94 [(str c.1.fMethod),(str c.1.fTarget),(int c.1.fMinor),k,(str c.1.fBody)],.box aa 56 [(str []),(str [])],.box ab 54 [(str d.fName),(int d.fBytes),(int d.fVariants),(int d.fTables),(boo d.fStrict),(boo d.fRefuse),(ptr f 0),(int 0),(.pointer none)],.box f 136 [(int d.fBytes),(int d.fVariants),(int d.fTables),(int 0),(.slice none 0 0),(mapv o)],.mp o []]) (ad:Sl p k c.1.fFields) (h:zCz=some ()) {K:Value→World→Prop}
  (hK:∀ (r:Nat) (t:Nat) (Hz:Hp),p.le Hz→Sl Hz k c.1.fFields→∀ w',St j q w' Hz [.box r 62 [(.slice none 0 0),(.slice none 0 0)],.box t 62 [(.slice none 0 0),(.slice none 0 0)],.box u 62 [(.slice none 0 0),(.slice none 0 0)],.box x 96 [(str c.2.1.fHost),(int c.2.1.fPort),(str c.2.1.fPath),(str c.2.1.fQuery),(boo c.2.1.fHasQuery)],.box z 94 [(str c.1.fMethod),(str c.1.fTarget),(int c.1.fMinor),k,(str c.1.fBody)],.box aa 56 [(str []),(str [])],.box ab 54 [(str d.fName),(int d.fBytes),(int d.fVariants),(int d.fTables),(boo d.fStrict),(boo d.fRefuse),(ptr f 0),(int 0),(.pointer none)],.box f 136 [(int d.fBytes),(int d.fVariants),(int d.fTables),(int 0),(.slice none 0 0),(mapv o)],.mp o []]→K (.tuple ⟨[(agg [(.slice none 0 0),(.slice none 0 0)]),(boo false)]⟩) w') :
  CallK Tryz.prog 80 [(ptr f 0),(str ac)] w K:=by
 unfold zCz at h
 refine zAi (N':=23) Tryz.func80 rfl rfl kr rfl<|Ws<|Wg ?_
 refine W.alloc [(.slice none 0 0),(.slice none 0 0)] S zer62 ?_
 intro t ae S
 refine A<|We<|Ws<|Ws<|Wg<|M<|W.inl (args:=[(ptr f 0)]) rfl (N':=12) Tryz.func78 rfl rfl kr rfl<|Ws<|Wg<|A<|We<|Ws ?_
 refine Wg<|M ?_
 refine WL.w (v:=boo true) (R.ofEq (R.neqPN rfl rfl Tryz.underlying51) rfl)<|M<|Gy rfl<|M<|Gy rfl<|Nn<|Gy rfl<|Fb<|Gy rfl ?_
 refine Lo 6 S ?_
 refine Gy rfl ?_
 refine WL.w (v:=boo true) (R.ofEq (R.neqMN rfl rfl Tryz.underlying134) rfl)<|Pt rfl<|A<|We ?_
 refine WP.ret (In.one rfl rfl ?_)
 refine WL.w (v:=boo false) (R.ofEq (R.not rfl) rfl)<|We<|WP.condF (b:=false) rfl rfl<|Wk<|Ws<|Wg<|M<|Nn<|Fb ?_
 refine Lo 6 S<|M ?_
 refine WL.w (v:=.tuple ⟨[(agg [(.slice none 0 0),(.slice none 0 0)]),(boo false)]⟩) (R.lookX (i:=7) (m:=[]) S rfl rfl rfl Tryz.underlying134 Tryz.underlying9 mz62 zHT) ?_
 refine M ?_
 refine Ex ?_
 refine Ex ?_
 refine W.alloc [(.slice none 0 0),(.slice none 0 0)] S zer62 ?_
 intro r af S
 refine W.store (i:=0) [(.slice none 0 0),(.slice none 0 0)] S rfl rfl rfl lay62 rfl (AllOne.all (l:=[(.slice none 0 0),(.slice none 0 0)]) (.cons rfl (.cons rfl .nil))) (Nat.le_of_ble_eq_true rfl) rfl ?_
 intro ah S
 refine A<|We<|Ws<|Wg ?_
 refine WL.w (R.loadBN (i:=0) (vs:=[(.slice none 0 0),(.slice none 0 0)]) S rfl rfl lay62 rfl rfl)<|M ?_
 refine W.store (i:=1) [(.slice none 0 0),(.slice none 0 0)] S rfl rfl rfl lay62 rfl (AllOne.all (l:=[(.slice none 0 0),(.slice none 0 0)]) (.cons rfl (.cons rfl .nil))) (Nat.le_of_ble_eq_true rfl) rfl ?_
 intro ai S
 refine A<|We ?_
 refine WP.ret (In.two rfl (Res.cellB (i:=1) (cs:=[(.slice none 0 0),(.slice none 0 0)]) S rfl rfl lay62 rfl rfl) rfl ?_)
 cases oi h
 exact hK r t p lr ad _ S
theorem zFu {o:World} {r:Hp} (hw:Holds o r) (hG:Tryz.Gl o) {c:GConfig} {b:(GRequest×GURI×Unit)} {ah:Str} {j:Nat} {v:Nat} {x:Nat} {p:Value} {z:Nat} {aa:Nat} {k:Nat} {ab:Hp} {w:World} (S:St o r w ab [.box v 96 [(str b.2.1.fHost),(int b.2.1.fPort),(str b.2.1.fPath),(str b.2.1.fQuery),(boo b.2.1.fHasQuery)],.box x 94 [(str b.1.fMethod),(str b.1.fTarget),(int b.1.fMinor),p,(str b.1.fBody)],.box z 56 [(str []),(str [])],.box aa 54 [(str c.fName),(int c.fBytes),(int c.fVariants),(int c.fTables),(boo c.fStrict),(boo c.fRefuse),(ptr j 0),(int 0),(.pointer none)],.box j 136 [(int c.fBytes),(int c.fVariants),(int c.fTables),(int 0),(.slice none 0 0),(mapv k)],.mp k []]) (q:Sl ab p b.1.fFields) {t:GTable} (h:zCr=some t) {K:Value→World→Prop}
  (hK:∀ (d:Value) (f:Value) (ac:Nat) (u:Nat) (Hz:Hp),ab.le Hz→Sl Hz d t.fAxes→Sl Hz f t.fEntries→Sl Hz p b.1.fFields→∀ w',St o r w' Hz [.box ac 62 [(.slice none 0 0),(.slice none 0 0)],.box u 62 [d,f],.box v 96 [(str b.2.1.fHost),(int b.2.1.fPort),(str b.2.1.fPath),(str b.2.1.fQuery),(boo b.2.1.fHasQuery)],.box x 94 [(str b.1.fMethod),(str b.1.fTarget),(int b.1.fMinor),p,(str b.1.fBody)],.box z 56 [(str []),(str [])],.box aa 54 [(str c.fName),(int c.fBytes),(int c.fVariants),(int c.fTables),(boo c.fStrict),(boo c.fRefuse),(ptr j 0),(int 0),(.pointer none)],.box j 136 [(int c.fBytes),(int c.fVariants),(int c.fTables),(int 0),(.slice none 0 0),(mapv k)],.mp k []]→K (.tuple ⟨[(agg [d,f]),(boo false)]⟩) w') :
  CallK Tryz.prog 45 [(ptr j 0),(str ah)] w K:=by
 unfold zCr at h
 refine zAi (N':=17) Tryz.func45 rfl rfl kr rfl<|Ws<|Wg ?_
 refine W.alloc [(.slice none 0 0),(.slice none 0 0)] S zer62 ?_
 intro u an S
 refine A<|We<|Ws<|Wg<|M<|M<|B h fun _ ai h=>callK rfl (zFh hw (hG) S q ai ?_)
 intro ao ap aj ak q aq S
 replace S:St o r _ aj [.box u 62 [(.slice none 0 0),(.slice none 0 0)],.box v 96 [(str b.2.1.fHost),(int b.2.1.fPort),(str b.2.1.fPath),(str b.2.1.fQuery),(boo b.2.1.fHasQuery)],.box x 94 [(str b.1.fMethod),(str b.1.fTarget),(int b.1.fMinor),p,(str b.1.fBody)],.box z 56 [(str []),(str [])],.box aa 54 [(str c.fName),(int c.fBytes),(int c.fVariants),(int c.fTables),(boo c.fStrict),(boo c.fRefuse),(ptr j 0),(int 0),(.pointer none)],.box j 136 [(int c.fBytes),(int c.fVariants),(int c.fTables),(int 0),(.slice none 0 0),(mapv k)],.mp k []]:=(S.pk [2,3,4,5,6,7,8])
 refine M ?_
 refine Ex ?_
 refine Ex ?_
 refine W.alloc [(.slice none 0 0),(.slice none 0 0)] S zer62 ?_
 intro ac ar S
 refine W.store (i:=0) [(.slice none 0 0),(.slice none 0 0)] S rfl rfl rfl lay62 rfl (AllOne.all (l:=[(.slice none 0 0),(.slice none 0 0)]) (.cons rfl (.cons rfl .nil))) (Nat.le_of_ble_eq_true rfl) rfl ?_
 intro au S
 refine A<|We<|Ws<|Wg ?_
 refine WL.w (R.loadBN (i:=0) (vs:=[(.slice none 0 0),(.slice none 0 0)]) S rfl rfl lay62 rfl rfl)<|B h fun t al h=>W.call S rfl (zEg S.holds (hG.post S.post) (⟨([]:List GAxis),([]:List GEntry)⟩:GTable) Sl.nil Sl.nil al) ?_
 rintro av aw am ad S ⟨d,f,rfl,ae,af⟩
 have q:=q.up ad
 refine M ?_
 refine W.store (i:=1) [d,f] S rfl rfl rfl lay62 rfl (AllOne.all (l:=[d,f]) (.cons (Sl.oneC ae) (.cons (Sl.oneC af) .nil))) (Nat.le_of_ble_eq_true rfl) rfl ?_
 intro ax S
 refine A<|We ?_
 refine WP.ret (In.two rfl (Res.cellB (i:=1) (cs:=[d,f]) S rfl rfl lay62 rfl rfl) rfl ?_)
 obtain rfl:=oi h
 exact hK d f ac u am (ak.trans ad) ae af q _ S
theorem zFl {u:World} {H0:Hp} (hw:Holds u H0) (hG:Tryz.Gl u) {d:GConfig} {b:(GRequest×GURI×Unit)} {ao:Str} {v:GTable} {x:GDecision} {af:Nat} {o:Value} {ap:Nat} {aq:Nat} {ar:Nat} {z:Value} {aa:Value} {au:Nat} {av:Nat} {aw:Nat} {ab:Nat} {ac:Nat} {q:Hp} {w:World} (S:St u H0 w q [.box ap 111 [(str b.1.fMethod),(str b.1.fTarget),(int b.1.fMinor),o,(str b.1.fBody),(str b.2.1.fHost),(int b.2.1.fPort),(str b.2.1.fPath),(str b.2.1.fQuery),(boo b.2.1.fHasQuery),(str ao),(int 0),(boo false),(int 0),(.slice none 0 0),(.slice none 0 0),(.slice none 0 0),(str []),(.slice none 0 0),(str []),(int 0),(int 0)],.box aq 108 [(int x.fKind),(int x.fIndex)],.box ar 62 [z,aa],.box au 96 [(str b.2.1.fHost),(int b.2.1.fPort),(str b.2.1.fPath),(str b.2.1.fQuery),(boo b.2.1.fHasQuery)],.box av 94 [(str b.1.fMethod),(str b.1.fTarget),(int b.1.fMinor),o,(str b.1.fBody)],.box aw 56 [(str []),(str [])],.box af 54 [(str d.fName),(int d.fBytes),(int d.fVariants),(int d.fTables),(boo d.fStrict),(boo d.fRefuse),(ptr ab 0),(int 0),(.pointer none)],.box ab 136 [(int d.fBytes),(int d.fVariants),(int d.fTables),(int 0),(.slice none 0 0),(mapv ac)],.mp ac []]) (f:Sl q o b.1.fFields) (j:Sl q z v.fAxes) (k:Sl q aa v.fEntries) {ah:Str} {c:GRequest} {ad:(List GField)} (h:zCw d b=some (ah,c,ad)) {K:Value→World→Prop}
  (hK:∀ (ai:Nat) (aj:Nat) (p:Value) (Hz:Hp),q.le Hz→Sl Hz p ad→Sl Hz o b.1.fFields→Sl Hz z v.fAxes→Sl Hz aa v.fEntries→∀ w',St u H0 w' Hz [.box ai 96 [(str b.2.1.fHost),(int b.2.1.fPort),(str b.2.1.fPath),(str b.2.1.fQuery),(boo b.2.1.fHasQuery)],.box aj 94 [(str c.fMethod),(str b.2.1.fPath),(int c.fMinor),p,(str c.fBody)],.box ap 111 [(str b.1.fMethod),(str b.1.fTarget),(int b.1.fMinor),o,(str b.1.fBody),(str b.2.1.fHost),(int b.2.1.fPort),(str b.2.1.fPath),(str b.2.1.fQuery),(boo b.2.1.fHasQuery),(str ao),(int 0),(boo false),(int 0),(.slice none 0 0),(.slice none 0 0),(.slice none 0 0),(str []),(.slice none 0 0),(str []),(int 0),(int 0)],.box aq 108 [(int x.fKind),(int x.fIndex)],.box ar 62 [z,aa],.box au 96 [(str b.2.1.fHost),(int b.2.1.fPort),(str b.2.1.fPath),(str b.2.1.fQuery),(boo b.2.1.fHasQuery)],.box av 94 [(str b.1.fMethod),(str b.1.fTarget),(int b.1.fMinor),o,(str b.1.fBody)],.box aw 56 [(str []),(str [])],.box af 54 [(str d.fName),(int d.fBytes),(int d.fVariants),(int d.fTables),(boo d.fStrict),(boo d.fRefuse),(ptr ab 0),(int 0),(.pointer none)],.box ab 136 [(int d.fBytes),(int d.fVariants),(int d.fTables),(int 0),(.slice none 0 0),(mapv ac)],.mp ac []]→K (str ah) w') :
  CallK Tryz.prog 56 [(ptr af 0),(agg [(str b.1.fMethod),(str b.1.fTarget),(int b.1.fMinor),o,(str b.1.fBody)]),(agg [(str b.2.1.fHost),(int b.2.1.fPort),(str b.2.1.fPath),(str b.2.1.fQuery),(boo b.2.1.fHasQuery)])] w K:=by
 unfold zCw at h
 refine zAi (N':=55) Tryz.func56 rfl rfl kr rfl<|Ws<|Wg ?_
 refine W.box [(str b.1.fMethod),(str b.1.fTarget),(int b.1.fMinor),o,(str b.1.fBody)] S rfl rfl ?_
 intro aj a7 S
 refine W.box [(str b.2.1.fHost),(int b.2.1.fPort),(str b.2.1.fPath),(str b.2.1.fQuery),(boo b.2.1.fHasQuery)] S rfl rfl ?_
 intro ai a8 S
 refine A<|We<|Ws<|WP.quietTail 6 S kr kr ?_
 refine WQ.val (fun w hw=>by obtain ⟨_,hq,S⟩:=hw; exact (R.loadBN (i:=1) (vs:=[(str b.1.fMethod),(str b.1.fTarget),(int b.1.fMinor),o,(str b.1.fBody)]) S rfl rfl lay94 rfl rfl))<|QM<|QNn<|QFb<|QFb ?_
 refine QB 8 (str d.fName)<|WQ.nil ?_
 intro a9 ba ax S
 have ⟨f,j,k⟩:=U3 ax f j k
 refine B h fun c a2 h=>W.call S rfl (zEU S.holds (hG.post S.post) b.1 d.fName f a2) ?_
 rintro bb bc bd ay S ⟨ak,rfl,r⟩
 have ⟨f,j,k⟩:=U3 ay f j k
 refine W.store (i:=1) [(str c.fMethod),(str c.fTarget),(int c.fMinor),ak,(str c.fBody)] S rfl rfl rfl lay94 rfl (AllOne.all (l:=[(str c.fMethod),(str c.fTarget),(int c.fMinor),ak,(str c.fBody)]) (.cons rfl (.cons rfl (.cons rfl (.cons (Sl.oneC r) (.cons rfl .nil)))))) (Nat.le_of_ble_eq_true rfl) rfl ?_
 intro be S
 refine We<|Ws<|Wg<|Fb ?_
 refine Lo 0 S<|Fb ?_
 refine W.store (i:=1) [(str c.fMethod),(str b.2.1.fPath),(int c.fMinor),ak,(str c.fBody)] S rfl rfl rfl lay9 rfl rfl (Nat.le_of_ble_eq_true rfl) rfl ?_
 intro bf S
 refine We<|Ws<|Ws<|Wg<|Fb ?_
 refine Lo 0 S<|We ?_
 rcases condE h with ⟨al,h⟩ | ⟨al,h⟩
 ·refine CT al ?_
  cases h
 refine CF al<|Wk<|Ws<|Wg<|Fb ?_
 refine Lo 0 S<|A<|We<|Ws<|Ws<|Wg<|Fb ?_
 refine Lo 0 S<|Lf<|We ?_
 rcases condE h with ⟨am,h⟩ | ⟨am,h⟩
 ·refine CT am ?_
  cases h
 refine CF am<|Wk<|Ws<|Ws<|Wg<|Fb ?_
 refine Lo 1 S<|B h fun bg a3 h=>W.call S rfl (zAj S.holds (hG.post S.post) c.fFields [72,111,115,116] r a3) ?_
 rintro bh bi bj az S rfl
 have ⟨f,r,j,k⟩:=U4 az f r j k
 refine We ?_
 rcases condE h with ⟨an,h⟩ | ⟨an,h⟩
 ·refine CT an<|Wg<|Fb ?_
  refine Lo 1 S<|M<|B h fun ad a4 h=>W.call S rfl (zGP S.holds (hG.post S.post) c.fFields [72,111,115,116] b.2.1.fHost r a4) ?_
  rintro p bk bn a0 S t
  have ⟨f,j,k⟩:=U3 a0 f j k
  refine Fb ?_
  refine W.storeSl (α:=GField) (i:=1) [(str c.fMethod),(str b.2.1.fPath),(int c.fMinor),p,(str c.fBody)] S t rfl rfl rfl lay22 (Nat.le_of_ble_eq_true rfl) rfl ?_
  intro bo S
  refine We<|Ws<|Wg ?_
  refine WL.w (R.loadBN (i:=1) (vs:=[(str c.fMethod),(str b.2.1.fPath),(int c.fMinor),p,(str c.fBody)]) S rfl rfl lay94 rfl rfl)<|B h fun ah a5 h=>W.call S rfl (zDh S.holds (hG.post S.post) (⟨c.fMethod,b.2.1.fPath,c.fMinor,ad,c.fBody⟩:GRequest) t a5) ?_
  rintro bp bq a6 a1 S rfl
  have ⟨f,t,j,k⟩:=U4 a1 f t j k
  refine A<|We ?_
  refine WP.ret (In.one rfl rfl ?_)
  cases oi h
  exact hK ai aj p a6 ((((ax.trans ay).trans az).trans a0).trans a1) t f j k _ S
 refine CF an ?_
 cases h
end Go.Proofs

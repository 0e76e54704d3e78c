/- A part of the proof of laws of the seat: written by program over the translation. -/
import Derived.Test.YtljjaiijlaeoeaaGreatDoorEng38
import Derived.Test.YtljjaiijlaeoeaaGreatDoorEng36
import Derived.Test.YtljjaiijlaeoeaaGreatDoorGenP13
namespace Go.Proofs
set_option maxHeartbeats 4000000
set_option maxRecDepth 10000
open Go.Eng Go.Eng.Pure
set_option linter.unusedVariables false
theorem zJu {w0 ws:World} {H0 Hs:Hp} {L2:List Ent} (hG:Tryz.Gl w0) (ap:GTable) {a8:Value} {aq:Value} (S:St w0 H0 ws Hs (L2)) (cf:Sl (α:=GAxis) Hs a8 ap.fAxes) (c:Sl (α:=GEntry) Hs aq ap.fEntries) {r:GTable} (h:zCT ap=some r) :
  ConS Tryz.prog 81 [(agg [a8,aq])] w0 H0 ws Hs L2 (fun H' v L'=>∃ u1 u2:Value,∃ e1:Ent,L'=[e1]∧v=(agg [u1,u2])∧Sl (α:=GAxis) H' u1 r.fAxes∧MR (α:=GEntry) H' e1 92 u2 r.fEntries):=by
 refine ConS.mk (N:=26) Tryz.func81 rfl rfl kr rfl<|Ws<|Wg ?_
 refine W.box [a8,aq] S rfl rfl ?_
 intro b1 w2 S
 refine W.alloc [(.slice none 0 0),(.slice none 0 0)] S zer62 ?_
 intro b3 w4 S
 refine We<|Ws<|Wg<|Fb ?_
 refine Lo 1 S<|B h fun r5 ch h=>W.call S rfl (zIO S.holds (hG.post S.post) ap.fAxes cf ch) ?_
 rintro v6 w7 H8 b2 S bo
 have c:=Sl.mono c b2
 refine WL.w (R.build [(0,v6)] [v6,(.slice none 0 0)] bp62 zer62 rfl (by obtain ⟨_,_,rfl,_⟩:=bo; rfl)) ?_
 refine W.alloc [(.slice none 0 0),(.slice none 0 0)] S zer62 ?_
 intro av ct S
 refine W.store (i:=0) [v6,(.slice none 0 0)] S rfl rfl rfl lay62 rfl (AllOne.all (l:=[v6,(.slice none 0 0)]) (.cons (Sl.oneC bo) (.cons rfl .nil))) (Nat.le_of_ble_eq_true rfl) rfl ?_
 intro cu S
 refine We<|Ws<|Ws<|Wg<|Fb ?_
 refine Lo 2 S<|Nq c<|M<|We ?_
 obtain ⟨a9,bp⟩:∃ v:Value,v=.slice none 0 0:=⟨_,rfl⟩
 have ci:MR (α:=GEntry) H8 (.row a9 92 8 0) 92 a9 []:=by rw [bp]; exact MR.nil
 replace S:=(show ∀ {w:World},St w0 H0 w H8 (.box av 62 [v6,(.slice none 0 0)] :: .box b3 62 [(.slice none 0 0),(.slice none 0 0)] :: .box b1 62 [a8,aq] :: L2)→St w0 H0 w H8 (.box av 62 [v6,a9] :: .box b3 62 [(.slice none 0 0),(.slice none 0 0)] :: .box b1 62 [a8,aq] :: L2) from fun S=>by rw [bp]; exact S) S
 replace S:=St.addNilV bp S 92 8
 refine B h fun bq cj h=>WP.cut (fun f w=>match bq with | (b4,b5)=>∃ (aw:Hp) (al:Value) (am:Value) (a2:Ent),f 2=(ptr b3 0)∧f 3=(ptr av 0)∧Sl (α:=GAxis) aw al b4∧MR (α:=GEntry) aw a2 92 am b5∧Hp.le Hs aw∧St w0 H0 w aw (a2 :: .box av 62 [al,am] :: .box b3 62 [(.slice none 0 0),(.slice none 0 0)] :: L2)) ?_ ?_
 ·refine Wb ?_
  refine WP.loopM (zCh ap) (fun s f w=>match s with | (b6,b7,b8)=>∃ (ax:Hp) (u:Value) (bk:Value) (bn:Ent),f 2=(ptr b3 0)∧f 3=(ptr av 0)∧f 11=aq∧f 12=(int (ap.fEntries.length:Int))∧f 13=(int b6)∧Sl (α:=GEntry) ax aq ap.fEntries∧Sl (α:=GAxis) ax u b7∧MR (α:=GEntry) ax bn 92 bk b8∧Hp.le Hs ax∧St w0 H0 w ax (bn :: .box av 62 [u,bk] :: .box b3 62 [(.slice none 0 0),(.slice none 0 0)] :: L2)) (0,r5,([]:List GEntry)) bq (lfW cj) ?_ ?_
  ·exact ⟨H8,v6,a9,(.row a9 92 8 0),rfl,rfl,rfl,rfl,rfl,c,bo,ci,b2,(S.drop _ (.cons_cons _ (.cons_cons _ (.cons_cons _ (.cons _ (.refl _))))))⟩
  intro s f w hI cv d ck
  obtain ⟨b6,b7,b8⟩:=s
  obtain ⟨ax,u,bk,bn,ba,aj,bb,bc,a3,c,q,t,bd,S⟩:=hI
  refine Ws<|Wg<|La' a3 bc<|We<|Ws ?_
  rcases condE d with ⟨br,d⟩ | ⟨br,d⟩
  ·refine CT br<|Wk<|Ws<|Wb<|Ws<|Wg<|B d fun k cl d=>W.idx (α:=GEntry) c bb a3 el60 cl ?_
   rintro cw _ cm ⟨be,bf,bg,bh,rfl,x,z,aa,ab⟩
   refine WL.w (R.loadHN (vs:=[be,bf,bg,(str k.fReason),bh,(str k.fBody),(int k.fRequested),(int k.fReceived)]) S rfl cm lay92 rfl rfl) ?_
   refine W.alloc [(.slice none 0 0),(.slice none 0 0),(.slice none 0 0),(str []),(.slice none 0 0),(str []),(int 0),(int 0)] S zer92 ?_
   intro cx cy S
   refine W.store (i:=0) [be,bf,bg,(str k.fReason),bh,(str k.fBody),(int k.fRequested),(int k.fReceived)] S rfl rfl rfl lay92 rfl (AllOne.all (l:=[be,bf,bg,(str k.fReason),bh,(str k.fBody),(int k.fRequested),(int k.fReceived)]) (.cons (Sl.oneC x) (.cons (Sl.oneC z) (.cons (Sl.oneC aa) (.cons rfl (.cons (Sl.oneC ab) (.cons rfl (.cons rfl (.cons rfl .nil))))))))) (Nat.le_of_ble_eq_true rfl) rfl ?_
   intro cz S
   refine We<|WP.draw kr 8 rfl (bm 8 0) rfl ?_
   have S:=S.drew
   refine WA.take (i:=0) (bm 8 1) rfl kr kr kr rfl (fun _=>(R.fieldB aj zDI)) ?_
   refine WA.two (i:=1) (j:=2) (bm 8 3) (bm 8 5) rfl rfl kr rfl rfl ?_ ?_
   ·refine Lo 2 S<|We<|WA.one (i:=2) (bm 8 7) rfl kr rfl ?_
    refine WL.w (R.loadBN (i:=0) (vs:=[be,bf,bg,(str k.fReason),bh,(str k.fBody),(int k.fRequested),(int k.fReceived)]) S rfl rfl lay92 rfl rfl)<|We<|WA.one (i:=3) (bm 8 15) rfl kr rfl<|B d fun p bi d=>W.call S rfl (zAl S.holds (hG.post S.post) k x z aa ab bi) ?_
    rintro b9 ca cb o S ⟨a4,a5,a6,a7,rfl,ac,ad,ae,af⟩
    have c:=Sl.mono c o
    have x:=Sl.mono x o
    have z:=Sl.mono z o
    have aa:=Sl.mono aa o
    have ab:=Sl.mono ab o
    have t:=MR.mono t o
    have q:=Sl.mono q o
    refine We<|WA.one (i:=4) (bm 8 31) rfl kr rfl<|W.bslice (α:=GEntry) [(agg [a4,a5,a6,(str p.fReason),a7,(str p.fBody),(int p.fRequested),(int p.fReceived)])] ([p]:List GEntry) S el60 rfl rfl rfl (by decide) (Go.Eng.encS ⟨rfl,_,_,_,_,rfl,ac,ad,ae,af⟩ enc0) ?_
    intro bs bt ay b az S
    have c:=Sl.mono c b
    have x:=Sl.mono x b
    have z:=Sl.mono z b
    have aa:=Sl.mono aa b
    have ab:=Sl.mono ab b
    have t:=MR.mono t b
    have ac:=Sl.mono ac b
    have ad:=Sl.mono ad b
    have ae:=Sl.mono ae b
    have af:=Sl.mono af b
    have q:=Sl.mono q b
    refine We<|WA.one (i:=5) (bm 8 63) rfl kr rfl<|B d fun bu a0 d=>W.appM (α:=GEntry) (i:=2) S el60 rfl rfl rfl t az a0 ?_
    intro ah a1 bv ai S
    refine We ?_
    refine WA.take (i:=6) (bm 8 127) rfl kr kr kr rfl (fun _=>(R.fieldB aj zDI))<|WA.one (i:=7) (bm 8 255) rfl kr rfl ?_
    refine W.storeMR (α:=GEntry) (i:=3) [u,ah] S ai rfl rfl rfl lay60 (Nat.le_of_ble_eq_true rfl) rfl ?_
    intro bw S
    refine We<|WA.done kr<|Wg<|Lg' a3 rfl<|M<|We ?_
    obtain rfl:=oi d
    exact ⟨rfl,⟨ay,u,ah,(a1),ba,aj,bb,bc,rfl,c,q,ai,((bd.trans o).trans b),(S.drop _ (.cons _ (.cons _ (.cons_cons _ (.cons_cons _ (.cons_cons _ (.refl _)))))))⟩⟩
   refine WL.w (R.loadBN (i:=0) (vs:=[be,bf,bg,(str k.fReason),bh,(str k.fBody),(int k.fRequested),(int k.fReceived)]) S rfl rfl lay92 rfl rfl)<|We ?_
   refine WA.two (i:=1) (j:=3) (bm 8 7) (bm 8 13) rfl rfl kr rfl rfl ?_ ?_
   ·refine Lo 2 S<|We<|WA.one (i:=3) (bm 8 15) rfl kr rfl<|B d fun p bi d=>W.call S rfl (zAl S.holds (hG.post S.post) k x z aa ab bi) ?_
    rintro b9 ca cb o S ⟨a4,a5,a6,a7,rfl,ac,ad,ae,af⟩
    have c:=Sl.mono c o
    have x:=Sl.mono x o
    have z:=Sl.mono z o
    have aa:=Sl.mono aa o
    have ab:=Sl.mono ab o
    have t:=MR.mono t o
    have q:=Sl.mono q o
    refine We<|WA.one (i:=4) (bm 8 31) rfl kr rfl<|W.bslice (α:=GEntry) [(agg [a4,a5,a6,(str p.fReason),a7,(str p.fBody),(int p.fRequested),(int p.fReceived)])] ([p]:List GEntry) S el60 rfl rfl rfl (by decide) (Go.Eng.encS ⟨rfl,_,_,_,_,rfl,ac,ad,ae,af⟩ enc0) ?_
    intro bs bt ay b az S
    have c:=Sl.mono c b
    have x:=Sl.mono x b
    have z:=Sl.mono z b
    have aa:=Sl.mono aa b
    have ab:=Sl.mono ab b
    have t:=MR.mono t b
    have ac:=Sl.mono ac b
    have ad:=Sl.mono ad b
    have ae:=Sl.mono ae b
    have af:=Sl.mono af b
    have q:=Sl.mono q b
    refine We<|WA.one (i:=5) (bm 8 63) rfl kr rfl<|B d fun bu a0 d=>W.appM (α:=GEntry) (i:=2) S el60 rfl rfl rfl t az a0 ?_
    intro ah a1 bv ai S
    refine We ?_
    refine WA.take (i:=6) (bm 8 127) rfl kr kr kr rfl (fun _=>(R.fieldB aj zDI))<|WA.one (i:=7) (bm 8 255) rfl kr rfl ?_
    refine W.storeMR (α:=GEntry) (i:=3) [u,ah] S ai rfl rfl rfl lay60 (Nat.le_of_ble_eq_true rfl) rfl ?_
    intro bw S
    refine We<|WA.done kr<|Wg<|Lg' a3 rfl<|M<|We ?_
    obtain rfl:=oi d
    exact ⟨rfl,⟨ay,u,ah,(a1),ba,aj,bb,bc,rfl,c,q,ai,((bd.trans o).trans b),(S.drop _ (.cons _ (.cons _ (.cons_cons _ (.cons_cons _ (.cons_cons _ (.refl _)))))))⟩⟩
   refine B d fun p bi d=>W.call S rfl (zAl S.holds (hG.post S.post) k x z aa ab bi) ?_
   rintro b9 ca cb o S ⟨a4,a5,a6,a7,rfl,ac,ad,ae,af⟩
   have c:=Sl.mono c o
   have q:=Sl.mono q o
   have t:=MR.mono t o
   refine We ?_
   refine WA.two (i:=1) (j:=4) (bm 8 15) (bm 8 29) rfl rfl kr rfl rfl ?_ ?_
   ·refine Lo 2 S<|We<|WA.one (i:=4) (bm 8 31) rfl kr rfl<|W.bslice (α:=GEntry) [(agg [a4,a5,a6,(str p.fReason),a7,(str p.fBody),(int p.fRequested),(int p.fReceived)])] ([p]:List GEntry) S el60 rfl rfl rfl (by decide) (Go.Eng.encS ⟨rfl,_,_,_,_,rfl,ac,ad,ae,af⟩ enc0) ?_
    intro bs bt ay b az S
    have c:=Sl.mono c b
    have ac:=Sl.mono ac b
    have ad:=Sl.mono ad b
    have ae:=Sl.mono ae b
    have af:=Sl.mono af b
    have t:=MR.mono t b
    have q:=Sl.mono q b
    refine We<|WA.one (i:=5) (bm 8 63) rfl kr rfl<|B d fun bu a0 d=>W.appM (α:=GEntry) (i:=2) S el60 rfl rfl rfl t az a0 ?_
    intro ah a1 bv ai S
    refine We ?_
    refine WA.take (i:=6) (bm 8 127) rfl kr kr kr rfl (fun _=>(R.fieldB aj zDI))<|WA.one (i:=7) (bm 8 255) rfl kr rfl ?_
    refine W.storeMR (α:=GEntry) (i:=3) [u,ah] S ai rfl rfl rfl lay60 (Nat.le_of_ble_eq_true rfl) rfl ?_
    intro bw S
    refine We<|WA.done kr<|Wg<|Lg' a3 rfl<|M<|We ?_
    obtain rfl:=oi d
    exact ⟨rfl,⟨ay,u,ah,(a1),ba,aj,bb,bc,rfl,c,q,ai,((bd.trans o).trans b),(S.drop _ (.cons _ (.cons _ (.cons_cons _ (.cons_cons _ (.cons_cons _ (.refl _)))))))⟩⟩
   refine W.bslice (α:=GEntry) [(agg [a4,a5,a6,(str p.fReason),a7,(str p.fBody),(int p.fRequested),(int p.fReceived)])] ([p]:List GEntry) S el60 rfl rfl rfl (by decide) (Go.Eng.encS ⟨rfl,_,_,_,_,rfl,ac,ad,ae,af⟩ enc0) ?_
   intro bs bt ay b az S
   have c:=Sl.mono c b
   have q:=Sl.mono q b
   have t:=MR.mono t b
   refine We<|WA.one (i:=1) (bm 8 31) rfl kr rfl ?_
   refine Lo 3 S<|We<|WA.one (i:=5) (bm 8 63) rfl kr rfl<|B d fun bu a0 d=>W.appM (α:=GEntry) (i:=2) S el60 rfl rfl rfl t az a0 ?_
   intro ah a1 bv ai S
   refine We ?_
   refine WA.take (i:=6) (bm 8 127) rfl kr kr kr rfl (fun _=>(R.fieldB aj zDI))<|WA.one (i:=7) (bm 8 255) rfl kr rfl ?_
   refine W.storeMR (α:=GEntry) (i:=3) [u,ah] S ai rfl rfl rfl lay60 (Nat.le_of_ble_eq_true rfl) rfl ?_
   intro bw S
   refine We<|WA.done kr<|Wg<|Lg' a3 rfl<|M<|We ?_
   obtain rfl:=oi d
   exact ⟨rfl,⟨ay,u,ah,(a1),ba,aj,bb,bc,rfl,c,q,ai,((bd.trans o).trans b),(S.drop _ (.cons _ (.cons _ (.cons_cons _ (.cons_cons _ (.cons_cons _ (.refl _)))))))⟩⟩
  refine CF br<|Wx ?_
  obtain rfl:=oi d
  obtain rfl:=ck
  exact ⟨ax,u,bk,(bn),ba,aj,q,t,bd,S⟩
 intro f w hM
 obtain ⟨b4,b5⟩:=bq
 obtain ⟨aw,al,am,a2,cc,cn,cd,ce,co,S⟩:=hM
 refine Ws<|Wg ?_
 refine WL.w (R.loadBN (i:=1) (vs:=[al,am]) S cn rfl lay62 rfl rfl) ?_
 refine W.store (i:=2) [al,am] S cc rfl rfl lay62 rfl (AllOne.all (l:=[al,am]) (.cons (Sl.oneC cd) (.cons (MR.oneC ce) .nil))) (Nat.le_of_ble_eq_true rfl) rfl ?_
 intro c0 S
 refine We ?_
 obtain rfl:=oi h
 have S3:=S
 have S3:=S3.front 0 rfl
 replace S3:St w0 H0 _ aw (a2 :: .box av 62 [al,am] :: .box b3 62 [al,am] :: L2):=S3
 replace S3:St w0 H0 _ aw (a2 :: L2):=S3.drop _ (.cons_cons _ (.cons _ (.cons _ (.refl _))))
 refine WP.ret (OutS.one (L':=[a2]) rfl co S3 (Res.cellB (i:=2) (cs:=[al,am]) S cc rfl lay62 rfl rfl) ?_)
 exact ⟨_,_,_,rfl,rfl,cd,ce⟩
theorem zHA {w0:World} {H0:Hp} (hw:Holds w0 H0) (hG:Tryz.Gl w0) (bf:GTable) (d:GEntry) (bg:(List GAxis)) (b6:Int) {ak:Value} {al:Value} {av:Value} {aw:Value} {ax:Value} {ay:Value} {bh:Value} (bj:Sl (α:=GAxis) H0 ak bf.fAxes) (ce:Sl (α:=GEntry) H0 al bf.fEntries) (q:Sl (α:=(List Str)) H0 av d.fKeys) (t:Sl (α:=Str) H0 aw d.fVary) (u:Sl (α:=Str) H0 ax d.fSnapshot) (x:Sl (α:=GField) H0 ay d.fFields) (ao:Sl (α:=GAxis) H0 bh bg) {r:GTable} (h:zHP bf d bg b6=some r) :
  Con Tryz.prog 199 [(agg [ak,al]),(agg [av,aw,ax,(str d.fReason),ay,(str d.fBody),(int d.fRequested),(int d.fReceived)]),bh,(int b6)] w0 H0 (fun H' v=>∃ u1 u2:Value,v=(agg [u1,u2])∧Sl (α:=GAxis) H' u1 r.fAxes∧Sl (α:=GEntry) H' u2 r.fEntries):=by
 refine Con.mk (N:=44) Tryz.func199 rfl rfl kr rfl ?_
 have S:=St.start hw
 refine Ws<|Wg ?_
 refine W.box [ak,al] S rfl rfl ?_
 intro b1 w2 S
 refine W.box [av,aw,ax,(str d.fReason),ay,(str d.fBody),(int d.fRequested),(int d.fReceived)] S rfl rfl ?_
 intro b3 w4 S
 refine W.box [bh] S rfl (congrArg Array.toList (Sl.cellsOne ao)) ?_
 intro b5 w6 S
 refine W.alloc [(.slice none 0 0),(.slice none 0 0)] S zer62 ?_
 intro b7 w8 S
 refine We<|Ws<|Wg ?_
 refine WL.w (R.loadBN (i:=3) (vs:=[ak,al]) S rfl rfl lay62 rfl rfl)<|B h fun r9 cg h=>W.callS rfl (zJu hG bf S bj ce cg) ?_
 rintro cy cz ch c0 a9 S ⟨k,ba,bn,rfl,rfl,b,o⟩
 replace S:St w0 H0 _ ch [bn,.box b7 62 [(.slice none 0 0),(.slice none 0 0)],.box b5 59 [bh],.box b3 92 [av,aw,ax,(str d.fReason),ay,(str d.fBody),(int d.fRequested),(int d.fReceived)],.box b1 62 [ak,al]]:=S
 have bj:=Sl.mono bj a9
 have q:=Sl.mono q a9
 have t:=Sl.mono t a9
 have u:=Sl.mono u a9
 have x:=Sl.mono x a9
 have ao:=Sl.mono ao a9
 refine W.alloc [(.slice none 0 0),(.slice none 0 0)] S zer62 ?_
 intro az c1 S
 refine W.store (i:=0) [k,ba] S rfl rfl rfl lay62 rfl (AllOne.all (l:=[k,ba]) (.cons (Sl.oneC b) (.cons (MR.oneC o) .nil))) (Nat.le_of_ble_eq_true rfl) rfl ?_
 intro c2 S
 refine We<|Ws<|Ws<|Wg<|Fb ?_
 refine Lo 5 S ?_
 refine Lo 3 S<|B h fun c3 ci h=>W.call S rfl (zI6 S.holds (hG.post S.post) bf.fAxes bg bj ao ci) ?_
 rintro c4 c5 c6 a1 S rfl
 have q:=Sl.mono q a1
 have t:=Sl.mono t a1
 have u:=Sl.mono u a1
 have x:=Sl.mono x a1
 have ao:=Sl.mono ao a1
 have b:=Sl.mono b a1
 have o:=MR.mono o a1
 refine No<|We ?_
 rcases condE h with ⟨bp,h⟩ | ⟨bp,h⟩
 ·refine CT bp ?_
  cases h
 refine CF bp<|Wk<|Ws<|Wg<|Fb ?_
 refine Lo 0 S ?_
 obtain ⟨ca,a2,cj,_,S⟩:=S.settle (i:=3) rfl
 replace S:St w0 H0 _ ca [.box az 62 [k,ba],bn,.box b7 62 [(.slice none 0 0),(.slice none 0 0)],.box b3 92 [av,aw,ax,(str d.fReason),ay,(str d.fBody),(int d.fRequested),(int d.fReceived)],.box b1 62 [ak,al]]:=S
 have bq:At ca ⟨b5,0,none⟩ [bh]:=⟨_,_,rfl,cj,[],by simp⟩
 have q:=Sl.mono q a2
 have t:=Sl.mono t a2
 have u:=Sl.mono u a2
 have x:=Sl.mono x a2
 have ao:=Sl.mono ao a2
 have b:=Sl.mono b a2
 have o:=MR.mono o a2
 obtain ⟨br,a0,ck,_,S⟩:=S.settle (i:=3) rfl
 replace S:St w0 H0 _ br [.box az 62 [k,ba],bn,.box b7 62 [(.slice none 0 0),(.slice none 0 0)],.box b1 62 [ak,al]]:=S
 have ap:At br ⟨b3,0,none⟩ [av,aw,ax,(str d.fReason),ay,(str d.fBody),(int d.fRequested),(int d.fReceived)]:=⟨_,_,rfl,ck,[],by simp⟩
 have q:=Sl.mono q a0
 have t:=Sl.mono t a0
 have u:=Sl.mono u a0
 have x:=Sl.mono x a0
 have ao:=Sl.mono ao a0
 have bq:=At.mono bq a0 (by simp)
 have b:=Sl.mono b a0
 have o:=MR.mono o a0
 refine WL.w (R.mkFunc (vs:=[(.pointer (some ⟨b5,0,none⟩)),(.pointer (some ⟨b3,0,none⟩))]) rfl)<|B h fun c7 cl h=>?_
 have S:=S.front 1 rfl
 replace S:St w0 H0 _ br (bn :: [.box az 62 [k,ba],.box b7 62 [(.slice none 0 0),(.slice none 0 0)],.box b1 62 [ak,al]]):=S
 refine W.callS rfl (zCR hG r9.fEntries (fun x0=>zF5 x0 bg d) S o (fun hle hw hG x0=>fun cm cn co cp r h=>zJ8 hw hG x0 bg d cm cn co cp (At.mono bq hle (by simp)) (Sl.mono ao hle) (At.mono ap hle (by simp)) (Sl.mono q hle) (Sl.mono t hle) (Sl.mono u hle) (Sl.mono x hle) h) cl) ?_
 rintro cq c8 cr c9 a3 S ⟨ct,rfl,p⟩
 replace S:St w0 H0 _ cr [ct,.box az 62 [k,ba],.box b7 62 [(.slice none 0 0),(.slice none 0 0)],.box b1 62 [ak,al]]:=S
 have q:=Sl.mono q a3
 have t:=Sl.mono t a3
 have u:=Sl.mono u a3
 have x:=Sl.mono x a3
 have ap:=At.mono ap a3 (by simp)
 have b:=Sl.mono b a3
 have o:=MR.mono o a3
 refine Fb ?_
 refine W.storeMR (α:=GEntry) (i:=1) [k,cq] S p rfl rfl rfl lay60 (Nat.le_of_ble_eq_true rfl) rfl ?_
 intro da S
 refine We<|Ws<|WP.draw kr 8 rfl (bm 8 0) rfl ?_
 have S:=S.drew
 refine WA.take (i:=0) (bm 8 1) rfl kr kr kr rfl (fun _=>(R.fieldB rfl zDI)) ?_
 refine WA.two (i:=1) (j:=2) (bm 8 3) (bm 8 5) rfl rfl kr rfl rfl ?_ ?_
 ·refine Lo 1 S<|We<|WA.one (i:=2) (bm 8 7) rfl kr rfl ?_
  refine WL.w (R.loadHN (vs:=[av,aw,ax,(str d.fReason),ay,(str d.fBody),(int d.fRequested),(int d.fReceived)]) S rfl ap lay92 rfl rfl)<|We<|WA.one (i:=3) (bm 8 15) rfl kr rfl<|B h fun z bi h=>W.call S rfl (zAl S.holds (hG.post S.post) d q t u x bi) ?_
  rintro cb cc cd ab S ⟨bb,bc,bd,be,rfl,ad,ae,af,ah⟩
  have q:=Sl.mono q ab
  have t:=Sl.mono t ab
  have u:=Sl.mono u ab
  have x:=Sl.mono x ab
  have ap:=At.mono ap ab (by simp)
  have b:=Sl.mono b ab
  have o:=MR.mono o ab
  have p:=MR.mono p ab
  refine We<|WA.one (i:=4) (bm 8 31) rfl kr rfl<|W.bslice (α:=GEntry) [(agg [bb,bc,bd,(str z.fReason),be,(str z.fBody),(int z.fRequested),(int z.fReceived)])] ([z]:List GEntry) S el60 rfl rfl rfl (by decide) (Go.Eng.encS ⟨rfl,_,_,_,_,rfl,ad,ae,af,ah⟩ enc0) ?_
  intro a4 bt bu f am S
  have q:=Sl.mono q f
  have t:=Sl.mono t f
  have u:=Sl.mono u f
  have x:=Sl.mono x f
  have ap:=At.mono ap f (by simp)
  have b:=Sl.mono b f
  have o:=MR.mono o f
  have p:=MR.mono p f
  have ad:=Sl.mono ad f
  have ae:=Sl.mono ae f
  have af:=Sl.mono af f
  have ah:=Sl.mono ah f
  refine We<|WA.one (i:=5) (bm 8 63) rfl kr rfl<|B h fun bv a5 h=>W.appM (α:=GEntry) (i:=1) S el60 rfl rfl rfl p am a5 ?_
  intro aq bw bx ai S
  refine We ?_
  refine WA.take (i:=6) (bm 8 127) rfl kr kr kr rfl (fun _=>(R.fieldB rfl zDI))<|WA.one (i:=7) (bm 8 255) rfl kr rfl ?_
  refine W.storeMR (α:=GEntry) (i:=2) [k,aq] S ai rfl rfl rfl lay60 (Nat.le_of_ble_eq_true rfl) rfl ?_
  intro bz S
  refine We<|WA.done kr<|Ws<|Wg<|Fb ?_
  refine Lo 2 S<|Fb ?_
  refine Lo 2 S ?_
  refine WL.w (R.lenMR (α:=GEntry) ai rfl Tryz.underlying60)<|M<|Nj<|Lh ?_
  refine Nj ?_
  obtain ⟨a6,c,a7,S⟩:=S.settleM (i:=1) rfl ai
  replace S:St w0 H0 _ a6 [.row a4 92 8 ([z]:List GEntry).length,.box az 62 [k,aq],.box b7 62 [(.slice none 0 0),(.slice none 0 0)],.box b1 62 [ak,al]]:=S
  have q:=Sl.mono q c
  have t:=Sl.mono t c
  have u:=Sl.mono u c
  have x:=Sl.mono x c
  have ap:=At.mono ap c (by simp)
  have b:=Sl.mono b c
  have o:=MR.mono o c
  have p:=MR.mono p c
  have ad:=Sl.mono ad c
  have ae:=Sl.mono ae c
  have af:=Sl.mono af c
  have ah:=Sl.mono ah c
  have am:=Sl.mono am c
  refine B h fun b0 a8 h=>W.subLo (α:=GEntry) a7 rfl rfl el60 a8 ?_
  intro aa aj
  refine Fb ?_
  refine W.storeSl (α:=GEntry) (i:=1) [k,aa] S aj rfl rfl rfl lay60 (Nat.le_of_ble_eq_true rfl) rfl ?_
  intro b2 S
  refine We<|Ws<|Wg ?_
  refine WL.w (R.loadBN (i:=1) (vs:=[k,aa]) S rfl rfl lay62 rfl rfl) ?_
  refine W.store (i:=2) [k,aa] S rfl rfl rfl lay62 rfl (AllOne.all (l:=[k,aa]) (.cons (Sl.oneC b) (.cons (Sl.oneC aj) .nil))) (Nat.le_of_ble_eq_true rfl) rfl ?_
  intro b4 S
  refine We ?_
  obtain rfl:=oi h
  refine WP.ret (Out.one rfl S (Res.cellB (i:=2) (cs:=[k,aa]) S rfl rfl lay62 rfl rfl) ?_)
  exact ⟨_,_,rfl,b,aj⟩
 refine WL.w (R.loadHN (vs:=[av,aw,ax,(str d.fReason),ay,(str d.fBody),(int d.fRequested),(int d.fReceived)]) S rfl ap lay92 rfl rfl)<|We ?_
 refine WA.two (i:=1) (j:=3) (bm 8 7) (bm 8 13) rfl rfl kr rfl rfl ?_ ?_
 ·refine Lo 1 S<|We<|WA.one (i:=3) (bm 8 15) rfl kr rfl<|B h fun z bi h=>W.call S rfl (zAl S.holds (hG.post S.post) d q t u x bi) ?_
  rintro cb cc cd ab S ⟨bb,bc,bd,be,rfl,ad,ae,af,ah⟩
  have q:=Sl.mono q ab
  have t:=Sl.mono t ab
  have u:=Sl.mono u ab
  have x:=Sl.mono x ab
  have b:=Sl.mono b ab
  have o:=MR.mono o ab
  have p:=MR.mono p ab
  refine We<|WA.one (i:=4) (bm 8 31) rfl kr rfl<|W.bslice (α:=GEntry) [(agg [bb,bc,bd,(str z.fReason),be,(str z.fBody),(int z.fRequested),(int z.fReceived)])] ([z]:List GEntry) S el60 rfl rfl rfl (by decide) (Go.Eng.encS ⟨rfl,_,_,_,_,rfl,ad,ae,af,ah⟩ enc0) ?_
  intro a4 bt bu f am S
  have q:=Sl.mono q f
  have t:=Sl.mono t f
  have u:=Sl.mono u f
  have x:=Sl.mono x f
  have b:=Sl.mono b f
  have o:=MR.mono o f
  have p:=MR.mono p f
  have ad:=Sl.mono ad f
  have ae:=Sl.mono ae f
  have af:=Sl.mono af f
  have ah:=Sl.mono ah f
  refine We<|WA.one (i:=5) (bm 8 63) rfl kr rfl<|B h fun bv a5 h=>W.appM (α:=GEntry) (i:=1) S el60 rfl rfl rfl p am a5 ?_
  intro aq bw bx ai S
  refine We ?_
  refine WA.take (i:=6) (bm 8 127) rfl kr kr kr rfl (fun _=>(R.fieldB rfl zDI))<|WA.one (i:=7) (bm 8 255) rfl kr rfl ?_
  refine W.storeMR (α:=GEntry) (i:=2) [k,aq] S ai rfl rfl rfl lay60 (Nat.le_of_ble_eq_true rfl) rfl ?_
  intro bz S
  refine We<|WA.done kr<|Ws<|Wg<|Fb ?_
  refine Lo 2 S<|Fb ?_
  refine Lo 2 S ?_
  refine WL.w (R.lenMR (α:=GEntry) ai rfl Tryz.underlying60)<|M<|Nj<|Lh ?_
  refine Nj ?_
  obtain ⟨a6,c,a7,S⟩:=S.settleM (i:=1) rfl ai
  replace S:St w0 H0 _ a6 [.row a4 92 8 ([z]:List GEntry).length,.box az 62 [k,aq],.box b7 62 [(.slice none 0 0),(.slice none 0 0)],.box b1 62 [ak,al]]:=S
  have q:=Sl.mono q c
  have t:=Sl.mono t c
  have u:=Sl.mono u c
  have x:=Sl.mono x c
  have b:=Sl.mono b c
  have o:=MR.mono o c
  have p:=MR.mono p c
  have ad:=Sl.mono ad c
  have ae:=Sl.mono ae c
  have af:=Sl.mono af c
  have ah:=Sl.mono ah c
  have am:=Sl.mono am c
  refine B h fun b0 a8 h=>W.subLo (α:=GEntry) a7 rfl rfl el60 a8 ?_
  intro aa aj
  refine Fb ?_
  refine W.storeSl (α:=GEntry) (i:=1) [k,aa] S aj rfl rfl rfl lay60 (Nat.le_of_ble_eq_true rfl) rfl ?_
  intro b2 S
  refine We<|Ws<|Wg ?_
  refine WL.w (R.loadBN (i:=1) (vs:=[k,aa]) S rfl rfl lay62 rfl rfl) ?_
  refine W.store (i:=2) [k,aa] S rfl rfl rfl lay62 rfl (AllOne.all (l:=[k,aa]) (.cons (Sl.oneC b) (.cons (Sl.oneC aj) .nil))) (Nat.le_of_ble_eq_true rfl) rfl ?_
  intro b4 S
  refine We ?_
  obtain rfl:=oi h
  refine WP.ret (Out.one rfl S (Res.cellB (i:=2) (cs:=[k,aa]) S rfl rfl lay62 rfl rfl) ?_)
  exact ⟨_,_,rfl,b,aj⟩
 refine B h fun z bi h=>W.call S rfl (zAl S.holds (hG.post S.post) d q t u x bi) ?_
 rintro cb cc cd ab S ⟨bb,bc,bd,be,rfl,ad,ae,af,ah⟩
 have b:=Sl.mono b ab
 have o:=MR.mono o ab
 have p:=MR.mono p ab
 refine We ?_
 refine WA.two (i:=1) (j:=4) (bm 8 15) (bm 8 29) rfl rfl kr rfl rfl ?_ ?_
 ·refine Lo 1 S<|We<|WA.one (i:=4) (bm 8 31) rfl kr rfl<|W.bslice (α:=GEntry) [(agg [bb,bc,bd,(str z.fReason),be,(str z.fBody),(int z.fRequested),(int z.fReceived)])] ([z]:List GEntry) S el60 rfl rfl rfl (by decide) (Go.Eng.encS ⟨rfl,_,_,_,_,rfl,ad,ae,af,ah⟩ enc0) ?_
  intro a4 bt bu f am S
  have b:=Sl.mono b f
  have o:=MR.mono o f
  have p:=MR.mono p f
  have ad:=Sl.mono ad f
  have ae:=Sl.mono ae f
  have af:=Sl.mono af f
  have ah:=Sl.mono ah f
  refine We<|WA.one (i:=5) (bm 8 63) rfl kr rfl<|B h fun bv a5 h=>W.appM (α:=GEntry) (i:=1) S el60 rfl rfl rfl p am a5 ?_
  intro aq bw bx ai S
  refine We ?_
  refine WA.take (i:=6) (bm 8 127) rfl kr kr kr rfl (fun _=>(R.fieldB rfl zDI))<|WA.one (i:=7) (bm 8 255) rfl kr rfl ?_
  refine W.storeMR (α:=GEntry) (i:=2) [k,aq] S ai rfl rfl rfl lay60 (Nat.le_of_ble_eq_true rfl) rfl ?_
  intro bz S
  refine We<|WA.done kr<|Ws<|Wg<|Fb ?_
  refine Lo 2 S<|Fb ?_
  refine Lo 2 S ?_
  refine WL.w (R.lenMR (α:=GEntry) ai rfl Tryz.underlying60)<|M<|Nj<|Lh ?_
  refine Nj ?_
  obtain ⟨a6,c,a7,S⟩:=S.settleM (i:=1) rfl ai
  replace S:St w0 H0 _ a6 [.row a4 92 8 ([z]:List GEntry).length,.box az 62 [k,aq],.box b7 62 [(.slice none 0 0),(.slice none 0 0)],.box b1 62 [ak,al]]:=S
  have b:=Sl.mono b c
  have o:=MR.mono o c
  have p:=MR.mono p c
  have ad:=Sl.mono ad c
  have ae:=Sl.mono ae c
  have af:=Sl.mono af c
  have ah:=Sl.mono ah c
  have am:=Sl.mono am c
  refine B h fun b0 a8 h=>W.subLo (α:=GEntry) a7 rfl rfl el60 a8 ?_
  intro aa aj
  refine Fb ?_
  refine W.storeSl (α:=GEntry) (i:=1) [k,aa] S aj rfl rfl rfl lay60 (Nat.le_of_ble_eq_true rfl) rfl ?_
  intro b2 S
  refine We<|Ws<|Wg ?_
  refine WL.w (R.loadBN (i:=1) (vs:=[k,aa]) S rfl rfl lay62 rfl rfl) ?_
  refine W.store (i:=2) [k,aa] S rfl rfl rfl lay62 rfl (AllOne.all (l:=[k,aa]) (.cons (Sl.oneC b) (.cons (Sl.oneC aj) .nil))) (Nat.le_of_ble_eq_true rfl) rfl ?_
  intro b4 S
  refine We ?_
  obtain rfl:=oi h
  refine WP.ret (Out.one rfl S (Res.cellB (i:=2) (cs:=[k,aa]) S rfl rfl lay62 rfl rfl) ?_)
  exact ⟨_,_,rfl,b,aj⟩
 refine W.bslice (α:=GEntry) [(agg [bb,bc,bd,(str z.fReason),be,(str z.fBody),(int z.fRequested),(int z.fReceived)])] ([z]:List GEntry) S el60 rfl rfl rfl (by decide) (Go.Eng.encS ⟨rfl,_,_,_,_,rfl,ad,ae,af,ah⟩ enc0) ?_
 intro a4 bt bu f am S
 have b:=Sl.mono b f
 have o:=MR.mono o f
 have p:=MR.mono p f
 refine We<|WA.one (i:=1) (bm 8 31) rfl kr rfl ?_
 refine Lo 2 S<|We<|WA.one (i:=5) (bm 8 63) rfl kr rfl<|B h fun bv a5 h=>W.appM (α:=GEntry) (i:=1) S el60 rfl rfl rfl p am a5 ?_
 intro aq bw bx ai S
 refine We ?_
 refine WA.take (i:=6) (bm 8 127) rfl kr kr kr rfl (fun _=>(R.fieldB rfl zDI))<|WA.one (i:=7) (bm 8 255) rfl kr rfl ?_
 refine W.storeMR (α:=GEntry) (i:=2) [k,aq] S ai rfl rfl rfl lay60 (Nat.le_of_ble_eq_true rfl) rfl ?_
 intro bz S
 refine We<|WA.done kr<|Ws<|Wg<|Fb ?_
 refine Lo 2 S<|Fb ?_
 refine Lo 2 S ?_
 refine WL.w (R.lenMR (α:=GEntry) ai rfl Tryz.underlying60)<|M<|Nj<|Lh ?_
 refine Nj ?_
 obtain ⟨a6,c,a7,S⟩:=S.settleM (i:=1) rfl ai
 replace S:St w0 H0 _ a6 [.row a4 92 8 ([z]:List GEntry).length,.box az 62 [k,aq],.box b7 62 [(.slice none 0 0),(.slice none 0 0)],.box b1 62 [ak,al]]:=S
 have b:=Sl.mono b c
 have o:=MR.mono o c
 have p:=MR.mono p c
 refine B h fun b0 a8 h=>W.subLo (α:=GEntry) a7 rfl rfl el60 a8 ?_
 intro aa aj
 refine Fb ?_
 refine W.storeSl (α:=GEntry) (i:=1) [k,aa] S aj rfl rfl rfl lay60 (Nat.le_of_ble_eq_true rfl) rfl ?_
 intro b2 S
 refine We<|Ws<|Wg ?_
 refine WL.w (R.loadBN (i:=1) (vs:=[k,aa]) S rfl rfl lay62 rfl rfl) ?_
 refine W.store (i:=2) [k,aa] S rfl rfl rfl lay62 rfl (AllOne.all (l:=[k,aa]) (.cons (Sl.oneC b) (.cons (Sl.oneC aj) .nil))) (Nat.le_of_ble_eq_true rfl) rfl ?_
 intro b4 S
 refine We ?_
 obtain rfl:=oi h
 refine WP.ret (Out.one rfl S (Res.cellB (i:=2) (cs:=[k,aa]) S rfl rfl lay62 rfl rfl) ?_)
 exact ⟨_,_,rfl,b,aj⟩
theorem zH6 {o:World} {d:Hp} (hw:Holds o d) (hG:Tryz.Gl o) (k:GTable) {aa:Value} {p:Value} (az:Sl (α:=GAxis) d aa k.fAxes) (j:Sl (α:=GEntry) d p k.fEntries) {r:Int} (h:zFM k=some r) :
  Con Tryz.prog 250 [(agg [aa,p])] o d (fun H' v=>v=(int r)):=by
 refine Con.mk (N:=19) Tryz.func250 rfl rfl kr rfl ?_
 have S:=St.start hw
 refine Ws<|Wg ?_
 refine W.box [aa,p] S rfl rfl ?_
 intro b1 w2 S
 refine A<|We<|Ws<|Wg<|A<|We<|Ws<|Ws<|Wg<|Fb ?_
 refine Lo 0 S<|Nq j ?_
 refine M<|We<|B h fun ad ap h=>WP.cut (fun f w=>∃ (ae:Hp),f 3=(int ad)∧St o d w ae []) ?_ ?_
 ·refine Wb ?_
  refine WP.loopM (zEO k) (fun s f w=>match s with | (af,ah)=>∃ (q:Hp),f 3=(int af)∧f 7=p∧f 8=(int (k.fEntries.length:Int))∧f 9=(int ah)∧Sl (α:=GEntry) q p k.fEntries∧St o d w q []) (0,0) ad (lfW ap) ?_ ?_
  ·exact ⟨d,rfl,rfl,rfl,rfl,j,(S.drop _ (.cons _ .slnil))⟩
  intro s f w hI a2 c aq
  obtain ⟨af,ah⟩:=s
  obtain ⟨q,h5,h6,h7,h9,j,S⟩:=hI
  refine Ws<|Wg<|La' h9 h7<|We<|Ws ?_
  rcases condE c with ⟨ac,c⟩ | ⟨ac,c⟩
  ·refine CT ac<|Wk<|Ws<|Wb<|Ws<|Wg<|B c fun b ar c=>W.idx (α:=GEntry) j h6 h9 el60 ar ?_
   rintro a3 _ au ⟨t,u,x,z,rfl,al,am,an,ao⟩
   refine WL.w (R.loadHN (vs:=[t,u,x,(str b.fReason),z,(str b.fBody),(int b.fRequested),(int b.fReceived)]) S rfl au lay92 rfl rfl) ?_
   refine W.alloc [(.slice none 0 0),(.slice none 0 0),(.slice none 0 0),(str []),(.slice none 0 0),(str []),(int 0),(int 0)] S zer92 ?_
   intro a4 a5 S
   refine W.store (i:=0) [t,u,x,(str b.fReason),z,(str b.fBody),(int b.fRequested),(int b.fReceived)] S rfl rfl rfl lay92 rfl (AllOne.all (l:=[t,u,x,(str b.fReason),z,(str b.fBody),(int b.fRequested),(int b.fReceived)]) (.cons (Sl.oneC al) (.cons (Sl.oneC am) (.cons (Sl.oneC an) (.cons rfl (.cons (Sl.oneC ao) (.cons rfl (.cons rfl (.cons rfl .nil))))))))) (Nat.le_of_ble_eq_true rfl) rfl ?_
   intro a6 S
   refine We<|Wg<|M' h5 ?_
   refine WL.w (R.loadBN (i:=0) (vs:=[t,u,x,(str b.fReason),z,(str b.fBody),(int b.fRequested),(int b.fReceived)]) S rfl rfl lay92 rfl rfl)<|B c fun a7 av c=>W.call S rfl (zBb S.holds (hG.post S.post) b al am an ao av) ?_
   rintro a8 a9 aw ax S rfl
   have j:=Sl.mono j ax
   refine Lg<|A<|We<|Wg<|Lg' h9 rfl<|M<|We ?_
   obtain rfl:=oi c
   exact ⟨rfl,⟨aw,rfl,h6,h7,rfl,j,(S.drop _ (.cons _ .slnil))⟩⟩
  refine CF ac<|Wx ?_
  obtain rfl:=oi c
  obtain rfl:=aq
  exact ⟨q,h5,S⟩
 rintro f w ⟨ae,ay,S⟩
 refine Ws<|Wg<|M' ay<|A<|We ?_
 obtain rfl:=oi h
 refine WP.ret (Out.one rfl S rfl ?_)
 exact rfl
theorem zIv {l:World} {p:Hp} (hw:Holds l p) (hG:Tryz.Gl l) {b:GConfig} {t:Nat} {q:Hp} {w:World} (S:St l p w q [.box t 38 [(str b.fName),(int b.fBytes),(int b.fVariants),(int b.fTables),(boo b.fStrict),(boo b.fRefuse)]]) (h:zDx b=some ()) {K:Value→World→Prop}
  (hK:∀ (o:Nat) (k:Nat) (Hz:Hp),q.le Hz→∀ w',St l p w' Hz [.box o 136 [(int b.fBytes),(int b.fVariants),(int b.fTables),(int 0),(.slice none 0 0),(mapv k)],.mp k [],.box t 38 [(str b.fName),(int b.fBytes),(int b.fVariants),(int b.fTables),(boo b.fStrict),(boo b.fRefuse)]]→K (.tuple ⟨[(ptr o 0),(int 0)]⟩) w') :
  CallK Tryz.prog 36 [(int b.fBytes),(int b.fVariants),(int b.fTables)] w K:=by
 unfold zDx at h
 refine zBB (N':=36) Tryz.func36 rfl rfl kr rfl<|Ws<|Wg<|A<|A<|We<|Ws<|Ws<|Wg<|M<|La<|M ?_
 refine WL.grp 3 [11,12] 13 (boo ((decide (b.fBytes<1))||(decide (100000000<b.fBytes)))) ?_ ?_
 ·rcases boolE (decide (b.fBytes<1)) with c | c
  ·refine Gn c<|Gn c<|Pt c ?_
   exact We ⟨(orT c),ag,rfl⟩
  refine Gy c<|M<|Gy c<|Lc<|Pf c ?_
  exact We ⟨(orF c),ag,rfl⟩
 intro us
 refine M ?_
 refine WL.grp 3 [15,16] 17 (boo (((decide (b.fBytes<1))||(decide (100000000<b.fBytes)))||(decide (b.fVariants<1)))) ?_ ?_
 ·rcases boolE ((decide (b.fBytes<1))||(decide (100000000<b.fBytes))) with d | d
  ·refine Gn d<|Gn d<|Pt d ?_
   exact We ⟨(orT d),ag,rfl⟩
  refine Gy d<|M<|Gy d<|La<|Pf d ?_
  exact We ⟨(orF d),ag,rfl⟩
 intro us
 refine M ?_
 refine WL.grp 3 [19,20] 21 (boo ((((decide (b.fBytes<1))||(decide (100000000<b.fBytes)))||(decide (b.fVariants<1)))||(decide (64<b.fVariants)))) ?_ ?_
 ·rcases boolE (((decide (b.fBytes<1))||(decide (100000000<b.fBytes)))||(decide (b.fVariants<1))) with f | f
  ·refine Gn f<|Gn f<|Pt f ?_
   exact We ⟨(orT f),ag,rfl⟩
  refine Gy f<|M<|Gy f<|Lc<|Pf f ?_
  exact We ⟨(orF f),ag,rfl⟩
 intro us
 refine M ?_
 refine WL.grp 3 [23,24] 25 (boo (((((decide (b.fBytes<1))||(decide (100000000<b.fBytes)))||(decide (b.fVariants<1)))||(decide (64<b.fVariants)))||(decide (b.fTables<1)))) ?_ ?_
 ·rcases boolE ((((decide (b.fBytes<1))||(decide (100000000<b.fBytes)))||(decide (b.fVariants<1)))||(decide (64<b.fVariants))) with i | i
  ·refine Gn i<|Gn i<|Pt i ?_
   exact We ⟨(orT i),ag,rfl⟩
  refine Gy i<|M<|Gy i<|La<|Pf i ?_
  exact We ⟨(orF i),ag,rfl⟩
 intro us
 refine M ?_
 refine WL.grp 3 [27,28] 29 (boo ((((((decide (b.fBytes<1))||(decide (100000000<b.fBytes)))||(decide (b.fVariants<1)))||(decide (64<b.fVariants)))||(decide (b.fTables<1)))||(decide (1000<b.fTables)))) ?_ ?_
 ·rcases boolE (((((decide (b.fBytes<1))||(decide (100000000<b.fBytes)))||(decide (b.fVariants<1)))||(decide (64<b.fVariants)))||(decide (b.fTables<1))) with j | j
  ·refine Gn j<|Gn j<|Pt j ?_
   exact We ⟨(orT j),ag,rfl⟩
  refine Gy j<|M<|Gy j<|Lc<|Pf j ?_
  exact We ⟨(orF j),ag,rfl⟩
 intro us
 refine We ?_
 rcases condE h with ⟨r,h⟩ | ⟨r,h⟩
 ·refine CT r ?_
  cases h
 refine CF r<|Wk<|Ws<|Wg<|M<|M<|M<|W.makeMap S ?_
 intro k u S
 refine WL.w (R.build [(0,(int b.fBytes)),(1,(int b.fVariants)),(2,(int b.fTables)),(5,(mapv k))] [(int b.fBytes),(int b.fVariants),(int b.fTables),(int 0),(.slice none 0 0),(mapv k)] bp136 zMj rfl rfl) ?_
 refine W.box [(int b.fBytes),(int b.fVariants),(int b.fTables),(int 0),(.slice none 0 0),(mapv k)] S rfl rfl ?_
 intro o v S
 refine A<|A<|We ?_
 refine WP.ret (In.two rfl rfl rfl ?_)
 cases oi h
 exact hK o k q (Hp.le.refl _) _ S
theorem zIe {k:World} {q:Hp} (hw:Holds k q) (hG:Tryz.Gl k) {b:GConfig} {u:Hp} {w:World} (S:St k q w u []) (h:zCi b=some ()) {K:Value→World→Prop}
  (hK:∀ (l:Nat) (j:Nat) (o:Nat) (r:Nat) (Hz:Hp),u.le Hz→∀ w',St k q w' Hz [.box l 54 [(str b.fName),(int b.fBytes),(int b.fVariants),(int b.fTables),(boo b.fStrict),(boo b.fRefuse),(ptr j 0),(int 0),(.pointer none)],.box j 136 [(int b.fBytes),(int b.fVariants),(int b.fTables),(int 0),(.slice none 0 0),(mapv o)],.mp o [],.box r 38 [(str b.fName),(int b.fBytes),(int b.fVariants),(int b.fTables),(boo b.fStrict),(boo b.fRefuse)]]→K (.tuple ⟨[(ptr l 0),(int 0)]⟩) w') :
  CallK Tryz.prog 13 [(agg [(str b.fName),(int b.fBytes),(int b.fVariants),(int b.fTables),(boo b.fStrict),(boo b.fRefuse)])] w K:=by
 unfold zCi at h
 refine zBB (N':=43) Tryz.func13 rfl rfl kr rfl<|Ws<|Wg ?_
 refine W.box [(str b.fName),(int b.fBytes),(int b.fVariants),(int b.fTables),(boo b.fStrict),(boo b.fRefuse)] S rfl rfl ?_
 intro r w7 S
 refine A<|A<|We<|Ws<|Wg<|Fb ?_
 refine Lo 0 S<|Fb ?_
 refine Lo 0 S<|Fb ?_
 refine Lo 0 S<|B h fun _ x h=>callK rfl (zIv hw (hG) S x ?_)
 intro j o ae z af S
 refine M ?_
 refine Ex ?_
 refine Ex<|A<|A<|We<|Ws<|Ws<|Wg<|M ?_
 refine WL.w (v:=boo false) (R.ofEq (R.neq rfl rfl) rfl)<|M ?_
 refine Gy rfl<|Fb<|Gy rfl ?_
 refine Lo 2 S<|Gy rfl<|B h fun p aa h=>W.call S rfl (zNU S.holds (hG.post S.post) b.fName aa) ?_
 rintro ah ai ab ac S rfl
 refine Gy rfl<|No<|Pf rfl<|M ?_
 refine WL.grp 5 [25,26,27,28] 29 (boo ((!p)||(decide (100<(b.fName.length:Int))))) ?_ ?_
 ·rcases boolE (!p) with d | d
  ·refine Gn d<|Gn d<|Gn d<|Gn d<|Pt d ?_
   exact We ⟨(orT d),ag,rfl⟩
  refine Gy d<|Fb<|Gy d ?_
  refine Lo 2 S<|Gy d<|Ns<|Gy d<|Lc<|Pf d ?_
  exact We ⟨(orF d),ag,rfl⟩
 intro us
 refine M ?_
 refine WL.grp 8 [31,32,33,34,35,36,37] 38 (boo (((!p)||(decide (100<(b.fName.length:Int))))||(b.fRefuse&&(!b.fStrict)))) ?_ ?_
 ·rcases boolE ((!p)||(decide (100<(b.fName.length:Int)))) with c | c
  ·refine Gn c<|Gn c<|Gn c<|WL.gund rfl rfl<|WL.gund rfl rfl<|WL.gund rfl rfl<|Gn c<|Pt c ?_
   exact We ⟨(orT c),ag,rfl⟩
  refine Gy c<|Fb<|Gy c ?_
  refine Lo 2 S<|Gy c<|M ?_
  refine WL.grp 4 [34,35,36] 37 (boo (b.fRefuse&&(!b.fStrict))) ?_ ?_
  ·rcases boolE b.fRefuse with f | f
   ·refine Gy f<|Fb<|Gy f ?_
    refine Lo 2 S<|Gy f<|No<|Gy c<|Pt f ?_
    exact We ⟨(andT f),ag,rfl⟩
   refine Gn f<|Gn f<|Gn f<|Gy c<|Pf f ?_
   exact We ⟨(andF f),ag,rfl⟩
  intro us
  refine Pf c ?_
  exact We ⟨(orF c),ag,rfl⟩
 intro us
 refine We ?_
 rcases condE h with ⟨t,h⟩ | ⟨t,h⟩
 ·refine CT t ?_
  cases h
 refine CF t<|Wk<|Ws<|Wg ?_
 refine WL.w (R.loadBN (i:=2) (vs:=[(str b.fName),(int b.fBytes),(int b.fVariants),(int b.fTables),(boo b.fStrict),(boo b.fRefuse)]) S rfl rfl lay38 rfl rfl)<|M ?_
 refine WL.w (R.build [(0,(agg [(str b.fName),(int b.fBytes),(int b.fVariants),(int b.fTables),(boo b.fStrict),(boo b.fRefuse)])),(1,(ptr j 0))] [(str b.fName),(int b.fBytes),(int b.fVariants),(int b.fTables),(boo b.fStrict),(boo b.fRefuse),(ptr j 0),(int 0),(.pointer none)] bp54 zer54 rfl rfl) ?_
 refine W.box [(str b.fName),(int b.fBytes),(int b.fVariants),(int b.fTables),(boo b.fStrict),(boo b.fRefuse),(ptr j 0),(int 0),(.pointer none)] S rfl rfl ?_
 intro l aj S
 refine A<|A<|We ?_
 refine WP.ret (In.two rfl rfl rfl ?_)
 cases oi h
 exact hK l j o r ab (z.trans ac) _ S
theorem zIb {j:World} {q:Hp} (hw:Holds j q) (hG:Tryz.Gl j) {d:GConfig} {c:(GRequest×GURI×Unit)} {ac:Str} {f:Nat} {u:Nat} {x:Nat} {z:Nat} {k:Value} {aa:Nat} {ab:Nat} {o:Nat} {p:Hp} {w:World} (S:St j q w p [.box u 62 [(.slice none 0 0),(.slice none 0 0)],.box x 96 [(str c.2.1.fHost),(int c.2.1.fPort),(str c.2.1.fPath),(str c.2.1.fQuery),(boo c.2.1.fHasQuery)],.box z 94 [(str c.1.fMethod),(str c.1.fTarget),(int c.1.fMinor),k,(str c.1.fBody)],.box aa 56 [(str []),(str [])],.box ab 54 [(str d.fName),(int d.fBytes),(int d.fVariants),(int d.fTables),(boo d.fStrict),(boo d.fRefuse),(ptr f 0),(int 0),(.pointer none)],.box f 136 [(int d.fBytes),(int d.fVariants),(int d.fTables),(int 0),(.slice none 0 0),(mapv o)],.mp o []]) (ad:Sl (α:=GField) p k c.1.fFields) (h:zD3=some ()) {K:Value→World→Prop}
  (hK:∀ (r:Nat) (t:Nat) (Hz:Hp),p.le Hz→Sl (α:=GField) Hz k c.1.fFields→∀ w',St j q w' Hz [.box r 62 [(.slice none 0 0),(.slice none 0 0)],.box t 62 [(.slice none 0 0),(.slice none 0 0)],.box u 62 [(.slice none 0 0),(.slice none 0 0)],.box x 96 [(str c.2.1.fHost),(int c.2.1.fPort),(str c.2.1.fPath),(str c.2.1.fQuery),(boo c.2.1.fHasQuery)],.box z 94 [(str c.1.fMethod),(str c.1.fTarget),(int c.1.fMinor),k,(str c.1.fBody)],.box aa 56 [(str []),(str [])],.box ab 54 [(str d.fName),(int d.fBytes),(int d.fVariants),(int d.fTables),(boo d.fStrict),(boo d.fRefuse),(ptr f 0),(int 0),(.pointer none)],.box f 136 [(int d.fBytes),(int d.fVariants),(int d.fTables),(int 0),(.slice none 0 0),(mapv o)],.mp o []]→K (.tuple ⟨[(agg [(.slice none 0 0),(.slice none 0 0)]),(boo false)]⟩) w') :
  CallK Tryz.prog 80 [(ptr f 0),(str ac)] w K:=by
 unfold zD3 at h
 refine zBB (N':=23) Tryz.func80 rfl rfl kr rfl<|Ws<|Wg ?_
 refine W.alloc [(.slice none 0 0),(.slice none 0 0)] S zer62 ?_
 intro t ae S
 refine A<|We<|Ws<|Ws<|Wg<|M<|W.inl (args:=[(ptr f 0)]) rfl (N':=12) Tryz.func78 rfl rfl kr rfl<|Ws<|Wg<|A<|We<|Ws ?_
 refine Wg<|M ?_
 refine WL.w (v:=boo true) (R.ofEq (R.neqPN rfl rfl Tryz.underlying51) rfl)<|M<|Gy rfl<|M<|Gy rfl<|Nn<|Gy rfl<|Fb<|Gy rfl ?_
 refine Lo 6 S ?_
 refine Gy rfl ?_
 refine WL.w (v:=boo true) (R.ofEq (R.neqMN rfl rfl Tryz.underlying134) rfl)<|Pt rfl<|A<|We ?_
 refine WP.ret (In.one rfl rfl ?_)
 refine WL.w (v:=boo false) (R.ofEq (R.not rfl) rfl)<|We<|WP.condF (b:=false) rfl rfl<|Wk<|Ws<|Wg<|M<|Nn<|Fb ?_
 refine Lo 6 S<|M ?_
 refine WL.w (v:=.tuple ⟨[(agg [(.slice none 0 0),(.slice none 0 0)]),(boo false)]⟩) (R.lookX (i:=7) (m:=[]) S rfl rfl rfl Tryz.underlying134 Tryz.underlying9 mz62 zKn) ?_
 refine M ?_
 refine Ex ?_
 refine Ex ?_
 refine W.alloc [(.slice none 0 0),(.slice none 0 0)] S zer62 ?_
 intro r af S
 refine W.store (i:=0) [(.slice none 0 0),(.slice none 0 0)] S rfl rfl rfl lay62 rfl (AllOne.all (l:=[(.slice none 0 0),(.slice none 0 0)]) (.cons rfl (.cons rfl .nil))) (Nat.le_of_ble_eq_true rfl) rfl ?_
 intro ah S
 refine A<|We<|Ws<|Wg ?_
 refine WL.w (R.loadBN (i:=0) (vs:=[(.slice none 0 0),(.slice none 0 0)]) S rfl rfl lay62 rfl rfl)<|M ?_
 refine W.store (i:=1) [(.slice none 0 0),(.slice none 0 0)] S rfl rfl rfl lay62 rfl (AllOne.all (l:=[(.slice none 0 0),(.slice none 0 0)]) (.cons rfl (.cons rfl .nil))) (Nat.le_of_ble_eq_true rfl) rfl ?_
 intro ai S
 refine A<|We ?_
 refine WP.ret (In.two rfl (Res.cellB (i:=1) (cs:=[(.slice none 0 0),(.slice none 0 0)]) S rfl rfl lay62 rfl rfl) rfl ?_)
 cases oi h
 exact hK r t p (Hp.le.refl _) ad _ S
theorem zIg {o:World} {r:Hp} (hw:Holds o r) (hG:Tryz.Gl o) {c:GConfig} {b:(GRequest×GURI×Unit)} {ah:Str} {j:Nat} {v:Nat} {x:Nat} {p:Value} {z:Nat} {aa:Nat} {k:Nat} {ab:Hp} {w:World} (S:St o r w ab [.box v 96 [(str b.2.1.fHost),(int b.2.1.fPort),(str b.2.1.fPath),(str b.2.1.fQuery),(boo b.2.1.fHasQuery)],.box x 94 [(str b.1.fMethod),(str b.1.fTarget),(int b.1.fMinor),p,(str b.1.fBody)],.box z 56 [(str []),(str [])],.box aa 54 [(str c.fName),(int c.fBytes),(int c.fVariants),(int c.fTables),(boo c.fStrict),(boo c.fRefuse),(ptr j 0),(int 0),(.pointer none)],.box j 136 [(int c.fBytes),(int c.fVariants),(int c.fTables),(int 0),(.slice none 0 0),(mapv k)],.mp k []]) (q:Sl (α:=GField) ab p b.1.fFields) {t:GTable} (h:zCj=some t) {K:Value→World→Prop}
  (hK:∀ (d:Value) (f:Value) (ac:Nat) (u:Nat) (Hz:Hp),ab.le Hz→Sl (α:=GAxis) Hz d t.fAxes→Sl (α:=GEntry) Hz f t.fEntries→Sl (α:=GField) Hz p b.1.fFields→∀ w',St o r w' Hz [.box ac 62 [(.slice none 0 0),(.slice none 0 0)],.box u 62 [d,f],.box v 96 [(str b.2.1.fHost),(int b.2.1.fPort),(str b.2.1.fPath),(str b.2.1.fQuery),(boo b.2.1.fHasQuery)],.box x 94 [(str b.1.fMethod),(str b.1.fTarget),(int b.1.fMinor),p,(str b.1.fBody)],.box z 56 [(str []),(str [])],.box aa 54 [(str c.fName),(int c.fBytes),(int c.fVariants),(int c.fTables),(boo c.fStrict),(boo c.fRefuse),(ptr j 0),(int 0),(.pointer none)],.box j 136 [(int c.fBytes),(int c.fVariants),(int c.fTables),(int 0),(.slice none 0 0),(mapv k)],.mp k []]→K (.tuple ⟨[(agg [d,f]),(boo false)]⟩) w') :
  CallK Tryz.prog 45 [(ptr j 0),(str ah)] w K:=by
 unfold zCj at h
 refine zBB (N':=17) Tryz.func45 rfl rfl kr rfl<|Ws<|Wg ?_
 refine W.alloc [(.slice none 0 0),(.slice none 0 0)] S zer62 ?_
 intro u an S
 refine A<|We<|Ws<|Wg<|M<|M<|B h fun _ ai h=>callK rfl (zIb hw (hG) S q ai ?_)
 intro ao ap aj ak q aq S
 replace S:St o r _ aj [.box u 62 [(.slice none 0 0),(.slice none 0 0)],.box v 96 [(str b.2.1.fHost),(int b.2.1.fPort),(str b.2.1.fPath),(str b.2.1.fQuery),(boo b.2.1.fHasQuery)],.box x 94 [(str b.1.fMethod),(str b.1.fTarget),(int b.1.fMinor),p,(str b.1.fBody)],.box z 56 [(str []),(str [])],.box aa 54 [(str c.fName),(int c.fBytes),(int c.fVariants),(int c.fTables),(boo c.fStrict),(boo c.fRefuse),(ptr j 0),(int 0),(.pointer none)],.box j 136 [(int c.fBytes),(int c.fVariants),(int c.fTables),(int 0),(.slice none 0 0),(mapv k)],.mp k []]:=(S.drop _ (.cons _ (.cons _ (.cons_cons _ (.cons_cons _ (.cons_cons _ (.cons_cons _ (.cons_cons _ (.cons_cons _ (.cons_cons _ .slnil))))))))))
 refine M ?_
 refine Ex ?_
 refine Ex ?_
 refine W.alloc [(.slice none 0 0),(.slice none 0 0)] S zer62 ?_
 intro ac ar S
 refine W.store (i:=0) [(.slice none 0 0),(.slice none 0 0)] S rfl rfl rfl lay62 rfl (AllOne.all (l:=[(.slice none 0 0),(.slice none 0 0)]) (.cons rfl (.cons rfl .nil))) (Nat.le_of_ble_eq_true rfl) rfl ?_
 intro au S
 refine A<|We<|Ws<|Wg ?_
 refine WL.w (R.loadBN (i:=0) (vs:=[(.slice none 0 0),(.slice none 0 0)]) S rfl rfl lay62 rfl rfl)<|B h fun t al h=>W.call S rfl (zHX S.holds (hG.post S.post) (⟨([]:List GAxis),([]:List GEntry)⟩:GTable) Sl.nil Sl.nil al) ?_
 rintro av aw am ad S ⟨d,f,rfl,ae,af⟩
 have q:=Sl.mono q ad
 refine M ?_
 refine W.store (i:=1) [d,f] S rfl rfl rfl lay62 rfl (AllOne.all (l:=[d,f]) (.cons (Sl.oneC ae) (.cons (Sl.oneC af) .nil))) (Nat.le_of_ble_eq_true rfl) rfl ?_
 intro ax S
 refine A<|We ?_
 refine WP.ret (In.two rfl (Res.cellB (i:=1) (cs:=[d,f]) S rfl rfl lay62 rfl rfl) rfl ?_)
 obtain rfl:=oi h
 exact hK d f ac u am (ak.trans ad) ae af q _ S
theorem zIq {z:World} {H0:Hp} (hw:Holds z H0) (hG:Tryz.Gl z) {d:GConfig} {b:(GRequest×GURI×Unit)} {aw:Str} {aa:GTable} {ab:GDecision} {am:Nat} {o:Value} {ax:Nat} {ay:Nat} {az:Nat} {ac:Value} {ad:Value} {a0:Nat} {a1:Nat} {a2:Nat} {ae:Nat} {af:Nat} {q:Hp} {w:World} (S:St z H0 w q [.box ax 111 [(str b.1.fMethod),(str b.1.fTarget),(int b.1.fMinor),o,(str b.1.fBody),(str b.2.1.fHost),(int b.2.1.fPort),(str b.2.1.fPath),(str b.2.1.fQuery),(boo b.2.1.fHasQuery),(str aw),(int 0),(boo false),(int 0),(.slice none 0 0),(.slice none 0 0),(.slice none 0 0),(str []),(.slice none 0 0),(str []),(int 0),(int 0)],.box ay 108 [(int ab.fKind),(int ab.fIndex)],.box az 62 [ac,ad],.box a0 96 [(str b.2.1.fHost),(int b.2.1.fPort),(str b.2.1.fPath),(str b.2.1.fQuery),(boo b.2.1.fHasQuery)],.box a1 94 [(str b.1.fMethod),(str b.1.fTarget),(int b.1.fMinor),o,(str b.1.fBody)],.box a2 56 [(str []),(str [])],.box am 54 [(str d.fName),(int d.fBytes),(int d.fVariants),(int d.fTables),(boo d.fStrict),(boo d.fRefuse),(ptr ae 0),(int 0),(.pointer none)],.box ae 136 [(int d.fBytes),(int d.fVariants),(int d.fTables),(int 0),(.slice none 0 0),(mapv af)],.mp af []]) (f:Sl (α:=GField) q o b.1.fFields) (j:Sl (α:=GAxis) q ac aa.fAxes) (k:Sl (α:=GEntry) q ad aa.fEntries) {an:Str} {c:GRequest} {ah:(List GField)} (h:zCn d b=some (an,c,ah)) {K:Value→World→Prop}
  (hK:∀ (ao:Nat) (ap:Nat) (p:Value) (Hz:Hp),q.le Hz→Sl (α:=GField) Hz p ah→Sl (α:=GField) Hz o b.1.fFields→Sl (α:=GAxis) Hz ac aa.fAxes→Sl (α:=GEntry) Hz ad aa.fEntries→∀ w',St z H0 w' Hz [.box ao 96 [(str b.2.1.fHost),(int b.2.1.fPort),(str b.2.1.fPath),(str b.2.1.fQuery),(boo b.2.1.fHasQuery)],.box ap 94 [(str c.fMethod),(str b.2.1.fPath),(int c.fMinor),p,(str c.fBody)],.box ax 111 [(str b.1.fMethod),(str b.1.fTarget),(int b.1.fMinor),o,(str b.1.fBody),(str b.2.1.fHost),(int b.2.1.fPort),(str b.2.1.fPath),(str b.2.1.fQuery),(boo b.2.1.fHasQuery),(str aw),(int 0),(boo false),(int 0),(.slice none 0 0),(.slice none 0 0),(.slice none 0 0),(str []),(.slice none 0 0),(str []),(int 0),(int 0)],.box ay 108 [(int ab.fKind),(int ab.fIndex)],.box az 62 [ac,ad],.box a0 96 [(str b.2.1.fHost),(int b.2.1.fPort),(str b.2.1.fPath),(str b.2.1.fQuery),(boo b.2.1.fHasQuery)],.box a1 94 [(str b.1.fMethod),(str b.1.fTarget),(int b.1.fMinor),o,(str b.1.fBody)],.box a2 56 [(str []),(str [])],.box am 54 [(str d.fName),(int d.fBytes),(int d.fVariants),(int d.fTables),(boo d.fStrict),(boo d.fRefuse),(ptr ae 0),(int 0),(.pointer none)],.box ae 136 [(int d.fBytes),(int d.fVariants),(int d.fTables),(int 0),(.slice none 0 0),(mapv af)],.mp af []]→K (str an) w') :
  CallK Tryz.prog 56 [(ptr am 0),(agg [(str b.1.fMethod),(str b.1.fTarget),(int b.1.fMinor),o,(str b.1.fBody)]),(agg [(str b.2.1.fHost),(int b.2.1.fPort),(str b.2.1.fPath),(str b.2.1.fQuery),(boo b.2.1.fHasQuery)])] w K:=by
 unfold zCn at h
 refine zBB (N':=55) Tryz.func56 rfl rfl kr rfl<|Ws<|Wg ?_
 refine W.box [(str b.1.fMethod),(str b.1.fTarget),(int b.1.fMinor),o,(str b.1.fBody)] S rfl rfl ?_
 intro ap a8 S
 refine W.box [(str b.2.1.fHost),(int b.2.1.fPort),(str b.2.1.fPath),(str b.2.1.fQuery),(boo b.2.1.fHasQuery)] S rfl rfl ?_
 intro ao a9 S
 refine A<|We<|Ws<|WP.quietTail 6 S kr kr ?_
 refine WQ.val (fun w hw=>by obtain ⟨_,hq,S⟩:=hw; exact (R.loadBN (i:=1) (vs:=[(str b.1.fMethod),(str b.1.fTarget),(int b.1.fMinor),o,(str b.1.fBody)]) S rfl rfl lay94 rfl rfl))<|QM<|QNn<|QFb<|QFb ?_
 refine WQ.val (fun w hw=>by obtain ⟨_,hq,S⟩:=hw; exact (R.loadB (i:=8) (v:=str d.fName) S rfl rfl lay9 rfl))<|WQ.nil ?_
 intro ba bb ai S
 have f:=Sl.mono f ai
 have j:=Sl.mono j ai
 have k:=Sl.mono k ai
 refine B h fun c a3 h=>W.call S rfl (zHR S.holds (hG.post S.post) b.1 d.fName f a3) ?_
 rintro bc bd be aj S ⟨aq,rfl,r⟩
 have f:=Sl.mono f aj
 have j:=Sl.mono j aj
 have k:=Sl.mono k aj
 refine W.store (i:=1) [(str c.fMethod),(str c.fTarget),(int c.fMinor),aq,(str c.fBody)] S rfl rfl rfl lay94 rfl (AllOne.all (l:=[(str c.fMethod),(str c.fTarget),(int c.fMinor),aq,(str c.fBody)]) (.cons rfl (.cons rfl (.cons rfl (.cons (Sl.oneC r) (.cons rfl .nil)))))) (Nat.le_of_ble_eq_true rfl) rfl ?_
 intro bf S
 refine We<|Ws<|Wg<|Fb ?_
 refine Lo 0 S<|Fb ?_
 refine W.store (i:=1) [(str c.fMethod),(str b.2.1.fPath),(int c.fMinor),aq,(str c.fBody)] S rfl rfl rfl lay9 rfl rfl (Nat.le_of_ble_eq_true rfl) rfl ?_
 intro bg S
 refine We<|Ws<|Ws<|Wg<|Fb ?_
 refine Lo 0 S<|We ?_
 rcases condE h with ⟨ar,h⟩ | ⟨ar,h⟩
 ·refine CT ar ?_
  cases h
 refine CF ar<|Wk<|Ws<|Wg<|Fb ?_
 refine Lo 0 S<|A<|We<|Ws<|Ws<|Wg<|Fb ?_
 refine Lo 0 S<|Lf<|We ?_
 rcases condE h with ⟨au,h⟩ | ⟨au,h⟩
 ·refine CT au ?_
  cases h
 refine CF au<|Wk<|Ws<|Ws<|Wg<|Fb ?_
 refine Lo 1 S<|B h fun bh a4 h=>W.call S rfl (zNS S.holds (hG.post S.post) c.fFields [72,111,115,116] r a4) ?_
 rintro bi bj bk t S rfl
 have f:=Sl.mono f t
 have r:=Sl.mono r t
 have j:=Sl.mono j t
 have k:=Sl.mono k t
 refine We ?_
 rcases condE h with ⟨av,h⟩ | ⟨av,h⟩
 ·refine CT av<|Wg<|Fb ?_
  refine Lo 1 S<|M<|B h fun ah a5 h=>W.call S rfl (zJX S.holds (hG.post S.post) c.fFields [72,111,115,116] b.2.1.fHost r a5) ?_
  rintro p bn bo ak S u
  have f:=Sl.mono f ak
  have j:=Sl.mono j ak
  have k:=Sl.mono k ak
  refine Fb ?_
  refine W.storeSl (α:=GField) (i:=1) [(str c.fMethod),(str b.2.1.fPath),(int c.fMinor),p,(str c.fBody)] S u rfl rfl rfl lay22 (Nat.le_of_ble_eq_true rfl) rfl ?_
  intro bp S
  refine We<|Ws<|Wg ?_
  refine WL.w (R.loadBN (i:=1) (vs:=[(str c.fMethod),(str b.2.1.fPath),(int c.fMinor),p,(str c.fBody)]) S rfl rfl lay94 rfl rfl)<|B h fun an a6 h=>W.call S rfl (zGh S.holds (hG.post S.post) (⟨c.fMethod,b.2.1.fPath,c.fMinor,ah,c.fBody⟩:GRequest) u a6) ?_
  rintro bq br a7 x S rfl
  have f:=Sl.mono f x
  have u:=Sl.mono u x
  have j:=Sl.mono j x
  have k:=Sl.mono k x
  refine A<|We ?_
  refine WP.ret (In.one rfl rfl ?_)
  cases oi h
  exact hK ao ap p a7 ((((ai.trans aj).trans t).trans ak).trans x) u f j k _ S
 refine CF av ?_
 cases h
end Go.Proofs

/- A part of the proof of laws of the seat: written by program over the translation. -/
import Derived.Test.YtipgfplekgdoiaaGreatDoorEng38
import Derived.Test.YtipgfplekgdoiaaGreatDoorEng32
import Derived.Test.YtipgfplekgdoiaaGreatDoorGenK16
namespace Go.Proofs
set_option maxHeartbeats 4000000
set_option maxRecDepth 10000
open Go.Eng Go.Eng.Pure
set_option linter.unusedVariables false
theorem zHe {w0:World} {H0:Hp} (hw:Holds w0 H0) (bp:GTable) (b:GEntry) (a2:(List GAxis)) (bz:Int) {bq:Value} {br:Value} {au:Value} {av:Value} {aw:Value} {ax:Value} {a3:Value} (bw:Sl (α:=GAxis) H0 bq bp.fAxes) (cu:Sl (α:=GEntry) H0 br bp.fEntries) (p:Sl (α:=(List Str)) H0 au b.fKeys) (q:Sl (α:=Str) H0 av b.fVary) (t:Sl (α:=Str) H0 aw b.fSnapshot) (u:Sl (α:=GField) H0 ax b.fFields) (ai:Sl (α:=GAxis) H0 a3 a2) {r:GTable} (h:zEy bp b a2 bz=some r) :
  Con Tryz.prog 17 [(agg [bq,br]),(agg [au,av,aw,(str b.fReason),ax,(str b.fBody),(int b.fRequested),(int b.fReceived)]),a3,(int bz)] w0 H0 (fun H' v=>∃ u1 u2:Value,v=(agg [u1,u2])∧Sl (α:=GAxis) H' u1 r.fAxes∧Sl (α:=GEntry) H' u2 r.fEntries):=by
 refine Con.mk (N:=44) Tryz.func17 rfl rfl kr rfl ?_
 have S:=St.start hw
 refine Ws<|Wg ?_
 refine W.box [bq,br] S rfl rfl ?_
 intro b1 w2 S
 refine W.box [au,av,aw,(str b.fReason),ax,(str b.fBody),(int b.fRequested),(int b.fReceived)] S rfl rfl ?_
 intro b3 w4 S
 refine W.box [a3] S rfl (congrArg Array.toList (Sl.cellsOne ai)) ?_
 intro b5 w6 S
 refine W.alloc [(.slice none 0 0),(.slice none 0 0)] S zer25 ?_
 intro b7 w8 S
 refine We<|Ws<|Wg ?_
 refine WL.w (R.loadBN (i:=3) (vs:=[bq,br]) S rfl rfl lay25 rfl rfl)<|B h fun r9 cw h=>W.callS rfl (zJ4 bp S bw cu cw) ?_
 rintro dk dl cx dm be S ⟨b0,b2,cn,rfl,rfl,bf,bg⟩
 replace S:St w0 H0 _ cx [cn,.box b7 25 [(.slice none 0 0),(.slice none 0 0)],.box b5 22 [a3],.box b3 36 [au,av,aw,(str b.fReason),ax,(str b.fBody),(int b.fRequested),(int b.fReceived)],.box b1 25 [bq,br]]:=S
 have bw:=Sl.mono bw be
 have p:=Sl.mono p be
 have q:=Sl.mono q be
 have t:=Sl.mono t be
 have u:=Sl.mono u be
 have ai:=Sl.mono ai be
 refine W.alloc [(.slice none 0 0),(.slice none 0 0)] S zer25 ?_
 intro ay dn S
 refine W.store (i:=0) [b0,b2] S rfl rfl rfl lay25 rfl (AllOne.all (l:=[b0,b2]) (.cons (Sl.oneC bf) (.cons (MR.oneC bg) .nil))) (Nat.le_of_ble_eq_true rfl) rfl ?_
 intro dp S
 refine We<|Ws<|Ws<|Wg<|Fb ?_
 refine Lo 5 S ?_
 refine Lo 3 S<|B h fun dq cy h=>W.call S rfl (zJF S.holds bp.fAxes a2 bw ai cy) ?_
 rintro dr ds cz a4 S rfl
 have p:=Sl.mono p a4
 have q:=Sl.mono q a4
 have t:=Sl.mono t a4
 have u:=Sl.mono u a4
 have ai:=Sl.mono ai a4
 have bf:=Sl.mono bf a4
 have bg:=MR.mono bg a4
 refine No<|We ?_
 obtain ⟨⟨c0,co⟩,a5,h⟩:=bindE h
 refine WP.cut (fun f w=>∃ (az:Hp) (c:Value) (a6:Value) (bh:Ent),f 3=(int bz)∧f 5=(ptr b3 0)∧f 6=(ptr b5 0)∧f 8=(ptr b7 0)∧f 9=(ptr ay 0)∧Sl (α:=GAxis) az c c0∧MR (α:=GEntry) az bh 36 a6 co∧Sl (α:=GAxis) az a3 a2∧Sl (α:=(List Str)) az au b.fKeys∧Sl (α:=Str) az av b.fVary∧Sl (α:=Str) az aw b.fSnapshot∧Sl (α:=GField) az ax b.fFields∧St w0 H0 w az [.box ay 25 [c,a6],bh,.box b7 25 [(.slice none 0 0),(.slice none 0 0)],.box b5 22 [a3],.box b3 36 [au,av,aw,(str b.fReason),ax,(str b.fBody),(int b.fRequested),(int b.fReceived)]]) ?_ ?_
 ·rcases condE a5 with ⟨b4,a5⟩ | ⟨b4,a5⟩
  ·refine CT b4<|Wg ?_
   refine Lo 3 S<|B a5 fun dt c1 a5=>W.call S rfl (zIm S.holds a2 ai c1) ?_
   rintro bt du c2 a7 S b6
   have p:=Sl.mono p a7
   have q:=Sl.mono q a7
   have t:=Sl.mono t a7
   have u:=Sl.mono u a7
   have ai:=Sl.mono ai a7
   have bf:=Sl.mono bf a7
   have bg:=MR.mono bg a7
   refine WL.w (R.build [(0,bt)] [bt,(.slice none 0 0)] bp25 zer25 rfl (by obtain ⟨_,_,rfl,_⟩:=b6; rfl)) ?_
   refine W.store (i:=0) [bt,(.slice none 0 0)] S rfl rfl rfl lay25 rfl (AllOne.all (l:=[bt,(.slice none 0 0)]) (.cons (Sl.oneC b6) (.cons rfl .nil))) (Nat.le_of_ble_eq_true rfl) rfl ?_
   intro dw S
   refine We ?_
   cases oi a5
   exact ⟨c2,bt,.slice none 0 0,(.row (.slice none 0 0) 36 8 0),rfl,rfl,rfl,rfl,rfl,b6,MR.nil,ai,p,q,t,u,((((S.addNil 36 8).front 2 rfl).front 2 rfl).drop _ (.cons_cons _ (.cons _ (.cons_cons _ (.cons_cons _ (.cons_cons _ (.cons_cons _ (.cons _ .slnil))))))))⟩
  refine CF b4<|Wk ?_
  cases oi a5
  exact ⟨cz,b0,b2,(cn),rfl,rfl,rfl,rfl,rfl,bf,bg,ai,p,q,t,u,(S.drop _ (.cons_cons _ (.cons_cons _ (.cons_cons _ (.cons_cons _ (.cons_cons _ (.cons _ .slnil)))))))⟩
 rintro f w ⟨az,c,a6,bh,bx,b8,c3,a0,aa,d,bu,ai,p,q,t,u,S⟩
 refine Ws<|Wg<|Fb' aa ?_
 refine Lo 0 S ?_
 obtain ⟨cp,a8,c4,_,S⟩:=S.settle (i:=3) rfl
 replace S:St w0 H0 _ cp [.box ay 25 [c,a6],bh,.box b7 25 [(.slice none 0 0),(.slice none 0 0)],.box b3 36 [au,av,aw,(str b.fReason),ax,(str b.fBody),(int b.fRequested),(int b.fReceived)]]:=S
 have b9:At cp ⟨b5,0,none⟩ [a3]:=⟨_,_,rfl,c4,[],by simp⟩
 have bu:=MR.mono bu a8
 have d:=Sl.mono d a8
 have ai:=Sl.mono ai a8
 have p:=Sl.mono p a8
 have q:=Sl.mono q a8
 have t:=Sl.mono t a8
 have u:=Sl.mono u a8
 obtain ⟨ca,a1,c5,_,S⟩:=S.settle (i:=3) rfl
 replace S:St w0 H0 _ ca [.box ay 25 [c,a6],bh,.box b7 25 [(.slice none 0 0),(.slice none 0 0)]]:=S
 have ao:At ca ⟨b3,0,none⟩ [au,av,aw,(str b.fReason),ax,(str b.fBody),(int b.fRequested),(int b.fReceived)]:=⟨_,_,rfl,c5,[],by simp⟩
 have b9:=At.mono b9 a1 (by simp)
 have ai:=Sl.mono ai a1
 have bu:=MR.mono bu a1
 have d:=Sl.mono d a1
 have p:=Sl.mono p a1
 have q:=Sl.mono q a1
 have t:=Sl.mono t a1
 have u:=Sl.mono u a1
 refine WL.w (R.mkFunc (vs:=[(.pointer (some ⟨b5,0,none⟩)),(.pointer (some ⟨b3,0,none⟩))]) (mapC c3 (mapC b8 mapN)))<|B h fun dx c6 h=>?_
 have S:=S.front 1 rfl
 replace S:St w0 H0 _ ca (bh :: [.box ay 25 [c,a6],.box b7 25 [(.slice none 0 0),(.slice none 0 0)]]):=S
 refine W.callS rfl (zCi co (fun x0=>zFg x0 a2 b) S bu (fun hle hw x0=>fun c7 c8 c9 da r h=>zKU hw x0 a2 b c7 c8 c9 da (At.mono b9 hle (by simp)) (Sl.mono ai hle) (At.mono ao hle (by simp)) (Sl.mono p hle) (Sl.mono q hle) (Sl.mono t hle) (Sl.mono u hle) h) c6) ?_
 rintro db dy dc dz bi S ⟨dd,rfl,x⟩
 replace S:St w0 H0 _ dc [dd,.box ay 25 [c,a6],.box b7 25 [(.slice none 0 0),(.slice none 0 0)]]:=S
 have ao:=At.mono ao bi (by simp)
 have p:=Sl.mono p bi
 have q:=Sl.mono q bi
 have t:=Sl.mono t bi
 have u:=Sl.mono u bi
 have d:=Sl.mono d bi
 refine Fb' aa ?_
 refine W.storeMR (α:=GEntry) (i:=1) [c,db] S x rfl rfl rfl lay23 (Nat.le_of_ble_eq_true rfl) rfl ?_
 intro d0 S
 refine We<|Ws<|WP.draw kr 8 rfl (bm 8 0) rfl ?_
 have S:=S.drew
 refine WA.take (i:=0) (bm 8 1) rfl kr kr kr rfl (fun _=>(R.fieldB aa zFh)) ?_
 refine WA.two (i:=1) (j:=2) (bm 8 3) (bm 8 5) rfl rfl kr rfl rfl ?_ ?_
 ·refine Lo 1 S<|We<|WA.one (i:=2) (bm 8 7) rfl kr rfl ?_
  refine WL.w (R.loadHN (vs:=[au,av,aw,(str b.fReason),ax,(str b.fBody),(int b.fRequested),(int b.fReceived)]) S b8 ao lay36 rfl rfl)<|We<|WA.one (i:=3) (bm 8 15) rfl kr rfl<|B h fun z bv h=>W.call S rfl (zCf S.holds b p q t u bv) ?_
  rintro cq cr ct aj S ⟨bj,bk,bn,bo,rfl,ad,ae,af,ah⟩
  have ao:=At.mono ao aj (by simp)
  have p:=Sl.mono p aj
  have q:=Sl.mono q aj
  have t:=Sl.mono t aj
  have u:=Sl.mono u aj
  have x:=MR.mono x aj
  have d:=Sl.mono d aj
  refine We<|WA.one (i:=4) (bm 8 31) rfl kr rfl<|W.bslice (α:=GEntry) [(agg [bj,bk,bn,(str z.fReason),bo,(str z.fBody),(int z.fRequested),(int z.fReceived)])] ([z]:List GEntry) S el23 rfl rfl rfl (by decide) (Go.Eng.encS ⟨rfl,_,_,_,_,rfl,ad,ae,af,ah⟩ enc0) ?_
  intro a9 cc cd o al S
  have ao:=At.mono ao o (by simp)
  have p:=Sl.mono p o
  have q:=Sl.mono q o
  have t:=Sl.mono t o
  have u:=Sl.mono u o
  have x:=MR.mono x o
  have ad:=Sl.mono ad o
  have ae:=Sl.mono ae o
  have af:=Sl.mono af o
  have ah:=Sl.mono ah o
  have d:=Sl.mono d o
  refine We<|WA.one (i:=5) (bm 8 63) rfl kr rfl<|B h fun ce ba h=>W.appM (α:=GEntry) (i:=1) S el23 rfl rfl rfl x al ba ?_
  intro ap cf cg aq S
  refine We ?_
  refine WA.take (i:=6) (bm 8 127) rfl kr kr kr rfl (fun _=>(R.fieldB aa zFh))<|WA.one (i:=7) (bm 8 255) rfl kr rfl ?_
  refine W.storeMR (α:=GEntry) (i:=2) [c,ap] S aq rfl rfl rfl lay23 (Nat.le_of_ble_eq_true rfl) rfl ?_
  intro ch S
  refine We<|WA.done kr<|Ws<|Wg<|Fb' aa ?_
  refine Lo 2 S<|Fb' aa ?_
  refine Lo 2 S ?_
  obtain ⟨bb,k,ar,S⟩:=S.settleM (i:=1) rfl aq
  replace S:St w0 H0 _ bb [.row a9 36 8 ([z]:List GEntry).length,.box ay 25 [c,ap],.box b7 25 [(.slice none 0 0),(.slice none 0 0)]]:=S
  have ao:=At.mono ao k (by simp)
  have p:=Sl.mono p k
  have q:=Sl.mono q k
  have t:=Sl.mono t k
  have u:=Sl.mono u k
  have x:=MR.mono x k
  have ad:=Sl.mono ad k
  have ae:=Sl.mono ae k
  have af:=Sl.mono af k
  have ah:=Sl.mono ah k
  have al:=Sl.mono al k
  have d:=Sl.mono d k
  refine Nq ar<|M' bx<|Nj<|Lh<|Nj<|B h fun ci bc h=>W.subLo (α:=GEntry) ar rfl rfl el23 bc ?_
  intro ab ak
  refine Fb' aa ?_
  refine W.storeSl (α:=GEntry) (i:=1) [c,ab] S ak rfl rfl rfl lay23 (Nat.le_of_ble_eq_true rfl) rfl ?_
  intro cj S
  refine We<|Ws<|Wg ?_
  refine WL.w (R.loadBN (i:=1) (vs:=[c,ab]) S aa rfl lay25 rfl rfl) ?_
  refine W.store (i:=2) [c,ab] S a0 rfl rfl lay25 rfl (AllOne.all (l:=[c,ab]) (.cons (Sl.oneC d) (.cons (Sl.oneC ak) .nil))) (Nat.le_of_ble_eq_true rfl) rfl ?_
  intro ck S
  refine We ?_
  obtain rfl:=oi h
  refine WP.ret (Out.one rfl S (Res.cellB (i:=2) (cs:=[c,ab]) S a0 rfl lay25 rfl rfl) ?_)
  exact ⟨_,_,rfl,d,ak⟩
 refine WL.w (R.loadHN (vs:=[au,av,aw,(str b.fReason),ax,(str b.fBody),(int b.fRequested),(int b.fReceived)]) S b8 ao lay36 rfl rfl)<|We ?_
 refine WA.two (i:=1) (j:=3) (bm 8 7) (bm 8 13) rfl rfl kr rfl rfl ?_ ?_
 ·refine Lo 1 S<|We<|WA.one (i:=3) (bm 8 15) rfl kr rfl<|B h fun z bv h=>W.call S rfl (zCf S.holds b p q t u bv) ?_
  rintro cq cr ct aj S ⟨bj,bk,bn,bo,rfl,ad,ae,af,ah⟩
  have p:=Sl.mono p aj
  have q:=Sl.mono q aj
  have t:=Sl.mono t aj
  have u:=Sl.mono u aj
  have x:=MR.mono x aj
  have d:=Sl.mono d aj
  refine We<|WA.one (i:=4) (bm 8 31) rfl kr rfl<|W.bslice (α:=GEntry) [(agg [bj,bk,bn,(str z.fReason),bo,(str z.fBody),(int z.fRequested),(int z.fReceived)])] ([z]:List GEntry) S el23 rfl rfl rfl (by decide) (Go.Eng.encS ⟨rfl,_,_,_,_,rfl,ad,ae,af,ah⟩ enc0) ?_
  intro a9 cc cd o al S
  have p:=Sl.mono p o
  have q:=Sl.mono q o
  have t:=Sl.mono t o
  have u:=Sl.mono u o
  have x:=MR.mono x o
  have ad:=Sl.mono ad o
  have ae:=Sl.mono ae o
  have af:=Sl.mono af o
  have ah:=Sl.mono ah o
  have d:=Sl.mono d o
  refine We<|WA.one (i:=5) (bm 8 63) rfl kr rfl<|B h fun ce ba h=>W.appM (α:=GEntry) (i:=1) S el23 rfl rfl rfl x al ba ?_
  intro ap cf cg aq S
  refine We ?_
  refine WA.take (i:=6) (bm 8 127) rfl kr kr kr rfl (fun _=>(R.fieldB aa zFh))<|WA.one (i:=7) (bm 8 255) rfl kr rfl ?_
  refine W.storeMR (α:=GEntry) (i:=2) [c,ap] S aq rfl rfl rfl lay23 (Nat.le_of_ble_eq_true rfl) rfl ?_
  intro ch S
  refine We<|WA.done kr<|Ws<|Wg<|Fb' aa ?_
  refine Lo 2 S<|Fb' aa ?_
  refine Lo 2 S ?_
  obtain ⟨bb,k,ar,S⟩:=S.settleM (i:=1) rfl aq
  replace S:St w0 H0 _ bb [.row a9 36 8 ([z]:List GEntry).length,.box ay 25 [c,ap],.box b7 25 [(.slice none 0 0),(.slice none 0 0)]]:=S
  have p:=Sl.mono p k
  have q:=Sl.mono q k
  have t:=Sl.mono t k
  have u:=Sl.mono u k
  have x:=MR.mono x k
  have ad:=Sl.mono ad k
  have ae:=Sl.mono ae k
  have af:=Sl.mono af k
  have ah:=Sl.mono ah k
  have al:=Sl.mono al k
  have d:=Sl.mono d k
  refine Nq ar<|M' bx<|Nj<|Lh<|Nj<|B h fun ci bc h=>W.subLo (α:=GEntry) ar rfl rfl el23 bc ?_
  intro ab ak
  refine Fb' aa ?_
  refine W.storeSl (α:=GEntry) (i:=1) [c,ab] S ak rfl rfl rfl lay23 (Nat.le_of_ble_eq_true rfl) rfl ?_
  intro cj S
  refine We<|Ws<|Wg ?_
  refine WL.w (R.loadBN (i:=1) (vs:=[c,ab]) S aa rfl lay25 rfl rfl) ?_
  refine W.store (i:=2) [c,ab] S a0 rfl rfl lay25 rfl (AllOne.all (l:=[c,ab]) (.cons (Sl.oneC d) (.cons (Sl.oneC ak) .nil))) (Nat.le_of_ble_eq_true rfl) rfl ?_
  intro ck S
  refine We ?_
  obtain rfl:=oi h
  refine WP.ret (Out.one rfl S (Res.cellB (i:=2) (cs:=[c,ab]) S a0 rfl lay25 rfl rfl) ?_)
  exact ⟨_,_,rfl,d,ak⟩
 refine B h fun z bv h=>W.call S rfl (zCf S.holds b p q t u bv) ?_
 rintro cq cr ct aj S ⟨bj,bk,bn,bo,rfl,ad,ae,af,ah⟩
 have x:=MR.mono x aj
 have d:=Sl.mono d aj
 refine We ?_
 refine WA.two (i:=1) (j:=4) (bm 8 15) (bm 8 29) rfl rfl kr rfl rfl ?_ ?_
 ·refine Lo 1 S<|We<|WA.one (i:=4) (bm 8 31) rfl kr rfl<|W.bslice (α:=GEntry) [(agg [bj,bk,bn,(str z.fReason),bo,(str z.fBody),(int z.fRequested),(int z.fReceived)])] ([z]:List GEntry) S el23 rfl rfl rfl (by decide) (Go.Eng.encS ⟨rfl,_,_,_,_,rfl,ad,ae,af,ah⟩ enc0) ?_
  intro a9 cc cd o al S
  have x:=MR.mono x o
  have ad:=Sl.mono ad o
  have ae:=Sl.mono ae o
  have af:=Sl.mono af o
  have ah:=Sl.mono ah o
  have d:=Sl.mono d o
  refine We<|WA.one (i:=5) (bm 8 63) rfl kr rfl<|B h fun ce ba h=>W.appM (α:=GEntry) (i:=1) S el23 rfl rfl rfl x al ba ?_
  intro ap cf cg aq S
  refine We ?_
  refine WA.take (i:=6) (bm 8 127) rfl kr kr kr rfl (fun _=>(R.fieldB aa zFh))<|WA.one (i:=7) (bm 8 255) rfl kr rfl ?_
  refine W.storeMR (α:=GEntry) (i:=2) [c,ap] S aq rfl rfl rfl lay23 (Nat.le_of_ble_eq_true rfl) rfl ?_
  intro ch S
  refine We<|WA.done kr<|Ws<|Wg<|Fb' aa ?_
  refine Lo 2 S<|Fb' aa ?_
  refine Lo 2 S ?_
  obtain ⟨bb,k,ar,S⟩:=S.settleM (i:=1) rfl aq
  replace S:St w0 H0 _ bb [.row a9 36 8 ([z]:List GEntry).length,.box ay 25 [c,ap],.box b7 25 [(.slice none 0 0),(.slice none 0 0)]]:=S
  have x:=MR.mono x k
  have ad:=Sl.mono ad k
  have ae:=Sl.mono ae k
  have af:=Sl.mono af k
  have ah:=Sl.mono ah k
  have al:=Sl.mono al k
  have d:=Sl.mono d k
  refine Nq ar<|M' bx<|Nj<|Lh<|Nj<|B h fun ci bc h=>W.subLo (α:=GEntry) ar rfl rfl el23 bc ?_
  intro ab ak
  refine Fb' aa ?_
  refine W.storeSl (α:=GEntry) (i:=1) [c,ab] S ak rfl rfl rfl lay23 (Nat.le_of_ble_eq_true rfl) rfl ?_
  intro cj S
  refine We<|Ws<|Wg ?_
  refine WL.w (R.loadBN (i:=1) (vs:=[c,ab]) S aa rfl lay25 rfl rfl) ?_
  refine W.store (i:=2) [c,ab] S a0 rfl rfl lay25 rfl (AllOne.all (l:=[c,ab]) (.cons (Sl.oneC d) (.cons (Sl.oneC ak) .nil))) (Nat.le_of_ble_eq_true rfl) rfl ?_
  intro ck S
  refine We ?_
  obtain rfl:=oi h
  refine WP.ret (Out.one rfl S (Res.cellB (i:=2) (cs:=[c,ab]) S a0 rfl lay25 rfl rfl) ?_)
  exact ⟨_,_,rfl,d,ak⟩
 refine W.bslice (α:=GEntry) [(agg [bj,bk,bn,(str z.fReason),bo,(str z.fBody),(int z.fRequested),(int z.fReceived)])] ([z]:List GEntry) S el23 rfl rfl rfl (by decide) (Go.Eng.encS ⟨rfl,_,_,_,_,rfl,ad,ae,af,ah⟩ enc0) ?_
 intro a9 cc cd o al S
 have x:=MR.mono x o
 have d:=Sl.mono d o
 refine We<|WA.one (i:=1) (bm 8 31) rfl kr rfl ?_
 refine Lo 2 S<|We<|WA.one (i:=5) (bm 8 63) rfl kr rfl<|B h fun ce ba h=>W.appM (α:=GEntry) (i:=1) S el23 rfl rfl rfl x al ba ?_
 intro ap cf cg aq S
 refine We ?_
 refine WA.take (i:=6) (bm 8 127) rfl kr kr kr rfl (fun _=>(R.fieldB aa zFh))<|WA.one (i:=7) (bm 8 255) rfl kr rfl ?_
 refine W.storeMR (α:=GEntry) (i:=2) [c,ap] S aq rfl rfl rfl lay23 (Nat.le_of_ble_eq_true rfl) rfl ?_
 intro ch S
 refine We<|WA.done kr<|Ws<|Wg<|Fb' aa ?_
 refine Lo 2 S<|Fb' aa ?_
 refine Lo 2 S ?_
 obtain ⟨bb,k,ar,S⟩:=S.settleM (i:=1) rfl aq
 replace S:St w0 H0 _ bb [.row a9 36 8 ([z]:List GEntry).length,.box ay 25 [c,ap],.box b7 25 [(.slice none 0 0),(.slice none 0 0)]]:=S
 have x:=MR.mono x k
 have d:=Sl.mono d k
 refine Nq ar<|M' bx<|Nj<|Lh<|Nj<|B h fun ci bc h=>W.subLo (α:=GEntry) ar rfl rfl el23 bc ?_
 intro ab ak
 refine Fb' aa ?_
 refine W.storeSl (α:=GEntry) (i:=1) [c,ab] S ak rfl rfl rfl lay23 (Nat.le_of_ble_eq_true rfl) rfl ?_
 intro cj S
 refine We<|Ws<|Wg ?_
 refine WL.w (R.loadBN (i:=1) (vs:=[c,ab]) S aa rfl lay25 rfl rfl) ?_
 refine W.store (i:=2) [c,ab] S a0 rfl rfl lay25 rfl (AllOne.all (l:=[c,ab]) (.cons (Sl.oneC d) (.cons (Sl.oneC ak) .nil))) (Nat.le_of_ble_eq_true rfl) rfl ?_
 intro ck S
 refine We ?_
 obtain rfl:=oi h
 refine WP.ret (Out.one rfl S (Res.cellB (i:=2) (cs:=[c,ab]) S a0 rfl lay25 rfl rfl) ?_)
 exact ⟨_,_,rfl,d,ak⟩
theorem zJr {w0:World} {j:Hp} (hw:Holds w0 j) (b:GEntry) {t:Value} {l:Value} {u:Value} {x:Value} (p:Sl (α:=(List Str)) j t b.fKeys) (k:Sl (α:=Str) j l b.fVary) (q:Sl (α:=Str) j u b.fSnapshot) (z:Sl (α:=GField) j x b.fFields) {r:Bool} (h:zF2 b=some r) :
  Con Tryz.prog 61 [(agg [t,l,u,(str b.fReason),x,(str b.fBody),(int b.fRequested),(int b.fReceived)])] w0 j (fun H' v=>v=(boo r)):=by
 refine Con.mk (N:=36) Tryz.func61 rfl rfl kr rfl ?_
 have S:=St.start hw
 refine Ws<|Wg ?_
 refine W.box [t,l,u,(str b.fReason),x,(str b.fBody),(int b.fRequested),(int b.fReceived)] S rfl rfl ?_
 intro b1 w2 S
 refine A<|We<|Ws<|Ws<|Wg<|Fb ?_
 refine Lo 0 S<|Nq p<|Lc<|M ?_
 refine WL.grp 8 [9,10,11,12,13,14,15] 16 (boo ((decide (0<(b.fKeys.length:Int)))||((b.fVary.length:Int) !=(b.fSnapshot.length:Int)))) ?_ ?_
 ·rcases boolE (decide (0<(b.fKeys.length:Int))) with c | c
  ·refine Gn c<|Gn c<|Gn c<|Gn c<|Gn c<|Gn c<|Gn c<|Pt c ?_
   exact We ⟨(orT c),ag,rfl⟩
  refine Gy c<|Fb<|Gy c ?_
  refine Lo 0 S<|Gy c<|Nq k<|Gy c<|Fb<|Gy c ?_
  refine Lo 0 S<|Gy c<|Nq q ?_
  refine Gy c<|Lf<|Pf c ?_
  exact We ⟨(orF c),ag,rfl⟩
 intro us
 refine We ?_
 rcases condE h with ⟨ae,h⟩ | ⟨ae,h⟩
 ·refine CT ae<|Ws<|Wg<|A<|We ?_
  obtain rfl:=oi h
  refine WP.ret (Out.one rfl S rfl ?_)
  exact rfl
 refine CF ae<|Wk<|Ws<|Ws<|Wg<|A<|We<|B h fun af an h=>WP.cut (fun f w=>match af with | .inl _=>∃ (ak:Hp),St w0 j w ak [] | .inr _=>False) ?_ ?_
 ·refine Wb ?_
  refine WP.loopM (zC4 b) (fun s f w=>match s with | al=>∃ (o:Hp),f 1=(ptr b1 0)∧f 3=(int al)∧Sl (α:=(List Str)) o t b.fKeys∧Sl (α:=Str) o l b.fVary∧Sl (α:=Str) o u b.fSnapshot∧Sl (α:=GField) o x b.fFields∧St w0 j w o [.box b1 36 [t,l,u,(str b.fReason),x,(str b.fBody),(int b.fRequested),(int b.fReceived)]]) 1 af an ?_ ?_
  ·exact ⟨j,rfl,rfl,p,k,q,z,S⟩
  intro al f w hI ay d am
  obtain ⟨o,h7,h9,p,k,q,z,S⟩:=hI
  refine Ws<|Ws<|Wg<|M' h9<|Fb' h7 ?_
  refine Lo 0 S<|Nq k<|La<|We ?_
  rcases condE d with ⟨ah,d⟩ | ⟨ah,d⟩
  ·refine CT ah<|Wk<|Ws<|Wb<|Ws<|WP.quiet S kr kr<|QFb' h7 ?_
   refine WQ.val (fun w hw=>by obtain ⟨_,hq,S⟩:=hw; exact (R.loadB (i:=0) (v:=l) S rfl rfl lay34 rfl))<|QM' h9<|QLh<|B d fun ao ap d=>WQ.idx (α:=Str) k rfl rfl el34 ap ?_
   rintro az _ aq rfl
   refine WQ.val (fun w hw=>by obtain ⟨_,hq,S⟩:=hw; exact (R.loadH (v:=str ao) S rfl (At.mono aq hq (by simp)) lay9 rfl))<|QFb' h7 ?_
   refine WQ.val (fun w hw=>by obtain ⟨_,hq,S⟩:=hw; exact (R.loadB (i:=0) (v:=l) S rfl rfl lay34 rfl))<|QM' h9<|B d fun ar au d=>WQ.idx (α:=Str) k rfl rfl el34 au ?_
   rintro a0 _ av rfl
   refine WQ.val (fun w hw=>by obtain ⟨_,hq,S⟩:=hw; exact (R.loadH (v:=str ar) S rfl (At.mono av hq (by simp)) lay9 rfl))<|QNf<|WQ.nil ?_
   intro a1 aw ad S
   have k:=Sl.mono k ad
   have p:=Sl.mono p ad
   have q:=Sl.mono q ad
   have z:=Sl.mono z ad
   rcases condE d with ⟨ai,d⟩ | ⟨ai,d⟩
   ·refine CT ai<|Ws<|Wg<|A<|We ?_
    obtain rfl:=oi d
    obtain rfl:=am
    obtain rfl:=oi h
    refine WP.ret (Out.one rfl S rfl ?_)
    exact rfl
   refine CF ai<|Wk<|Wg<|M' h9<|Lg<|A<|We ?_
   obtain rfl:=oi d
   exact ⟨rfl,⟨aw,h7,rfl,p,k,q,z,S⟩⟩
  refine CF ah<|Wx ?_
  obtain rfl:=oi d
  obtain rfl:=am
  exact ⟨o,(S.drop _ (.cons _ .slnil))⟩
 intro f w hM
 rcases af with _ | e
 ·obtain ⟨ak,S⟩:=hM
  refine Ws<|Wg<|A<|We ?_
  obtain rfl:=oi h
  refine WP.ret (Out.one rfl S rfl ?_)
  exact rfl
 exact hM.elim
theorem zKV {w0:World} {q:Hp} (hw:Holds w0 q) (x:(List GAxis)) (b:GEntry) {t:Value} {u:Value} {aj:Value} {ak:Value} {al:Value} (o:Sl (α:=GAxis) q t x) (j:Sl (α:=(List Str)) q u b.fKeys) (bf:Sl (α:=Str) q aj b.fVary) (bg:Sl (α:=Str) q ak b.fSnapshot) (bz:Sl (α:=GField) q al b.fFields) {r:Bool} (h:zGm x b=some r) :
  Con Tryz.prog 62 [t,(agg [u,aj,ak,(str b.fReason),al,(str b.fBody),(int b.fRequested),(int b.fReceived)])] w0 q (fun H' v=>v=(boo r)):=by
 refine Con.mk (N:=58) Tryz.func62 rfl rfl kr rfl ?_
 have S:=St.start hw
 refine Ws<|Wg ?_
 refine W.box [u,aj,ak,(str b.fReason),al,(str b.fBody),(int b.fRequested),(int b.fReceived)] S rfl rfl ?_
 intro b1 w2 S
 refine A<|We<|Ws<|Ws<|Wg<|Fb ?_
 refine Lo 0 S<|Nq j<|La<|M ?_
 refine WL.grp 5 [14,15,16,17] 18 (boo ((decide ((b.fKeys.length:Int)<1))||(decide (64<(b.fKeys.length:Int))))) ?_ ?_
 ·rcases boolE (decide ((b.fKeys.length:Int)<1)) with p | p
  ·refine Gn p<|Gn p<|Gn p<|Gn p<|Pt p ?_
   exact We ⟨(orT p),ag,rfl⟩
  refine Gy p<|Fb<|Gy p ?_
  refine Lo 0 S<|Gy p<|Nq j<|Gy p<|Lc<|Pf p ?_
  exact We ⟨(orF p),ag,rfl⟩
 intro us
 refine M ?_
 refine WL.grp 9 [20,21,22,23,24,25,26,27] 28 (boo (((decide ((b.fKeys.length:Int)<1))||(decide (64<(b.fKeys.length:Int))))||(decide (0<(wr ((b.fVary.length:Int)+(b.fSnapshot.length:Int))))))) ?_ ?_
 ·rcases boolE ((decide ((b.fKeys.length:Int)<1))||(decide (64<(b.fKeys.length:Int)))) with c | c
  ·refine Gn c<|Gn c<|Gn c<|Gn c<|Gn c<|Gn c<|Gn c<|Gn c<|Pt c ?_
   exact We ⟨(orT c),ag,rfl⟩
  refine Gy c<|Fb<|Gy c ?_
  refine Lo 0 S<|Gy c<|Nq bf<|Gy c<|Fb<|Gy c ?_
  refine Lo 0 S<|Gy c<|Nq bg ?_
  refine Gy c<|Lg<|Gy c<|Lc<|Pf c ?_
  exact We ⟨(orF c),ag,rfl⟩
 intro us
 refine We ?_
 rcases condE h with ⟨am,h⟩ | ⟨am,h⟩
 ·refine CT am<|Ws<|Wg<|A<|We ?_
  obtain rfl:=oi h
  refine WP.ret (Out.one rfl S rfl ?_)
  exact rfl
 refine CF am<|Wk<|Ws<|Ws<|Wg<|Fb ?_
 refine Lo 0 S<|Nq j<|M<|We<|B h fun an bh h=>WP.cut (fun f w=>match an with | .inl _=>∃ (az:Hp),St w0 q w az [] | .inr _=>False) ?_ ?_
 ·refine Wb ?_
  refine WP.loopM (zCh x b) (fun s f w=>match s with | ae=>∃ (H8:Hp),f 0=t∧f 30=u∧f 31=(int (b.fKeys.length:Int))∧f 32=(int ae)∧Sl (α:=GAxis) H8 t x∧Sl (α:=(List Str)) H8 u b.fKeys∧St w0 q w H8 []) 0 an bh ?_ ?_
  ·exact ⟨q,rfl,rfl,rfl,rfl,o,j,(S.drop _ (.cons _ .slnil))⟩
  intro ae f w hI b3 k ao
  obtain ⟨H8,h9,a0,a1,aq,o,j,S⟩:=hI
  refine Ws<|Wg<|La' aq a1<|We<|Ws ?_
  rcases condE k with ⟨ar,k⟩ | ⟨ar,k⟩
  ·refine CT ar<|Wk<|Ws<|Wb<|Ws<|Wg<|B k fun a2 bi k=>W.idx (α:=(List Str)) j a0 aq el33 bi ?_
   rintro b4 _ bj ⟨a3,rfl,z⟩
   refine Lq S bj<|A<|We<|Ws<|Ws<|Wg<|M<|Nq z<|M' h9<|Nq o<|Lf<|We ?_
   rcases condE k with ⟨au,k⟩ | ⟨au,k⟩
   ·refine CT au<|Ws<|Wg<|A<|We ?_
    obtain rfl:=oi k
    obtain rfl:=ao
    obtain rfl:=oi h
    refine WP.ret (Out.one rfl S rfl ?_)
    exact rfl
   refine CF au<|Wk<|Ws<|Wg<|M' h9<|Nq o<|M<|We<|B k fun av bk k=>WP.cut (fun f w=>match av with | .inl _=>∃ (ad:Hp),f 0=t∧f 30=u∧f 31=(int (b.fKeys.length:Int))∧f 32=(int ae)∧Sl (α:=GAxis) ad t x∧Sl (α:=(List Str)) ad u b.fKeys∧St w0 q w ad [] | .inr _=>False) ?_ ?_
   ·refine Wb ?_
    refine WP.loopM (zCA x a2) (fun s f w=>match s with | a4=>∃ (ac:Hp),f 0=t∧f 6=a3∧f 30=u∧f 31=(int (b.fKeys.length:Int))∧f 32=(int ae)∧f 41=t∧f 42=(int (x.length:Int))∧f 43=(int a4)∧Sl (α:=GAxis) ac t x∧Sl (α:=Str) ac a3 a2∧Sl (α:=(List Str)) ac u b.fKeys∧St w0 q w ac []) 0 av bk ?_ ?_
    ·exact ⟨H8,h9,rfl,a0,a1,aq,rfl,rfl,rfl,o,z,j,S⟩
    intro a4 f w hI b5 d a5
    obtain ⟨ac,a6,a7,a8,a9,ba,bb,bc,af,o,z,j,S⟩:=hI
    refine Ws<|Wg<|La' af bc<|We<|Ws ?_
    rcases condE d with ⟨aw,d⟩ | ⟨aw,d⟩
    ·refine CT aw<|Wk<|Ws<|Wb<|Ws<|Wg<|M' af<|B d fun ah bn d=>W.idx (α:=GAxis) o bb af el22 bn ?_
     rintro b6 _ bo ⟨ai,rfl,bd⟩
     refine WL.w (R.loadHN (vs:=[(str ah.fName),ai]) S rfl bo lay68 rfl rfl) ?_
     refine W.alloc [(str []),(.slice none 0 0)] S zer68 ?_
     intro b7 b8 S
     refine A ?_
     refine W.store (i:=0) [(str ah.fName),ai] S rfl rfl rfl lay68 rfl (AllOne.all (l:=[(str ah.fName),ai]) (.cons rfl (.cons (Sl.oneC bd) .nil))) (Nat.le_of_ble_eq_true rfl) rfl ?_
     intro b9 S
     refine We<|Ws<|WP.quiet S kr kr<|QFb ?_
     refine WQ.val (fun w hw=>by obtain ⟨_,hq,S⟩:=hw; exact (R.loadB (i:=0) (v:=ai) S rfl rfl lay34 rfl))<|QM' a7<|QM<|B d fun be bp d=>WQ.idx (α:=Str) z rfl rfl el34 bp ?_
     rintro ca _ bq rfl
     refine WQ.val (fun w hw=>by obtain ⟨_,hq,S⟩:=hw; exact (R.loadH (v:=str be) S rfl (At.mono bq hq (by simp)) lay9 rfl))<|B d fun br bs d=>WQ.call (v:=boo br) rfl (fun w H' hq S=>zCC S.holds ah.fValues be (Sl.mono bd hq) bs)<|QNo<|WQ.nil ?_
     intro cb bt ax S
     have o:=Sl.mono o ax
     have z:=Sl.mono z ax
     have j:=Sl.mono j ax
     rcases condE d with ⟨ay,d⟩ | ⟨ay,d⟩
     ·refine CT ay<|Ws<|Wg<|A<|We ?_
      obtain rfl:=oi d
      obtain rfl:=a5
      obtain rfl:=oi k
      obtain rfl:=ao
      obtain rfl:=oi h
      refine WP.ret (Out.one rfl S rfl ?_)
      exact rfl
     refine CF ay<|Wk<|Wg<|Lg' af rfl<|M<|We ?_
     obtain rfl:=oi d
     exact ⟨rfl,⟨bt,a6,a7,a8,a9,ba,bb,bc,rfl,o,z,j,(S.drop _ (.cons _ .slnil))⟩⟩
    refine CF aw<|Wx ?_
    obtain rfl:=oi d
    obtain rfl:=a5
    exact ⟨ac,a6,a8,a9,ba,o,j,S⟩
   intro f w hM
   rcases av with _ | e
   ·obtain ⟨ad,bu,bv,bw,bx,o,j,S⟩:=hM
    refine Wg<|Lg' bx rfl<|M<|We ?_
    obtain rfl:=oi k
    exact ⟨rfl,⟨ad,bu,bv,bw,rfl,o,j,S⟩⟩
   exact hM.elim
  refine CF ar<|Wx ?_
  obtain rfl:=oi k
  obtain rfl:=ao
  exact ⟨H8,S⟩
 intro f w hM
 rcases an with _ | e
 ·obtain ⟨az,S⟩:=hM
  refine Ws<|Wg<|A<|We ?_
  obtain rfl:=oi h
  refine WP.ret (Out.one rfl S rfl ?_)
  exact rfl
 exact hM.elim
theorem zJX {x:World} {c:Hp} (hw:Holds x c) (b:GEntry) (f:GTable) (d:GEntry) {j:Value} {k:Value} {l:Value} {o:Value} {z:Value} {aa:Value} {p:Value} {q:Value} {t:Value} {u:Value} {ab:Addr} {ac:Addr} (ad:Sl (α:=(List Str)) c j b.fKeys) (ae:Sl (α:=Str) c k b.fVary) (af:Sl (α:=Str) c l b.fSnapshot) (ah:Sl (α:=GField) c o b.fFields) (ai:At c ab [z,aa]) (aj:Sl (α:=GAxis) c z f.fAxes) (ar:Sl (α:=GEntry) c aa f.fEntries) (ak:At c ac [p,q,t,(str d.fReason),u,(str d.fBody),(int d.fRequested),(int d.fReceived)]) (al:Sl (α:=(List Str)) c p d.fKeys) (am:Sl (α:=Str) c q d.fVary) (an:Sl (α:=Str) c t d.fSnapshot) (ao:Sl (α:=GField) c u d.fFields) {r:Bool} (h:zFJ b f d=some r) :
  Con Tryz.prog 63 [(agg [j,k,l,(str b.fReason),o,(str b.fBody),(int b.fRequested),(int b.fReceived)]),(.pointer (some ab)),(.pointer (some ac))] x c (fun H' v=>v=(boo r)):=by
 refine Con.mk (N:=10) Tryz.func63 rfl rfl kr rfl ?_
 have S:=St.start hw
 refine Ws<|Wg ?_
 refine W.box [j,k,l,(str b.fReason),o,(str b.fBody),(int b.fRequested),(int b.fReceived)] S rfl rfl ?_
 intro b1 w2 S
 refine A<|We<|Ws<|Wg<|Fc ?_
 have ap:=At.add ai 0 (by simp)
 refine Lq S ap ?_
 refine WL.w (R.loadHN (vs:=[p,q,t,(str d.fReason),u,(str d.fBody),(int d.fRequested),(int d.fReceived)]) S rfl ak lay36 rfl rfl) ?_
 refine WL.w (R.loadBN (i:=0) (vs:=[j,k,l,(str b.fReason),o,(str b.fBody),(int b.fRequested),(int b.fReceived)]) S rfl rfl lay36 rfl rfl)<|B h fun r4 aq h=>W.call S rfl (zGR S.holds f.fAxes d b aj al am an ao ad ae af ah aq) ?_
 rintro v5 w6 H7 a0 S rfl
 refine A<|We ?_
 obtain rfl:=oi h
 refine WP.ret (Out.one rfl S rfl ?_)
 exact rfl
theorem zKc {w0:World} {q:Hp} (hw:Holds w0 q) (t:GTable) (ay:Int) {af:Value} {ae:Value} (c:Sl (α:=GAxis) q af t.fAxes) (d:Sl (α:=GEntry) q ae t.fEntries) {r:Bool} (h:zFb t ay=some r) :
  Con Tryz.prog 27 [(agg [af,ae]),(int ay)] w0 q (fun H' v=>v=(boo r)):=by
 refine Con.mk (N:=54) Tryz.func27 rfl rfl kr rfl ?_
 have S:=St.start hw
 refine Ws<|Wg ?_
 refine W.box [af,ae] S rfl rfl ?_
 intro b1 w2 S
 refine A<|We<|Ws<|Ws<|Wg<|Fb ?_
 refine Lo 0 S<|Nq d<|M<|Lc<|M<|B h fun bi ah h=>WL.grpw 11 [13,14,15,16,17,18,19,20,21,22] 23 (boo bi) (fun w=>∃ H':Hp,q.le H'∧St w0 q w H' [.box b1 25 [af,ae]]) ?_ ?_
 ·rcases boolE (decide (ay<(t.fEntries.length:Int))) with o | o
  ·replace ah:=condT ah o
   refine Gn o<|Gn o<|Gn o<|Gn o<|Gn o<|WL.gund rfl rfl<|WL.gund rfl rfl<|WL.gund rfl rfl<|WL.gund rfl rfl<|Gn o<|Pt o ?_
   exact We ⟨(congrArg boo (oi ah)),ag,⟨q,(Hp.le.refl _),S⟩⟩
  replace ah:=condF ah o
  refine Gy o<|Fb<|Gy o ?_
  refine Lo 0 S<|Gy o<|Nq c<|Gy o<|Lc<|Gy o<|M<|B ah fun bj ai ah=>WL.grpw 5 [18,19,20,21] 22 (boo bj) (fun w=>∃ H':Hp,q.le H'∧St w0 q w H' [.box b1 25 [af,ae]]) ?_ ?_
  ·rcases boolE (decide (0<(t.fAxes.length:Int))) with u | u
   ·replace ai:=condT ai u
    refine Gy u<|Fb<|Gy u ?_
    refine Lo 0 S<|Gy u<|B ai fun r7 bk ai=>W.call S rfl (zCD S.holds t.fAxes c bk) ?_
    rintro v8 w9 bn az S rfl
    have c:=Sl.mono c az
    have d:=Sl.mono d az
    refine Gy u<|No<|Gy o<|Pt u ?_
    exact We ⟨(congrArg boo (oi ai)),ag,⟨bn,az,S⟩⟩
   replace ai:=condF ai u
   refine Gn u<|Gn u<|Gn u<|Gn u<|Gy o<|Pf u ?_
   exact We ⟨(congrArg boo (oi ai)),ag,⟨q,(Hp.le.refl _),S⟩⟩
  intro us cj ⟨bo,a0,S⟩
  have c:=Sl.mono c a0
  have d:=Sl.mono d a0
  refine Pf o ?_
  exact We ⟨(congrArg boo (oi ah)),ag,⟨bo,a0,S⟩⟩
 intro us ck ⟨cl,bd,S⟩
 have c:=Sl.mono c bd
 have d:=Sl.mono d bd
 refine We ?_
 rcases condE h with ⟨a1,h⟩ | ⟨a1,h⟩
 ·refine CT a1<|Ws<|Wg<|A<|We ?_
  obtain rfl:=oi h
  refine WP.ret (Out.one rfl S rfl ?_)
  exact rfl
 refine CF a1<|Wk<|Ws<|Ws<|Wg<|Fb ?_
 refine Lo 0 S<|Nq d<|M<|We ?_
 obtain ⟨a2,be,bp,_,S⟩:=S.settle (i:=0) rfl
 replace S:St w0 q _ a2 []:=S
 have p:At a2 ⟨b1,0,none⟩ [af,ae]:=⟨_,_,rfl,bp,[],by simp⟩
 have c:=Sl.mono c be
 have d:=Sl.mono d be
 refine B h fun a3 bq h=>WP.cut (fun f w=>match a3 with | .inl _=>∃ (bf:Hp),St w0 q w bf [] | .inr _=>False) ?_ ?_
 ·refine Wb ?_
  refine WP.loopM (zCg t) (fun s f w=>match s with | bg=>∃ (an:Hp),f 2=(.pointer (some ⟨b1,0,none⟩))∧f 25=ae∧f 26=(int (t.fEntries.length:Int))∧f 27=(int bg)∧At an ⟨b1,0,none⟩ [af,ae]∧Sl (α:=GAxis) an af t.fAxes∧Sl (α:=GEntry) an ae t.fEntries∧St w0 q w an []) 0 a3 bq ?_ ?_
  ·exact ⟨a2,rfl,rfl,rfl,rfl,p,c,d,S⟩
  intro bg f w hI cm j a4
  obtain ⟨an,ao,a5,a6,av,p,c,d,S⟩:=hI
  refine Ws<|Wg<|La' av a6<|We<|Ws ?_
  rcases condE j with ⟨a7,j⟩ | ⟨a7,j⟩
  ·refine CT a7<|Wk<|Ws<|Wb<|Ws<|Wg<|M' av<|B j fun b br j=>W.idx (α:=GEntry) d a5 av el23 br ?_
   rintro cn _ bs ⟨ap,aq,ar,au,rfl,x,z,aa,ab⟩
   refine WL.w (R.loadHN (vs:=[ap,aq,ar,(str b.fReason),au,(str b.fBody),(int b.fRequested),(int b.fReceived)]) S rfl bs lay36 rfl rfl) ?_
   refine W.alloc [(.slice none 0 0),(.slice none 0 0),(.slice none 0 0),(str []),(.slice none 0 0),(str []),(int 0),(int 0)] S zer36 ?_
   intro bh co S
   refine A ?_
   refine W.store (i:=0) [ap,aq,ar,(str b.fReason),au,(str b.fBody),(int b.fRequested),(int b.fReceived)] S rfl rfl rfl lay36 rfl (AllOne.all (l:=[ap,aq,ar,(str b.fReason),au,(str b.fBody),(int b.fRequested),(int b.fReceived)]) (.cons (Sl.oneC x) (.cons (Sl.oneC z) (.cons (Sl.oneC aa) (.cons rfl (.cons (Sl.oneC ab) (.cons rfl (.cons rfl (.cons rfl .nil))))))))) (Nat.le_of_ble_eq_true rfl) rfl ?_
   intro cp S
   refine We<|Ws<|Ws<|Wg<|Fc' ao ?_
   have bt:=At.add p 0 (by simp)
   refine Lq S bt<|Nq c<|Le<|We ?_
   rcases condE j with ⟨a8,j⟩ | ⟨a8,j⟩
   ·refine CT a8<|Ws<|Ws<|Wg ?_
    refine WL.w (R.loadBN (i:=0) (vs:=[ap,aq,ar,(str b.fReason),au,(str b.fBody),(int b.fRequested),(int b.fReceived)]) S rfl rfl lay36 rfl rfl)<|B j fun cq bu j=>W.call S rfl (zJr S.holds b x z aa ab bu) ?_
    rintro cr cs bv aj S rfl
    have p:=At.mono p aj (by simp)
    have c:=Sl.mono c aj
    have d:=Sl.mono d aj
    have x:=Sl.mono x aj
    have z:=Sl.mono z aj
    have aa:=Sl.mono aa aj
    have ab:=Sl.mono ab aj
    refine No<|We ?_
    rcases condE j with ⟨a9,j⟩ | ⟨a9,j⟩
    ·refine CT a9<|Ws<|Wg<|A<|We ?_
     obtain rfl:=oi j
     obtain rfl:=a4
     obtain rfl:=oi h
     refine WP.ret (Out.one rfl S rfl ?_)
     exact rfl
    refine CF a9<|Wk<|Wx<|Wg<|Lg' av rfl<|M<|We ?_
    obtain rfl:=oi j
    exact ⟨rfl,⟨bv,ao,a5,a6,rfl,p,c,d,(S.drop _ (.cons _ .slnil))⟩⟩
   refine CF a8<|Wk<|Ws<|Wg<|Fc' ao ?_
   have bw:=At.add p 0 (by simp)
   refine Lq S bw ?_
   refine WL.w (R.loadBN (i:=0) (vs:=[ap,aq,ar,(str b.fReason),au,(str b.fBody),(int b.fRequested),(int b.fReceived)]) S rfl rfl lay36 rfl rfl)<|B j fun bx bz j=>W.call S rfl (zKV S.holds t.fAxes b c x z aa ab bz) ?_
   rintro ct cu cv ak S rfl
   have p:=At.mono p ak (by simp)
   have c:=Sl.mono c ak
   have d:=Sl.mono d ak
   have x:=Sl.mono x ak
   have z:=Sl.mono z ak
   have aa:=Sl.mono aa ak
   have ab:=Sl.mono ab ak
   refine No<|M ?_
   obtain ⟨aw,al,b0,_,S⟩:=S.settle (i:=0) rfl
   replace S:St w0 q _ aw []:=S
   have b2:At aw ⟨bh,0,none⟩ [ap,aq,ar,(str b.fReason),au,(str b.fBody),(int b.fRequested),(int b.fReceived)]:=⟨_,_,rfl,b0,[],by simp⟩
   have p:=At.mono p al (by simp)
   have c:=Sl.mono c al
   have d:=Sl.mono d al
   have x:=Sl.mono x al
   have z:=Sl.mono z al
   have aa:=Sl.mono aa al
   have ab:=Sl.mono ab al
   refine B j fun b3 ac j=>WL.grpw 8 [45,46,47,48,49,50,51] 52 (boo b3) (fun w=>∃ H':Hp,aw.le H'∧St w0 q w H' []) ?_ ?_
   ·rcases boolE (!bx) with k | k
    ·replace ac:=condT ac k
     refine Gn k<|Gn k<|Gn k<|Gn k<|Gn k<|Gn k<|Gn k<|Pt k ?_
     exact We ⟨(congrArg boo (oi ac)),ag,⟨aw,(Hp.le.refl _),S⟩⟩
    replace ac:=condF ac k
    refine Gy k<|Fc' ao ?_
    have b4:=At.add p 1 (by simp)
    refine Gy k ?_
    refine Lq S b4<|Gy k<|M<|Gy k<|B ac fun b5 b6 ac=>W.subHi (α:=GEntry) d rfl rfl el23 b6 ?_
    intro cw b7
    refine Gy k ?_
    refine WL.w (R.mkFunc (vs:=[(.pointer (some ⟨b1,0,none⟩)),(.pointer (some ⟨bh,0,none⟩))]) (mapC ao (mapC rfl mapN)))<|Gy k<|B ac fun cx b8 ac=>W.call S rfl (zGg S.holds b5 (fun x0=>zFJ x0 t b) b7 (fun hle hw x0=>fun b9 ca cb cc r h=>zJX hw x0 t b b9 ca cb cc (At.mono p hle (by simp)) (Sl.mono c hle) (Sl.mono d hle) (At.mono b2 hle (by simp)) (Sl.mono x hle) (Sl.mono z hle) (Sl.mono aa hle) (Sl.mono ab hle) h) b8) ?_
    rintro cy cz cd ax S rfl
    have p:=At.mono p ax (by simp)
    have c:=Sl.mono c ax
    have d:=Sl.mono d ax
    refine Gy k<|Ld<|Pf k ?_
    exact We ⟨(congrArg boo (oi ac)),ag,⟨cd,ax,S⟩⟩
   intro us c0 ⟨ce,bb,S⟩
   have p:=At.mono p bb (by simp)
   have c:=Sl.mono c bb
   have d:=Sl.mono d bb
   refine We ?_
   rcases condE j with ⟨bc,j⟩ | ⟨bc,j⟩
   ·refine CT bc<|Ws<|Wg<|A<|We ?_
    obtain rfl:=oi j
    obtain rfl:=a4
    obtain rfl:=oi h
    refine WP.ret (Out.one rfl S rfl ?_)
    exact rfl
   refine CF bc<|Wk<|Wg<|Lg' av rfl<|M<|We ?_
   obtain rfl:=oi j
   exact ⟨rfl,⟨ce,ao,a5,a6,rfl,p,c,d,S⟩⟩
  refine CF a7<|Wx ?_
  obtain rfl:=oi j
  obtain rfl:=a4
  exact ⟨an,S⟩
 intro f w hM
 rcases a3 with _ | e
 ·obtain ⟨bf,S⟩:=hM
  refine Ws<|Wg<|A<|We ?_
  obtain rfl:=oi h
  refine WP.ret (Out.one rfl S rfl ?_)
  exact rfl
 exact hM.elim
theorem zH6 {w0:World} {H0:Hp} (hw:Holds w0 H0) {r:Bool} (h:zFY=some r) :
  Con Tryz.prog 13 [] w0 H0 (fun H' v=>v=(boo r)):=by
 refine Con.mk (N:=51) Tryz.func13 rfl rfl kr rfl ?_
 have S:=St.start hw
 refine Ws<|Wg<|A<|We<|Ws<|Wg<|W.bslice (α:=Str) [(str [101,110]),(str [102,114])] ([[101,110],[102,114]]:List Str) S el34 rfl rfl rfl (by decide) (Go.Eng.encS ⟨rfl,rfl⟩ (Go.Eng.encS ⟨rfl,rfl⟩ enc0)) ?_
 intro u1 w2 H3 bo R5 S
 refine WL.w (R.build [(0,(str [97,99,99,101,112,116,45,108,97,110,103,117,97,103,101])),(1,u1)] [(str [97,99,99,101,112,116,45,108,97,110,103,117,97,103,101]),u1] bp68 zer68 rfl (by obtain ⟨_,_,rfl,_⟩:=R5; rfl))<|W.bslice (α:=GAxis) [(agg [(str [97,99,99,101,112,116,45,108,97,110,103,117,97,103,101]),u1])] ([(⟨[97,99,99,101,112,116,45,108,97,110,103,117,97,103,101],([[101,110],[102,114]]:List Str)⟩:GAxis)]:List GAxis) S el22 rfl rfl rfl (by decide) (Go.Eng.encS ⟨rfl,_,rfl,R5⟩ enc0) ?_
 intro u6 w7 H8 br c S
 refine A<|We<|Ws<|Wg ?_
 refine WL.w (R.build [] [(.slice none 0 0),(.slice none 0 0)] bp25 zer25 rfl rfl)<|W.bslice (α:=Str) [(str [101,110])] ([[101,110]]:List Str) S el34 rfl rfl rfl (by decide) (Go.Eng.encS ⟨rfl,rfl⟩ enc0) ?_
 intro ar bs bt a3 aa S
 have c:=Sl.mono c a3
 refine W.bslice (α:=Str) [(str [102,114])] ([[102,114]]:List Str) S el34 rfl rfl rfl (by decide) (Go.Eng.encS ⟨rfl,rfl⟩ enc0) ?_
 intro au bu bv av ah S
 have c:=Sl.mono c av
 have aa:=Sl.mono aa av
 refine W.bslice (α:=(List Str)) [ar,au] ([([[101,110]]:List Str),([[102,114]]:List Str)]:List (List Str)) S el33 rfl rfl rfl (by decide) (Go.Eng.encS ⟨(by rw [Sl.cellsOne aa]; rfl),_,(by rw [Sl.cellsOne aa]),aa⟩ (Go.Eng.encS ⟨(by rw [Sl.cellsOne ah]; rfl),_,(by rw [Sl.cellsOne ah]),ah⟩ enc0)) ?_
 intro ai bw bx a4 aw S
 have c:=Sl.mono c a4
 refine WL.w (R.build [(0,ai),(5,(str [49]))] [ai,(.slice none 0 0),(.slice none 0 0),(str []),(.slice none 0 0),(str [49]),(int 0),(int 0)] bp36 zer36 rfl (by obtain ⟨_,_,rfl,_⟩:=aw; rfl))<|M<|B h fun a5 a6 h=>W.call S rfl (zHe S.holds (⟨([]:List GAxis),([]:List GEntry)⟩:GTable) (⟨([([[101,110]]:List Str),([[102,114]]:List Str)]:List (List Str)),([]:List Str),([]:List Str),[],([]:List GField),[49],0,0⟩:GEntry) ([(⟨[97,99,99,101,112,116,45,108,97,110,103,117,97,103,101],([[101,110],[102,114]]:List Str)⟩:GAxis)]:List GAxis) 5 Sl.nil Sl.nil aw Sl.nil Sl.nil Sl.nil c a6) ?_
 rintro bz b0 b1 a7 S ⟨aj,ak,rfl,t,u⟩
 have c:=Sl.mono c a7
 refine W.alloc [(.slice none 0 0),(.slice none 0 0)] S zer25 ?_
 intro a8 b2 S
 refine W.store (i:=0) [aj,ak] S rfl rfl rfl lay25 rfl (AllOne.all (l:=[aj,ak]) (.cons (Sl.oneC t) (.cons (Sl.oneC u) .nil))) (Nat.le_of_ble_eq_true rfl) rfl ?_
 intro b3 S
 refine We<|Ws<|Wg ?_
 refine WL.w (R.loadBN (i:=0) (vs:=[aj,ak]) S rfl rfl lay25 rfl rfl)<|W.bslice (α:=Str) [(str [102,114])] ([[102,114]]:List Str) S el34 rfl rfl rfl (by decide) (Go.Eng.encS ⟨rfl,rfl⟩ enc0) ?_
 intro ax b4 b5 al am S
 have c:=Sl.mono c al
 have t:=Sl.mono t al
 have u:=Sl.mono u al
 refine W.bslice (α:=(List Str)) [ax] ([([[102,114]]:List Str)]:List (List Str)) S el33 rfl rfl rfl (by decide) (Go.Eng.encS ⟨(by rw [Sl.cellsOne am]; rfl),_,(by rw [Sl.cellsOne am]),am⟩ enc0) ?_
 intro an b6 b7 ao ay S
 have c:=Sl.mono c ao
 have t:=Sl.mono t ao
 have u:=Sl.mono u ao
 refine WL.w (R.build [(0,an),(5,(str [50]))] [an,(.slice none 0 0),(.slice none 0 0),(str []),(.slice none 0 0),(str [50]),(int 0),(int 0)] bp36 zer36 rfl (by obtain ⟨_,_,rfl,_⟩:=ay; rfl))<|M<|B h fun ap a9 h=>W.call S rfl (zHe S.holds a5 (⟨([([[102,114]]:List Str)]:List (List Str)),([]:List Str),([]:List Str),[],([]:List GField),[50],0,0⟩:GEntry) ([(⟨[97,99,99,101,112,116,45,108,97,110,103,117,97,103,101],([[101,110],[102,114]]:List Str)⟩:GAxis)]:List GAxis) 5 t u ay Sl.nil Sl.nil Sl.nil c a9) ?_
 rintro b8 b9 ca cb S ⟨ab,ac,rfl,p,d⟩
 refine W.store (i:=2) [ab,ac] S rfl rfl rfl lay25 rfl (AllOne.all (l:=[ab,ac]) (.cons (Sl.oneC p) (.cons (Sl.oneC d) .nil))) (Nat.le_of_ble_eq_true rfl) rfl ?_
 intro cc S
 refine We<|Ws<|Wg ?_
 refine WL.w (R.loadBN (i:=2) (vs:=[ab,ac]) S rfl rfl lay25 rfl rfl) ?_
 refine WL.w (R.build [(0,(str [65,99,99,101,112,116,45,76,97,110,103,117,97,103,101])),(1,(str [101,110]))] [(str [65,99,99,101,112,116,45,76,97,110,103,117,97,103,101]),(str [101,110])] bp64 zer64 rfl rfl)<|W.bslice (α:=GField) [(agg [(str [65,99,99,101,112,116,45,76,97,110,103,117,97,103,101]),(str [101,110])])] ([(⟨[65,99,99,101,112,116,45,76,97,110,103,117,97,103,101],[101,110]⟩:GField)]:List GField) S el26 rfl rfl rfl (by decide) (Go.Eng.encS ⟨rfl,rfl⟩ enc0) ?_
 intro ba cd ce az bb S
 have p:=Sl.mono p az
 have d:=Sl.mono d az
 refine B h fun x bc h=>W.call S rfl (zIb S.holds ap ([(⟨[65,99,99,101,112,116,45,76,97,110,103,117,97,103,101],[101,110]⟩:GField)]:List GField) true p d bb bc) ?_
 rintro cf cg a0 a1 S rfl
 have p:=Sl.mono p a1
 have d:=Sl.mono d a1
 refine M ?_
 refine Ex ?_
 refine Ex<|A<|A<|We<|Ws<|Wg<|Fb ?_
 refine Lo 3 S<|Nq d<|Le ?_
 refine M<|B h fun z k h=>WL.grp 7 [33,34,35,36,37,38] 39 (boo z) ?_ ?_
 ·rcases boolE ((ap.fEntries.length:Int)==1) with b | b
  ·replace k:=condT k b
   refine Gy b<|Fb<|Gy b ?_
   refine Lo 3 S<|Gy b<|B k fun ch bd k=>W.idx (α:=GEntry) d rfl rfl el23 bd ?_
   rintro ci _ be ⟨cj,ck,cl,cm,rfl,cn,co,cp,cq⟩
   refine Gy b<|Fc ?_
   have bf:=At.add be 5 (by simp)
   refine Gy b ?_
   refine Lq S bf<|Gy b<|Na<|Pt b ?_
   exact We ⟨(congrArg boo (oi k)),ag,rfl⟩
  replace k:=condF k b
  refine Gn b<|Gn b<|Gn b<|Gn b<|Gn b<|Gn b<|Pf b ?_
  exact We ⟨(congrArg boo (oi k)),ag,rfl⟩
 intro us
 refine M ?_
 refine WL.grp 3 [41,42] 43 (boo (z&&(x.1==(-1)))) ?_ ?_
 ·rcases boolE z with f | f
  ·refine Gy f<|M<|Gy f<|Le<|Pt f ?_
   exact We ⟨(andT f),ag,rfl⟩
  refine Gn f<|Gn f<|Pf f ?_
  exact We ⟨(andF f),ag,rfl⟩
 intro us
 refine M ?_
 refine WL.grp 2 [45] 46 (boo ((z&&(x.1==(-1)))&&x.2)) ?_ ?_
 ·rcases boolE (z&&(x.1==(-1))) with q | q
  ·refine Gy q<|M<|Pt q ?_
   exact We ⟨(andT q),ag,rfl⟩
  refine Gn q<|Pf q ?_
  exact We ⟨(andF q),ag,rfl⟩
 intro us
 refine M<|B h fun bg o h=>WL.grpw 3 [48,49] 50 (boo bg) (fun w=>∃ H':Hp,a0.le H'∧St w0 H0 w H' [.row ba 64 2 ([(⟨[65,99,99,101,112,116,45,76,97,110,103,117,97,103,101],[101,110]⟩:GField)]:List GField).length,.row an 34 1 ([([[102,114]]:List Str)]:List (List Str)).length,.row ax 9 1 ([[102,114]]:List Str).length,.box a8 25 [ab,ac],.row ai 34 1 ([([[101,110]]:List Str),([[102,114]]:List Str)]:List (List Str)).length,.row au 9 1 ([[102,114]]:List Str).length,.row ar 9 1 ([[101,110]]:List Str).length,.row u6 68 2 ([(⟨[97,99,99,101,112,116,45,108,97,110,103,117,97,103,101],([[101,110],[102,114]]:List Str)⟩:GAxis)]:List GAxis).length,.row u1 9 1 ([[101,110],[102,114]]:List Str).length]) ?_ ?_
 ·rcases boolE ((z&&(x.1==(-1)))&&x.2) with j | j
  ·replace o:=condT o j
   refine Gy j ?_
   refine WL.w (R.loadBN (i:=3) (vs:=[ab,ac]) S rfl rfl lay25 rfl rfl)<|Gy j<|B o fun cr bh o=>W.call S rfl (zKc S.holds ap 5 p d bh) ?_
   rintro cs ct bi bj S rfl
   refine Pt j ?_
   exact We ⟨(congrArg boo (oi o)),ag,⟨bi,bj,S⟩⟩
  replace o:=condF o j
  refine Gn j<|Gn j<|Pf j ?_
  exact We ⟨(congrArg boo (oi o)),ag,⟨a0,(Hp.le.refl _),S⟩⟩
 intro us cu ⟨cv,cw,S⟩
 refine A<|We ?_
 obtain rfl:=oi h
 refine WP.ret (Out.one rfl S rfl ?_)
 exact rfl
end Go.Proofs

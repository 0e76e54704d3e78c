/- A part. -/
import Derived.Test.YtipgfplekgdoiaaGreatDoorEng38
import Derived.Test.YtipgfplekgdoiaaGreatDoorEng33
import Derived.Test.YtipgfplekgdoiaaGreatDoorGenK16
namespace Go.Proofs
set_option maxHeartbeats 4000000
set_option maxRecDepth 10000
open Go.Eng Go.Eng.Pure
set_option linter.unusedVariables false
theorem zHe {w0:World} {H0:Hp} (hw:Holds w0 H0) (bp:GTable) (b:GEntry) (a2:(List GAxis)) (bz:Int) {bq:Value} {br:Value} {au:Value} {av:Value} {aw:Value} {ax:Value} {a3:Value} (bw:Sl H0 bq bp.fAxes) (cu:Sl H0 br bp.fEntries) (p:Sl H0 au b.fKeys) (q:Sl H0 av b.fVary) (t:Sl H0 aw b.fSnapshot) (u:Sl H0 ax b.fFields) (ai:Sl H0 a3 a2) {r:GTable} (h:zEy bp b a2 bz=some r) :
  Con Tryz.prog 17 [(agg [bq,br]),(agg [au,av,aw,(str b.fReason),ax,(str b.fBody),(int b.fRequested),(int b.fReceived)]),a3,(int bz)] w0 H0 (fun H' v=>∃ u1 u2:Value,v=(agg [u1,u2])∧Sl H' u1 r.fAxes∧Sl H' u2 r.fEntries):=by
 refine CM 44 Tryz.func17 hw fun S=>?_
 refine Ws<|Wg ?_
 refine W.box [bq,br] S rfl rfl ?_
 intro b1 w2 S
 refine W.box [au,av,aw,(str b.fReason),ax,(str b.fBody),(int b.fRequested),(int b.fReceived)] S rfl rfl ?_
 intro b3 w4 S
 refine W.box [a3] S rfl (congrArg Array.toList (Sl.cellsOne ai)) ?_
 intro b5 w6 S
 refine W.alloc [(.slice none 0 0),(.slice none 0 0)] S zer25 ?_
 intro b7 w8 S
 refine We<|Ws<|Wg ?_
 refine WL.w (R.loadBN (i:=3) (vs:=[bq,br]) S rfl rfl lay25 rfl rfl)<|B h fun r9 cw h=>W.callS rfl (zJ4 bp S bw cu cw) ?_
 rintro dk dl cx dm be S ⟨b0,b2,cn,rfl,rfl,bf,bg⟩
 replace S:St w0 H0 _ cx [cn,.box b7 25 [(.slice none 0 0),(.slice none 0 0)],.box b5 22 [a3],.box b3 36 [au,av,aw,(str b.fReason),ax,(str b.fBody),(int b.fRequested),(int b.fReceived)],.box b1 25 [bq,br]]:=S
 have bw:=bw.up be
 have p:=p.up be
 have q:=q.up be
 have t:=t.up be
 have u:=u.up be
 have ai:=ai.up be
 refine W.alloc [(.slice none 0 0),(.slice none 0 0)] S zer25 ?_
 intro ay dn S
 refine W.store (i:=0) [b0,b2] S rfl rfl rfl lay25 rfl (AllOne.all (l:=[b0,b2]) (.cons (Sl.oneC bf) (.cons (MR.oneC bg) .nil))) (Nat.le_of_ble_eq_true rfl) rfl ?_
 intro dp S
 refine We<|Ws<|Ws<|Wg<|Fb ?_
 refine Lo 5 S ?_
 refine Lo 3 S<|B h fun dq cy h=>W.call S rfl (zJF S.holds bp.fAxes a2 bw ai cy) ?_
 rintro dr ds cz a4 S rfl
 have p:=p.up a4
 have q:=q.up a4
 have t:=t.up a4
 have u:=u.up a4
 have ai:=ai.up a4
 have bf:=bf.up a4
 have bg:=MR.mono bg a4
 refine No<|We ?_
 obtain ⟨⟨c0,co⟩,a5,h⟩:=bindE h
 refine WP.cut (fun f w=>∃ (az:Hp) (c:Value) (a6:Value) (bh:Ent),f 3=(int bz)∧f 5=(ptr b3 0)∧f 6=(ptr b5 0)∧f 8=(ptr b7 0)∧f 9=(ptr ay 0)∧Sl az c c0∧MR (α:=GEntry) az bh 36 a6 co∧Sl az a3 a2∧Sl az au b.fKeys∧Sl az av b.fVary∧Sl az aw b.fSnapshot∧Sl az ax b.fFields∧St w0 H0 w az [.box ay 25 [c,a6],bh,.box b7 25 [(.slice none 0 0),(.slice none 0 0)],.box b5 22 [a3],.box b3 36 [au,av,aw,(str b.fReason),ax,(str b.fBody),(int b.fRequested),(int b.fReceived)]]) ?_ ?_
 ·rcases condE a5 with ⟨b4,a5⟩ | ⟨b4,a5⟩
  ·refine CT b4<|Wg ?_
   refine Lo 3 S<|B a5 fun dt c1 a5=>W.call S rfl (zIm S.holds a2 ai c1) ?_
   rintro bt du c2 a7 S b6
   have p:=p.up a7
   have q:=q.up a7
   have t:=t.up a7
   have u:=u.up a7
   have ai:=ai.up a7
   have bf:=bf.up a7
   have bg:=MR.mono bg a7
   refine WL.w (R.build [(0,bt)] [bt,(.slice none 0 0)] bp25 zer25 rfl (by obtain ⟨_,_,rfl,_⟩:=b6; rfl)) ?_
   refine W.store (i:=0) [bt,(.slice none 0 0)] S rfl rfl rfl lay25 rfl (AllOne.all (l:=[bt,(.slice none 0 0)]) (.cons (Sl.oneC b6) (.cons rfl .nil))) (Nat.le_of_ble_eq_true rfl) rfl ?_
   intro dw S
   refine We ?_
   cases oi a5
   exact ⟨c2,bt,.slice none 0 0,(.row (.slice none 0 0) 36 8 0),rfl,rfl,rfl,rfl,rfl,b6,MR.nil,ai,p,q,t,u,((((S.addNil 36 8).front 2 rfl).front 2 rfl).drop _ (.cons_cons _ (.cons _ (.cons_cons _ (.cons_cons _ (.cons_cons _ (.cons_cons _ (.cons _ .slnil))))))))⟩
  refine CF b4<|Wk ?_
  cases oi a5
  exact ⟨cz,b0,b2,(cn),rfl,rfl,rfl,rfl,rfl,bf,bg,ai,p,q,t,u,(S.drop _ (.cons_cons _ (.cons_cons _ (.cons_cons _ (.cons_cons _ (.cons_cons _ (.cons _ .slnil)))))))⟩
 rintro f w ⟨az,c,a6,bh,bx,b8,c3,a0,aa,d,bu,ai,p,q,t,u,S⟩
 refine Ws<|Wg<|Fb' aa ?_
 refine Lo 0 S ?_
 obtain ⟨cp,a8,c4,_,S⟩:=S.settle (i:=3) rfl
 replace S:St w0 H0 _ cp [.box ay 25 [c,a6],bh,.box b7 25 [(.slice none 0 0),(.slice none 0 0)],.box b3 36 [au,av,aw,(str b.fReason),ax,(str b.fBody),(int b.fRequested),(int b.fReceived)]]:=S
 have b9:At cp ⟨b5,0,none⟩ [a3]:=⟨_,_,rfl,c4,[],by simp⟩
 have bu:=MR.mono bu a8
 have d:=d.up a8
 have ai:=ai.up a8
 have p:=p.up a8
 have q:=q.up a8
 have t:=t.up a8
 have u:=u.up a8
 obtain ⟨ca,a1,c5,_,S⟩:=S.settle (i:=3) rfl
 replace S:St w0 H0 _ ca [.box ay 25 [c,a6],bh,.box b7 25 [(.slice none 0 0),(.slice none 0 0)]]:=S
 have ao:At ca ⟨b3,0,none⟩ [au,av,aw,(str b.fReason),ax,(str b.fBody),(int b.fRequested),(int b.fReceived)]:=⟨_,_,rfl,c5,[],by simp⟩
 have b9:=At.mono b9 a1 (by simp)
 have ai:=ai.up a1
 have bu:=MR.mono bu a1
 have d:=d.up a1
 have p:=p.up a1
 have q:=q.up a1
 have t:=t.up a1
 have u:=u.up a1
 refine WL.w (R.mkFunc (vs:=[(.pointer (some ⟨b5,0,none⟩)),(.pointer (some ⟨b3,0,none⟩))]) (mapC c3 (mapC b8 mapN)))<|B h fun dx c6 h=>?_
 have S:=S.front 1 rfl
 replace S:St w0 H0 _ ca (bh :: [.box ay 25 [c,a6],.box b7 25 [(.slice none 0 0),(.slice none 0 0)]]):=S
 refine W.callS rfl (zCi co (fun x0=>zFg x0 a2 b) S bu (fun hle hw x0=>fun c7 c8 c9 da r h=>zKU hw x0 a2 b c7 c8 c9 da (At.mono b9 hle (by simp)) (ai.up hle) (At.mono ao hle (by simp)) (p.up hle) (q.up hle) (t.up hle) (u.up hle) h) c6) ?_
 rintro db dy dc dz bi S ⟨dd,rfl,x⟩
 replace S:St w0 H0 _ dc [dd,.box ay 25 [c,a6],.box b7 25 [(.slice none 0 0),(.slice none 0 0)]]:=S
 have ao:=At.mono ao bi (by simp)
 have p:=p.up bi
 have q:=q.up bi
 have t:=t.up bi
 have u:=u.up bi
 have d:=d.up bi
 refine Fb' aa ?_
 refine W.storeMR (α:=GEntry) (i:=1) [c,db] S x rfl rfl rfl lay23 (Nat.le_of_ble_eq_true rfl) rfl ?_
 intro d0 S
 refine We<|Ws<|WP.draw kr 8 rfl (bm 8 0) rfl ?_
 have S:=S.drew
 refine At_ 0 8 1 rfl (fun _=>(R.fieldB aa zFh)) ?_
 refine WA.two (i:=1) (j:=2) (bm 8 3) (bm 8 5) rfl rfl kr rfl rfl ?_ ?_
 ·refine Lo 1 S<|We<|WA.one (i:=2) (bm 8 7) rfl kr rfl ?_
  refine WL.w (R.loadHN (vs:=[au,av,aw,(str b.fReason),ax,(str b.fBody),(int b.fRequested),(int b.fReceived)]) S b8 ao lay36 rfl rfl)<|We<|WA.one (i:=3) (bm 8 15) rfl kr rfl<|B h fun z bv h=>W.call S rfl (zCf S.holds b p q t u bv) ?_
  rintro cq cr ct aj S ⟨bj,bk,bn,bo,rfl,ad,ae,af,ah⟩
  have ao:=At.mono ao aj (by simp)
  have p:=p.up aj
  have q:=q.up aj
  have t:=t.up aj
  have u:=u.up aj
  have x:=MR.mono x aj
  have d:=d.up aj
  refine We<|WA.one (i:=4) (bm 8 31) rfl kr rfl<|W.bslice (α:=GEntry) [(agg [bj,bk,bn,(str z.fReason),bo,(str z.fBody),(int z.fRequested),(int z.fReceived)])] ([z]:List GEntry) S el23 rfl rfl rfl (by decide) (Go.Eng.encS ⟨rfl,_,_,_,_,rfl,ad,ae,af,ah⟩ enc0) ?_
  intro a9 cc cd o al S
  have ao:=At.mono ao o (by simp)
  have p:=p.up o
  have q:=q.up o
  have t:=t.up o
  have u:=u.up o
  have x:=MR.mono x o
  have ad:=ad.up o
  have ae:=ae.up o
  have af:=af.up o
  have ah:=ah.up o
  have d:=d.up o
  refine We<|WA.one (i:=5) (bm 8 63) rfl kr rfl<|B h fun ce ba h=>W.appM (α:=GEntry) (i:=1) S el23 rfl rfl rfl x al ba ?_
  intro ap cf cg aq S
  refine We ?_
  refine At_ 6 8 127 rfl (fun _=>(R.fieldB aa zFh))<|WA.one (i:=7) (bm 8 255) rfl kr rfl ?_
  refine W.storeMR (α:=GEntry) (i:=2) [c,ap] S aq rfl rfl rfl lay23 (Nat.le_of_ble_eq_true rfl) rfl ?_
  intro ch S
  refine We<|WA.done kr<|Ws<|Wg<|Fb' aa ?_
  refine Lo 2 S<|Fb' aa ?_
  refine Lo 2 S ?_
  obtain ⟨bb,k,ar,S⟩:=S.settleM (i:=1) rfl aq
  replace S:St w0 H0 _ bb [.row a9 36 8 ([z]:List GEntry).length,.box ay 25 [c,ap],.box b7 25 [(.slice none 0 0),(.slice none 0 0)]]:=S
  have ao:=At.mono ao k (by simp)
  have p:=p.up k
  have q:=q.up k
  have t:=t.up k
  have u:=u.up k
  have x:=MR.mono x k
  have ad:=ad.up k
  have ae:=ae.up k
  have af:=af.up k
  have ah:=ah.up k
  have al:=al.up k
  have d:=d.up k
  refine Nq ar<|M' bx<|Nj<|Lh<|Nj<|B h fun ci bc h=>W.subLo (α:=GEntry) ar rfl rfl el23 bc ?_
  intro ab ak
  refine Fb' aa ?_
  refine W.storeSl (α:=GEntry) (i:=1) [c,ab] S ak rfl rfl rfl lay23 (Nat.le_of_ble_eq_true rfl) rfl ?_
  intro cj S
  refine We<|Ws<|Wg ?_
  refine WL.w (R.loadBN (i:=1) (vs:=[c,ab]) S aa rfl lay25 rfl rfl) ?_
  refine W.store (i:=2) [c,ab] S a0 rfl rfl lay25 rfl (AllOne.all (l:=[c,ab]) (.cons (Sl.oneC d) (.cons (Sl.oneC ak) .nil))) (Nat.le_of_ble_eq_true rfl) rfl ?_
  intro ck S
  refine We ?_
  cases h
  refine WP.ret (Out.one rfl S (Res.cellB (i:=2) (cs:=[c,ab]) S a0 rfl lay25 rfl rfl) ?_)
  exact ⟨_,_,rfl,d,ak⟩
 refine WL.w (R.loadHN (vs:=[au,av,aw,(str b.fReason),ax,(str b.fBody),(int b.fRequested),(int b.fReceived)]) S b8 ao lay36 rfl rfl)<|We ?_
 refine WA.two (i:=1) (j:=3) (bm 8 7) (bm 8 13) rfl rfl kr rfl rfl ?_ ?_
 ·refine Lo 1 S<|We<|WA.one (i:=3) (bm 8 15) rfl kr rfl<|B h fun z bv h=>W.call S rfl (zCf S.holds b p q t u bv) ?_
  rintro cq cr ct aj S ⟨bj,bk,bn,bo,rfl,ad,ae,af,ah⟩
  have p:=p.up aj
  have q:=q.up aj
  have t:=t.up aj
  have u:=u.up aj
  have x:=MR.mono x aj
  have d:=d.up aj
  refine We<|WA.one (i:=4) (bm 8 31) rfl kr rfl<|W.bslice (α:=GEntry) [(agg [bj,bk,bn,(str z.fReason),bo,(str z.fBody),(int z.fRequested),(int z.fReceived)])] ([z]:List GEntry) S el23 rfl rfl rfl (by decide) (Go.Eng.encS ⟨rfl,_,_,_,_,rfl,ad,ae,af,ah⟩ enc0) ?_
  intro a9 cc cd o al S
  have p:=p.up o
  have q:=q.up o
  have t:=t.up o
  have u:=u.up o
  have x:=MR.mono x o
  have ad:=ad.up o
  have ae:=ae.up o
  have af:=af.up o
  have ah:=ah.up o
  have d:=d.up o
  refine We<|WA.one (i:=5) (bm 8 63) rfl kr rfl<|B h fun ce ba h=>W.appM (α:=GEntry) (i:=1) S el23 rfl rfl rfl x al ba ?_
  intro ap cf cg aq S
  refine We ?_
  refine At_ 6 8 127 rfl (fun _=>(R.fieldB aa zFh))<|WA.one (i:=7) (bm 8 255) rfl kr rfl ?_
  refine W.storeMR (α:=GEntry) (i:=2) [c,ap] S aq rfl rfl rfl lay23 (Nat.le_of_ble_eq_true rfl) rfl ?_
  intro ch S
  refine We<|WA.done kr<|Ws<|Wg<|Fb' aa ?_
  refine Lo 2 S<|Fb' aa ?_
  refine Lo 2 S ?_
  obtain ⟨bb,k,ar,S⟩:=S.settleM (i:=1) rfl aq
  replace S:St w0 H0 _ bb [.row a9 36 8 ([z]:List GEntry).length,.box ay 25 [c,ap],.box b7 25 [(.slice none 0 0),(.slice none 0 0)]]:=S
  have p:=p.up k
  have q:=q.up k
  have t:=t.up k
  have u:=u.up k
  have x:=MR.mono x k
  have ad:=ad.up k
  have ae:=ae.up k
  have af:=af.up k
  have ah:=ah.up k
  have al:=al.up k
  have d:=d.up k
  refine Nq ar<|M' bx<|Nj<|Lh<|Nj<|B h fun ci bc h=>W.subLo (α:=GEntry) ar rfl rfl el23 bc ?_
  intro ab ak
  refine Fb' aa ?_
  refine W.storeSl (α:=GEntry) (i:=1) [c,ab] S ak rfl rfl rfl lay23 (Nat.le_of_ble_eq_true rfl) rfl ?_
  intro cj S
  refine We<|Ws<|Wg ?_
  refine WL.w (R.loadBN (i:=1) (vs:=[c,ab]) S aa rfl lay25 rfl rfl) ?_
  refine W.store (i:=2) [c,ab] S a0 rfl rfl lay25 rfl (AllOne.all (l:=[c,ab]) (.cons (Sl.oneC d) (.cons (Sl.oneC ak) .nil))) (Nat.le_of_ble_eq_true rfl) rfl ?_
  intro ck S
  refine We ?_
  cases h
  refine WP.ret (Out.one rfl S (Res.cellB (i:=2) (cs:=[c,ab]) S a0 rfl lay25 rfl rfl) ?_)
  exact ⟨_,_,rfl,d,ak⟩
 refine B h fun z bv h=>W.call S rfl (zCf S.holds b p q t u bv) ?_
 rintro cq cr ct aj S ⟨bj,bk,bn,bo,rfl,ad,ae,af,ah⟩
 have x:=MR.mono x aj
 have d:=d.up aj
 refine We ?_
 refine WA.two (i:=1) (j:=4) (bm 8 15) (bm 8 29) rfl rfl kr rfl rfl ?_ ?_
 ·refine Lo 1 S<|We<|WA.one (i:=4) (bm 8 31) rfl kr rfl<|W.bslice (α:=GEntry) [(agg [bj,bk,bn,(str z.fReason),bo,(str z.fBody),(int z.fRequested),(int z.fReceived)])] ([z]:List GEntry) S el23 rfl rfl rfl (by decide) (Go.Eng.encS ⟨rfl,_,_,_,_,rfl,ad,ae,af,ah⟩ enc0) ?_
  intro a9 cc cd o al S
  have x:=MR.mono x o
  have ad:=ad.up o
  have ae:=ae.up o
  have af:=af.up o
  have ah:=ah.up o
  have d:=d.up o
  refine We<|WA.one (i:=5) (bm 8 63) rfl kr rfl<|B h fun ce ba h=>W.appM (α:=GEntry) (i:=1) S el23 rfl rfl rfl x al ba ?_
  intro ap cf cg aq S
  refine We ?_
  refine At_ 6 8 127 rfl (fun _=>(R.fieldB aa zFh))<|WA.one (i:=7) (bm 8 255) rfl kr rfl ?_
  refine W.storeMR (α:=GEntry) (i:=2) [c,ap] S aq rfl rfl rfl lay23 (Nat.le_of_ble_eq_true rfl) rfl ?_
  intro ch S
  refine We<|WA.done kr<|Ws<|Wg<|Fb' aa ?_
  refine Lo 2 S<|Fb' aa ?_
  refine Lo 2 S ?_
  obtain ⟨bb,k,ar,S⟩:=S.settleM (i:=1) rfl aq
  replace S:St w0 H0 _ bb [.row a9 36 8 ([z]:List GEntry).length,.box ay 25 [c,ap],.box b7 25 [(.slice none 0 0),(.slice none 0 0)]]:=S
  have x:=MR.mono x k
  have ad:=ad.up k
  have ae:=ae.up k
  have af:=af.up k
  have ah:=ah.up k
  have al:=al.up k
  have d:=d.up k
  refine Nq ar<|M' bx<|Nj<|Lh<|Nj<|B h fun ci bc h=>W.subLo (α:=GEntry) ar rfl rfl el23 bc ?_
  intro ab ak
  refine Fb' aa ?_
  refine W.storeSl (α:=GEntry) (i:=1) [c,ab] S ak rfl rfl rfl lay23 (Nat.le_of_ble_eq_true rfl) rfl ?_
  intro cj S
  refine We<|Ws<|Wg ?_
  refine WL.w (R.loadBN (i:=1) (vs:=[c,ab]) S aa rfl lay25 rfl rfl) ?_
  refine W.store (i:=2) [c,ab] S a0 rfl rfl lay25 rfl (AllOne.all (l:=[c,ab]) (.cons (Sl.oneC d) (.cons (Sl.oneC ak) .nil))) (Nat.le_of_ble_eq_true rfl) rfl ?_
  intro ck S
  refine We ?_
  cases h
  refine WP.ret (Out.one rfl S (Res.cellB (i:=2) (cs:=[c,ab]) S a0 rfl lay25 rfl rfl) ?_)
  exact ⟨_,_,rfl,d,ak⟩
 refine W.bslice (α:=GEntry) [(agg [bj,bk,bn,(str z.fReason),bo,(str z.fBody),(int z.fRequested),(int z.fReceived)])] ([z]:List GEntry) S el23 rfl rfl rfl (by decide) (Go.Eng.encS ⟨rfl,_,_,_,_,rfl,ad,ae,af,ah⟩ enc0) ?_
 intro a9 cc cd o al S
 have x:=MR.mono x o
 have d:=d.up o
 refine We<|WA.one (i:=1) (bm 8 31) rfl kr rfl ?_
 refine Lo 2 S<|We<|WA.one (i:=5) (bm 8 63) rfl kr rfl<|B h fun ce ba h=>W.appM (α:=GEntry) (i:=1) S el23 rfl rfl rfl x al ba ?_
 intro ap cf cg aq S
 refine We ?_
 refine At_ 6 8 127 rfl (fun _=>(R.fieldB aa zFh))<|WA.one (i:=7) (bm 8 255) rfl kr rfl ?_
 refine W.storeMR (α:=GEntry) (i:=2) [c,ap] S aq rfl rfl rfl lay23 (Nat.le_of_ble_eq_true rfl) rfl ?_
 intro ch S
 refine We<|WA.done kr<|Ws<|Wg<|Fb' aa ?_
 refine Lo 2 S<|Fb' aa ?_
 refine Lo 2 S ?_
 obtain ⟨bb,k,ar,S⟩:=S.settleM (i:=1) rfl aq
 replace S:St w0 H0 _ bb [.row a9 36 8 ([z]:List GEntry).length,.box ay 25 [c,ap],.box b7 25 [(.slice none 0 0),(.slice none 0 0)]]:=S
 have x:=MR.mono x k
 have d:=d.up k
 refine Nq ar<|M' bx<|Nj<|Lh<|Nj<|B h fun ci bc h=>W.subLo (α:=GEntry) ar rfl rfl el23 bc ?_
 intro ab ak
 refine Fb' aa ?_
 refine W.storeSl (α:=GEntry) (i:=1) [c,ab] S ak rfl rfl rfl lay23 (Nat.le_of_ble_eq_true rfl) rfl ?_
 intro cj S
 refine We<|Ws<|Wg ?_
 refine WL.w (R.loadBN (i:=1) (vs:=[c,ab]) S aa rfl lay25 rfl rfl) ?_
 refine W.store (i:=2) [c,ab] S a0 rfl rfl lay25 rfl (AllOne.all (l:=[c,ab]) (.cons (Sl.oneC d) (.cons (Sl.oneC ak) .nil))) (Nat.le_of_ble_eq_true rfl) rfl ?_
 intro ck S
 refine We ?_
 cases h
 refine WP.ret (Out.one rfl S (Res.cellB (i:=2) (cs:=[c,ab]) S a0 rfl lay25 rfl rfl) ?_)
 exact ⟨_,_,rfl,d,ak⟩
theorem zJr {x:World} {i:Hp} (hw:Holds x i) (b:GEntry) {q:Value} {k:Value} {t:Value} {u:Value} (o:Sl i q b.fKeys) (j:Sl i k b.fVary) (p:Sl i t b.fSnapshot) (v:Sl i u b.fFields) {r:Bool} (h:zF2 b=some r) :
  Cb Tryz.prog 61 [(agg [q,k,t,(str b.fReason),u,(str b.fBody),(int b.fRequested),(int b.fReceived)])] x i r:=by
 refine CM 36 Tryz.func61 hw fun S=>?_
 refine Ws<|Wg ?_
 refine W.box [q,k,t,(str b.fReason),u,(str b.fBody),(int b.fRequested),(int b.fReceived)] S rfl rfl ?_
 intro b1 w2 S
 refine A<|We<|Ws<|Ws<|Wg<|Fb ?_
 refine Lo 0 S<|Nq o<|Lc<|M ?_
 refine WL.grp 8 [9,10,11,12,13,14,15] 16 (boo ((decide (0<(b.fKeys.length:Int)))||((b.fVary.length:Int) !=(b.fSnapshot.length:Int)))) ?_ ?_
 ·rcases boolE (decide (0<(b.fKeys.length:Int))) with c | c
  ·refine Gn c<|Gn c<|Gn c<|Gn c<|Gn c<|Gn c<|Gn c<|Pt c ?_
   exact We ⟨(orT c),ag,rfl⟩
  refine Gy c<|Fb<|Gy c ?_
  refine Lo 0 S<|Gy c<|Nq j<|Gy c<|Fb<|Gy c ?_
  refine Lo 0 S<|Gy c<|Nq p ?_
  refine Gy c<|Lf<|Pf c ?_
  exact We ⟨(orF c),ag,rfl⟩
 intro us
 refine We ?_
 rcases condE h with ⟨ac,h⟩ | ⟨ac,h⟩
 ·refine CT ac<|Ws<|Wg<|A<|We ?_
  exact WP.ret (Rb h S)
 refine CF ac<|Wk<|Ws<|Ws<|Wg<|A<|We<|B h fun ad al h=>WP.cut (fun f w=>match ad with | .inl _=>∃ (ai:Hp),St x i w ai [] | .inr _=>False) ?_ ?_
 ·refine Wb ?_
  refine WP.loopM (zC4 b) (fun s f w=>match s with | aj=>∃ (l:Hp),f 1=(ptr b1 0)∧f 3=(int aj)∧Sl l q b.fKeys∧Sl l k b.fVary∧Sl l t b.fSnapshot∧Sl l u b.fFields∧St x i w l [.box b1 36 [q,k,t,(str b.fReason),u,(str b.fBody),(int b.fRequested),(int b.fReceived)]]) 1 ad al ?_ ?_
  ·exact ⟨i,rfl,rfl,o,j,p,v,S⟩
  intro aj f w hI aw d ak
  obtain ⟨l,z,h9,o,j,p,v,S⟩:=hI
  refine Ws<|Ws<|Wg<|M' h9<|Fb' z ?_
  refine Lo 0 S<|Nq j<|La<|We ?_
  rcases condE d with ⟨ae,d⟩ | ⟨ae,d⟩
  ·refine CT ae<|Wk<|Ws<|Wb<|Ws<|WP.quiet S kr kr<|QFb' z ?_
   refine QB 0 k<|QM' h9<|QLh<|B d fun am an d=>WQ.idx (α:=Str) j rfl rfl el34 an ?_
   rintro ax _ ao rfl
   refine QH (str am) ao<|QFb' z ?_
   refine QB 0 k<|QM' h9<|B d fun ap aq d=>WQ.idx (α:=Str) j rfl rfl el34 aq ?_
   rintro ay _ ar rfl
   refine QH (str ap) ar<|QNf<|WQ.nil ?_
   intro az au ab S
   have j:=j.up ab
   have o:=o.up ab
   have p:=p.up ab
   have v:=v.up ab
   rcases condE d with ⟨af,d⟩ | ⟨af,d⟩
   ·refine CT af<|Ws<|Wg<|A<|We ?_
    cases d
    obtain rfl:=ak
    exact WP.ret (Rb h S)
   refine CF af<|Wk<|Wg<|M' h9<|Lg<|A<|We ?_
   cases d
   exact ⟨rfl,⟨au,z,rfl,o,j,p,v,S⟩⟩
  refine CF ae<|Wx ?_
  cases d
  obtain rfl:=ak
  exact ⟨l,(S.drop _ (.cons _ .slnil))⟩
 intro f w hM
 rcases ad with _ | e
 ·obtain ⟨ai,S⟩:=hM
  refine Ws<|Wg<|A<|We ?_
  exact WP.ret (Rb h S)
 exact hM.elim
theorem zKV {w0:World} {q:Hp} (hw:Holds w0 q) (x:(List GAxis)) (b:GEntry) {t:Value} {u:Value} {aj:Value} {ak:Value} {al:Value} (o:Sl q t x) (j:Sl q u b.fKeys) (bf:Sl q aj b.fVary) (bg:Sl q ak b.fSnapshot) (bz:Sl q al b.fFields) {r:Bool} (h:zGm x b=some r) :
  Cb Tryz.prog 62 [t,(agg [u,aj,ak,(str b.fReason),al,(str b.fBody),(int b.fRequested),(int b.fReceived)])] w0 q r:=by
 refine CM 58 Tryz.func62 hw fun S=>?_
 refine Ws<|Wg ?_
 refine W.box [u,aj,ak,(str b.fReason),al,(str b.fBody),(int b.fRequested),(int b.fReceived)] S rfl rfl ?_
 intro b1 w2 S
 refine A<|We<|Ws<|Ws<|Wg<|Fb ?_
 refine Lo 0 S<|Nq j<|La<|M ?_
 refine WL.grp 5 [14,15,16,17] 18 (boo ((decide ((b.fKeys.length:Int)<1))||(decide (64<(b.fKeys.length:Int))))) ?_ ?_
 ·rcases boolE (decide ((b.fKeys.length:Int)<1)) with p | p
  ·refine Gn p<|Gn p<|Gn p<|Gn p<|Pt p ?_
   exact We ⟨(orT p),ag,rfl⟩
  refine Gy p<|Fb<|Gy p ?_
  refine Lo 0 S<|Gy p<|Nq j<|Gy p<|Lc<|Pf p ?_
  exact We ⟨(orF p),ag,rfl⟩
 intro us
 refine M ?_
 refine WL.grp 9 [20,21,22,23,24,25,26,27] 28 (boo (((decide ((b.fKeys.length:Int)<1))||(decide (64<(b.fKeys.length:Int))))||(decide (0<(wr ((b.fVary.length:Int)+(b.fSnapshot.length:Int))))))) ?_ ?_
 ·rcases boolE ((decide ((b.fKeys.length:Int)<1))||(decide (64<(b.fKeys.length:Int)))) with c | c
  ·refine Gn c<|Gn c<|Gn c<|Gn c<|Gn c<|Gn c<|Gn c<|Gn c<|Pt c ?_
   exact We ⟨(orT c),ag,rfl⟩
  refine Gy c<|Fb<|Gy c ?_
  refine Lo 0 S<|Gy c<|Nq bf<|Gy c<|Fb<|Gy c ?_
  refine Lo 0 S<|Gy c<|Nq bg ?_
  refine Gy c<|Lg<|Gy c<|Lc<|Pf c ?_
  exact We ⟨(orF c),ag,rfl⟩
 intro us
 refine We ?_
 rcases condE h with ⟨am,h⟩ | ⟨am,h⟩
 ·refine CT am<|Ws<|Wg<|A<|We ?_
  exact WP.ret (Rb h S)
 refine CF am<|Wk<|Ws<|Ws<|Wg<|Fb ?_
 refine Lo 0 S<|Nq j<|M<|We<|B h fun an bh h=>WP.cut (fun f w=>match an with | .inl _=>∃ (az:Hp),St w0 q w az [] | .inr _=>False) ?_ ?_
 ·refine Wb ?_
  refine WP.loopM (zCh x b) (fun s f w=>match s with | ae=>∃ (H8:Hp),f 0=t∧f 30=u∧f 31=(int (b.fKeys.length:Int))∧f 32=(int ae)∧Sl H8 t x∧Sl H8 u b.fKeys∧St w0 q w H8 []) 0 an bh ?_ ?_
  ·exact ⟨q,rfl,rfl,rfl,rfl,o,j,(S.drop _ (.cons _ .slnil))⟩
  intro ae f w hI b3 k ao
  obtain ⟨H8,h9,a0,a1,aq,o,j,S⟩:=hI
  refine Ws<|Wg<|La' aq a1<|We<|Ws ?_
  rcases condE k with ⟨ar,k⟩ | ⟨ar,k⟩
  ·refine CT ar<|Wk<|Ws<|Wb<|Ws<|Wg<|B k fun a2 bi k=>W.idx (α:=(List Str)) j a0 aq el33 bi ?_
   rintro b4 _ bj ⟨a3,rfl,z⟩
   refine Lq S bj<|A<|We<|Ws<|Ws<|Wg<|M<|Nq z<|M' h9<|Nq o<|Lf<|We ?_
   rcases condE k with ⟨au,k⟩ | ⟨au,k⟩
   ·refine CT au<|Ws<|Wg<|A<|We ?_
    cases k
    obtain rfl:=ao
    exact WP.ret (Rb h S)
   refine CF au<|Wk<|Ws<|Wg<|M' h9<|Nq o<|M<|We<|B k fun av bk k=>WP.cut (fun f w=>match av with | .inl _=>∃ (ad:Hp),f 0=t∧f 30=u∧f 31=(int (b.fKeys.length:Int))∧f 32=(int ae)∧Sl ad t x∧Sl ad u b.fKeys∧St w0 q w ad [] | .inr _=>False) ?_ ?_
   ·refine Wb ?_
    refine WP.loopM (zCA x a2) (fun s f w=>match s with | a4=>∃ (ac:Hp),f 0=t∧f 6=a3∧f 30=u∧f 31=(int (b.fKeys.length:Int))∧f 32=(int ae)∧f 41=t∧f 42=(int (x.length:Int))∧f 43=(int a4)∧Sl ac t x∧Sl ac a3 a2∧Sl ac u b.fKeys∧St w0 q w ac []) 0 av bk ?_ ?_
    ·exact ⟨H8,h9,rfl,a0,a1,aq,rfl,rfl,rfl,o,z,j,S⟩
    intro a4 f w hI b5 d a5
    obtain ⟨ac,a6,a7,a8,a9,ba,bb,bc,af,o,z,j,S⟩:=hI
    refine Ws<|Wg<|La' af bc<|We<|Ws ?_
    rcases condE d with ⟨aw,d⟩ | ⟨aw,d⟩
    ·refine CT aw<|Wk<|Ws<|Wb<|Ws<|Wg<|M' af<|B d fun ah bn d=>W.idx (α:=GAxis) o bb af el22 bn ?_
     rintro b6 _ bo ⟨ai,rfl,bd⟩
     refine WL.w (R.loadHN (vs:=[(str ah.fName),ai]) S rfl bo lay68 rfl rfl) ?_
     refine W.alloc [(str []),(.slice none 0 0)] S zer68 ?_
     intro b7 b8 S
     refine A ?_
     refine W.store (i:=0) [(str ah.fName),ai] S rfl rfl rfl lay68 rfl (AllOne.all (l:=[(str ah.fName),ai]) (.cons rfl (.cons (Sl.oneC bd) .nil))) (Nat.le_of_ble_eq_true rfl) rfl ?_
     intro b9 S
     refine We<|Ws<|WP.quiet S kr kr<|QFb ?_
     refine QB 0 ai<|QM' a7<|QM<|B d fun be bp d=>WQ.idx (α:=Str) z rfl rfl el34 bp ?_
     rintro ca _ bq rfl
     refine QH (str be) bq<|B d fun br bs d=>WQ.call (v:=boo br) rfl (fun w H' hq S=>zCC S.holds ah.fValues be (bd.up hq) bs)<|QNo<|WQ.nil ?_
     intro cb bt ax S
     have o:=o.up ax
     have z:=z.up ax
     have j:=j.up ax
     rcases condE d with ⟨ay,d⟩ | ⟨ay,d⟩
     ·refine CT ay<|Ws<|Wg<|A<|We ?_
      cases d
      obtain rfl:=a5
      cases k
      obtain rfl:=ao
      exact WP.ret (Rb h S)
     refine CF ay<|Wk<|Wg<|Lg' af rfl<|M<|We ?_
     cases d
     exact ⟨rfl,⟨bt,a6,a7,a8,a9,ba,bb,bc,rfl,o,z,j,(S.drop _ (.cons _ .slnil))⟩⟩
    refine CF aw<|Wx ?_
    cases d
    obtain rfl:=a5
    exact ⟨ac,a6,a8,a9,ba,o,j,S⟩
   intro f w hM
   rcases av with _ | e
   ·obtain ⟨ad,bu,bv,bw,bx,o,j,S⟩:=hM
    refine Wg<|Lg' bx rfl<|M<|We ?_
    cases k
    exact ⟨rfl,⟨ad,bu,bv,bw,rfl,o,j,S⟩⟩
   exact hM.elim
  refine CF ar<|Wx ?_
  cases k
  obtain rfl:=ao
  exact ⟨H8,S⟩
 intro f w hM
 rcases an with _ | e
 ·obtain ⟨az,S⟩:=hM
  refine Ws<|Wg<|A<|We ?_
  exact WP.ret (Rb h S)
 exact hM.elim
theorem zJX {v:World} {c:Hp} (hw:Holds v c) (b:GEntry) (f:GTable) (d:GEntry) {j:Value} {k:Value} {l:Value} {o:Value} {x:Value} {z:Value} {p:Value} {q:Value} {t:Value} {u:Value} {aa:Addr} {ab:Addr} (ac:Sl c j b.fKeys) (ad:Sl c k b.fVary) (ae:Sl c l b.fSnapshot) (af:Sl c o b.fFields) (ah:At c aa [x,z]) (ai:Sl c x f.fAxes) (aq:Sl c z f.fEntries) (aj:At c ab [p,q,t,(str d.fReason),u,(str d.fBody),(int d.fRequested),(int d.fReceived)]) (ak:Sl c p d.fKeys) (al:Sl c q d.fVary) (am:Sl c t d.fSnapshot) (an:Sl c u d.fFields) {r:Bool} (h:zFJ b f d=some r) :
  Cb Tryz.prog 63 [(agg [j,k,l,(str b.fReason),o,(str b.fBody),(int b.fRequested),(int b.fReceived)]),(.pointer (some aa)),(.pointer (some ab))] v c r:=by
 refine CM 10 Tryz.func63 hw fun S=>?_
 refine Ws<|Wg ?_
 refine W.box [j,k,l,(str b.fReason),o,(str b.fBody),(int b.fRequested),(int b.fReceived)] S rfl rfl ?_
 intro b1 w2 S
 refine A<|We<|Ws<|Wg<|Fc ?_
 have ao:=At.add ah 0 (by simp)
 refine Lq S ao ?_
 refine WL.w (R.loadHN (vs:=[p,q,t,(str d.fReason),u,(str d.fBody),(int d.fRequested),(int d.fReceived)]) S rfl aj lay36 rfl rfl) ?_
 refine WL.w (R.loadBN (i:=0) (vs:=[j,k,l,(str b.fReason),o,(str b.fBody),(int b.fRequested),(int b.fReceived)]) S rfl rfl lay36 rfl rfl)<|B h fun r4 ap h=>W.call S rfl (zGR S.holds f.fAxes d b ai ak al am an ac ad ae af ap) ?_
 rintro v5 w6 H7 az S rfl
 refine A<|We ?_
 exact WP.ret (Rb h S)
theorem zKc {w0:World} {q:Hp} (hw:Holds w0 q) (t:GTable) (ax:Int) {ae:Value} {ad:Value} (c:Sl q ae t.fAxes) (d:Sl q ad t.fEntries) {r:Bool} (h:zFb t ax=some r) :
  Cb Tryz.prog 27 [(agg [ae,ad]),(int ax)] w0 q r:=by
 refine CM 54 Tryz.func27 hw fun S=>?_
 refine Ws<|Wg ?_
 refine W.box [ae,ad] S rfl rfl ?_
 intro b1 w2 S
 refine A<|We<|Ws<|Ws<|Wg<|Fb ?_
 refine Lo 0 S<|Nq d<|M<|Lc<|M<|B h fun bh af h=>WL.grpw 11 [13,14,15,16,17,18,19,20,21,22] 23 (boo bh) (fun w=>∃ H':Hp,q.le H'∧St w0 q w H' [.box b1 25 [ae,ad]]) ?_ ?_
 ·rcases boolE (decide (ax<(t.fEntries.length:Int))) with o | o
  ·replace af:=condT af o
   refine Gn o<|Gn o<|Gn o<|Gn o<|Gn o<|WL.gund rfl rfl<|WL.gund rfl rfl<|WL.gund rfl rfl<|WL.gund rfl rfl<|Gn o<|Pt o ?_
   exact We ⟨(ob af),ag,⟨q,lr,S⟩⟩
  replace af:=condF af o
  refine Gy o<|Fb<|Gy o ?_
  refine Lo 0 S<|Gy o<|Nq c<|Gy o<|Lc<|Gy o<|M<|B af fun bi ah af=>WL.grpw 5 [18,19,20,21] 22 (boo bi) (fun w=>∃ H':Hp,q.le H'∧St w0 q w H' [.box b1 25 [ae,ad]]) ?_ ?_
  ·rcases boolE (decide (0<(t.fAxes.length:Int))) with u | u
   ·replace ah:=condT ah u
    refine Gy u<|Fb<|Gy u ?_
    refine Lo 0 S<|Gy u<|B ah fun r7 bj ah=>W.call S rfl (zCD S.holds t.fAxes c bj) ?_
    rintro v8 w9 bk ay S rfl
    have c:=c.up ay
    have d:=d.up ay
    refine Gy u<|No<|Gy o<|Pt u ?_
    exact We ⟨(ob ah),ag,⟨bk,ay,S⟩⟩
   replace ah:=condF ah u
   refine Gn u<|Gn u<|Gn u<|Gn u<|Gy o<|Pf u ?_
   exact We ⟨(ob ah),ag,⟨q,lr,S⟩⟩
  intro us ci ⟨bn,az,S⟩
  have c:=c.up az
  have d:=d.up az
  refine Pf o ?_
  exact We ⟨(ob af),ag,⟨bn,az,S⟩⟩
 intro us cj ⟨ck,bc,S⟩
 have c:=c.up bc
 have d:=d.up bc
 refine We ?_
 rcases condE h with ⟨a0,h⟩ | ⟨a0,h⟩
 ·refine CT a0<|Ws<|Wg<|A<|We ?_
  exact WP.ret (Rb h S)
 refine CF a0<|Wk<|Ws<|Ws<|Wg<|Fb ?_
 refine Lo 0 S<|Nq d<|M<|We ?_
 obtain ⟨a1,bd,bo,_,S⟩:=S.settle (i:=0) rfl
 replace S:St w0 q _ a1 []:=S
 have p:At a1 ⟨b1,0,none⟩ [ae,ad]:=⟨_,_,rfl,bo,[],by simp⟩
 have c:=c.up bd
 have d:=d.up bd
 refine B h fun a2 bp h=>WP.cut (fun f w=>match a2 with | .inl _=>∃ (be:Hp),St w0 q w be [] | .inr _=>False) ?_ ?_
 ·refine Wb ?_
  refine WP.loopM (zCg t) (fun s f w=>match s with | bf=>∃ (am:Hp),f 2=(.pointer (some ⟨b1,0,none⟩))∧f 25=ad∧f 26=(int (t.fEntries.length:Int))∧f 27=(int bf)∧At am ⟨b1,0,none⟩ [ae,ad]∧Sl am ae t.fAxes∧Sl am ad t.fEntries∧St w0 q w am []) 0 a2 bp ?_ ?_
  ·exact ⟨a1,rfl,rfl,rfl,rfl,p,c,d,S⟩
  intro bf f w hI cl j a3
  obtain ⟨am,an,a4,a5,au,p,c,d,S⟩:=hI
  refine Ws<|Wg<|La' au a5<|We<|Ws ?_
  rcases condE j with ⟨a6,j⟩ | ⟨a6,j⟩
  ·refine CT a6<|Wk<|Ws<|Wb<|Ws<|Wg<|M' au<|B j fun b bq j=>W.idx (α:=GEntry) d a4 au el23 bq ?_
   rintro cm _ br ⟨ao,ap,aq,ar,rfl,v,x,z,aa⟩
   refine WL.w (R.loadHN (vs:=[ao,ap,aq,(str b.fReason),ar,(str b.fBody),(int b.fRequested),(int b.fReceived)]) S rfl br lay36 rfl rfl) ?_
   refine W.alloc [(.slice none 0 0),(.slice none 0 0),(.slice none 0 0),(str []),(.slice none 0 0),(str []),(int 0),(int 0)] S zer36 ?_
   intro bg cn S
   refine A ?_
   refine W.store (i:=0) [ao,ap,aq,(str b.fReason),ar,(str b.fBody),(int b.fRequested),(int b.fReceived)] S rfl rfl rfl lay36 rfl (AllOne.all (l:=[ao,ap,aq,(str b.fReason),ar,(str b.fBody),(int b.fRequested),(int b.fReceived)]) (.cons (Sl.oneC v) (.cons (Sl.oneC x) (.cons (Sl.oneC z) (.cons rfl (.cons (Sl.oneC aa) (.cons rfl (.cons rfl (.cons rfl .nil))))))))) (Nat.le_of_ble_eq_true rfl) rfl ?_
   intro co S
   refine We<|Ws<|Ws<|Wg<|Fc' an ?_
   have bs:=At.add p 0 (by simp)
   refine Lq S bs<|Nq c<|Le<|We ?_
   rcases condE j with ⟨a7,j⟩ | ⟨a7,j⟩
   ·refine CT a7<|Ws<|Ws<|Wg ?_
    refine WL.w (R.loadBN (i:=0) (vs:=[ao,ap,aq,(str b.fReason),ar,(str b.fBody),(int b.fRequested),(int b.fReceived)]) S rfl rfl lay36 rfl rfl)<|B j fun cp bt j=>W.call S rfl (zJr S.holds b v x z aa bt) ?_
    rintro cq cr bu ai S rfl
    have p:=At.mono p ai (by simp)
    have c:=c.up ai
    have d:=d.up ai
    have v:=v.up ai
    have x:=x.up ai
    have z:=z.up ai
    have aa:=aa.up ai
    refine No<|We ?_
    rcases condE j with ⟨a8,j⟩ | ⟨a8,j⟩
    ·refine CT a8<|Ws<|Wg<|A<|We ?_
     cases j
     obtain rfl:=a3
     exact WP.ret (Rb h S)
    refine CF a8<|Wk<|Wx<|Wg<|Lg' au rfl<|M<|We ?_
    cases j
    exact ⟨rfl,⟨bu,an,a4,a5,rfl,p,c,d,(S.drop _ (.cons _ .slnil))⟩⟩
   refine CF a7<|Wk<|Ws<|Wg<|Fc' an ?_
   have bv:=At.add p 0 (by simp)
   refine Lq S bv ?_
   refine WL.w (R.loadBN (i:=0) (vs:=[ao,ap,aq,(str b.fReason),ar,(str b.fBody),(int b.fRequested),(int b.fReceived)]) S rfl rfl lay36 rfl rfl)<|B j fun bw bx j=>W.call S rfl (zKV S.holds t.fAxes b c v x z aa bx) ?_
   rintro cs ct cu aj S rfl
   have p:=At.mono p aj (by simp)
   have c:=c.up aj
   have d:=d.up aj
   have v:=v.up aj
   have x:=x.up aj
   have z:=z.up aj
   have aa:=aa.up aj
   refine No<|M ?_
   obtain ⟨av,ak,bz,_,S⟩:=S.settle (i:=0) rfl
   replace S:St w0 q _ av []:=S
   have b0:At av ⟨bg,0,none⟩ [ao,ap,aq,(str b.fReason),ar,(str b.fBody),(int b.fRequested),(int b.fReceived)]:=⟨_,_,rfl,bz,[],by simp⟩
   have p:=At.mono p ak (by simp)
   have c:=c.up ak
   have d:=d.up ak
   have v:=v.up ak
   have x:=x.up ak
   have z:=z.up ak
   have aa:=aa.up ak
   refine B j fun b2 ab j=>WL.grpw 8 [45,46,47,48,49,50,51] 52 (boo b2) (fun w=>∃ H':Hp,av.le H'∧St w0 q w H' []) ?_ ?_
   ·rcases boolE (!bw) with k | k
    ·replace ab:=condT ab k
     refine Gn k<|Gn k<|Gn k<|Gn k<|Gn k<|Gn k<|Gn k<|Pt k ?_
     exact We ⟨(ob ab),ag,⟨av,lr,S⟩⟩
    replace ab:=condF ab k
    refine Gy k<|Fc' an ?_
    have b3:=At.add p 1 (by simp)
    refine Gy k ?_
    refine Lq S b3<|Gy k<|M<|Gy k<|B ab fun b4 b5 ab=>W.subHi (α:=GEntry) d rfl rfl el23 b5 ?_
    intro cv b6
    refine Gy k ?_
    refine WL.w (R.mkFunc (vs:=[(.pointer (some ⟨b1,0,none⟩)),(.pointer (some ⟨bg,0,none⟩))]) (mapC an (mapC rfl mapN)))<|Gy k<|B ab fun cw b7 ab=>W.call S rfl (zGg S.holds b4 (fun x0=>zFJ x0 t b) b6 (fun hle hw x0=>fun b8 b9 ca cb r h=>zJX hw x0 t b b8 b9 ca cb (At.mono p hle (by simp)) (c.up hle) (d.up hle) (At.mono b0 hle (by simp)) (v.up hle) (x.up hle) (z.up hle) (aa.up hle) h) b7) ?_
    rintro cx cy cc aw S rfl
    have p:=At.mono p aw (by simp)
    have c:=c.up aw
    have d:=d.up aw
    refine Gy k<|Ld<|Pf k ?_
    exact We ⟨(ob ab),ag,⟨cc,aw,S⟩⟩
   intro us cz ⟨cd,ba,S⟩
   have p:=At.mono p ba (by simp)
   have c:=c.up ba
   have d:=d.up ba
   refine We ?_
   rcases condE j with ⟨bb,j⟩ | ⟨bb,j⟩
   ·refine CT bb<|Ws<|Wg<|A<|We ?_
    cases j
    obtain rfl:=a3
    exact WP.ret (Rb h S)
   refine CF bb<|Wk<|Wg<|Lg' au rfl<|M<|We ?_
   cases j
   exact ⟨rfl,⟨cd,an,a4,a5,rfl,p,c,d,S⟩⟩
  refine CF a6<|Wx ?_
  cases j
  obtain rfl:=a3
  exact ⟨am,S⟩
 intro f w hM
 rcases a2 with _ | e
 ·obtain ⟨be,S⟩:=hM
  refine Ws<|Wg<|A<|We ?_
  exact WP.ret (Rb h S)
 exact hM.elim
theorem zH6 {w0:World} {H0:Hp} (hw:Holds w0 H0) {r:Bool} (h:zFY=some r) :
  Cb Tryz.prog 13 [] w0 H0 r:=by
 refine CM 51 Tryz.func13 hw fun S=>?_
 refine Ws<|Wg<|A<|We<|Ws<|Wg<|W.bslice (α:=Str) [(str [101,110]),(str [102,114])] ([[101,110],[102,114]]:List Str) S el34 rfl rfl rfl (by decide) (Go.Eng.encS ⟨rfl,rfl⟩ (Go.Eng.encS ⟨rfl,rfl⟩ enc0)) ?_
 intro u1 w2 H3 bn R5 S
 refine WL.w (R.build [(0,(str [97,99,99,101,112,116,45,108,97,110,103,117,97,103,101])),(1,u1)] [(str [97,99,99,101,112,116,45,108,97,110,103,117,97,103,101]),u1] bp68 zer68 rfl (by obtain ⟨_,_,rfl,_⟩:=R5; rfl))<|W.bslice (α:=GAxis) [(agg [(str [97,99,99,101,112,116,45,108,97,110,103,117,97,103,101]),u1])] ([(⟨[97,99,99,101,112,116,45,108,97,110,103,117,97,103,101],([[101,110],[102,114]]:List Str)⟩:GAxis)]:List GAxis) S el22 rfl rfl rfl (by decide) (Go.Eng.encS ⟨rfl,_,rfl,R5⟩ enc0) ?_
 intro u6 w7 H8 bq c S
 refine A<|We<|Ws<|Wg ?_
 refine WL.w (R.build [] [(.slice none 0 0),(.slice none 0 0)] bp25 zer25 rfl rfl)<|W.bslice (α:=Str) [(str [101,110])] ([[101,110]]:List Str) S el34 rfl rfl rfl (by decide) (Go.Eng.encS ⟨rfl,rfl⟩ enc0) ?_
 intro aq br bs a2 z S
 have c:=c.up a2
 refine W.bslice (α:=Str) [(str [102,114])] ([[102,114]]:List Str) S el34 rfl rfl rfl (by decide) (Go.Eng.encS ⟨rfl,rfl⟩ enc0) ?_
 intro ar bt bu au af S
 have c:=c.up au
 have z:=z.up au
 refine W.bslice (α:=(List Str)) [aq,ar] ([([[101,110]]:List Str),([[102,114]]:List Str)]:List (List Str)) S el33 rfl rfl rfl (by decide) (Go.Eng.encS ⟨(by rw [Sl.cellsOne z]; rfl),_,(by rw [Sl.cellsOne z]),z⟩ (Go.Eng.encS ⟨(by rw [Sl.cellsOne af]; rfl),_,(by rw [Sl.cellsOne af]),af⟩ enc0)) ?_
 intro ah bv bw a3 av S
 have c:=c.up a3
 refine WL.w (R.build [(0,ah),(5,(str [49]))] [ah,(.slice none 0 0),(.slice none 0 0),(str []),(.slice none 0 0),(str [49]),(int 0),(int 0)] bp36 zer36 rfl (by obtain ⟨_,_,rfl,_⟩:=av; rfl))<|M<|B h fun a4 a5 h=>W.call S rfl (zHe S.holds (⟨([]:List GAxis),([]:List GEntry)⟩:GTable) (⟨([([[101,110]]:List Str),([[102,114]]:List Str)]:List (List Str)),([]:List Str),([]:List Str),[],([]:List GField),[49],0,0⟩:GEntry) ([(⟨[97,99,99,101,112,116,45,108,97,110,103,117,97,103,101],([[101,110],[102,114]]:List Str)⟩:GAxis)]:List GAxis) 5 Sl.nil Sl.nil av Sl.nil Sl.nil Sl.nil c a5) ?_
 rintro bx bz b0 a6 S ⟨ai,aj,rfl,t,u⟩
 have c:=c.up a6
 refine W.alloc [(.slice none 0 0),(.slice none 0 0)] S zer25 ?_
 intro a7 b1 S
 refine W.store (i:=0) [ai,aj] S rfl rfl rfl lay25 rfl (AllOne.all (l:=[ai,aj]) (.cons (Sl.oneC t) (.cons (Sl.oneC u) .nil))) (Nat.le_of_ble_eq_true rfl) rfl ?_
 intro b2 S
 refine We<|Ws<|Wg ?_
 refine WL.w (R.loadBN (i:=0) (vs:=[ai,aj]) S rfl rfl lay25 rfl rfl)<|W.bslice (α:=Str) [(str [102,114])] ([[102,114]]:List Str) S el34 rfl rfl rfl (by decide) (Go.Eng.encS ⟨rfl,rfl⟩ enc0) ?_
 intro aw b3 b4 ak al S
 have c:=c.up ak
 have t:=t.up ak
 have u:=u.up ak
 refine W.bslice (α:=(List Str)) [aw] ([([[102,114]]:List Str)]:List (List Str)) S el33 rfl rfl rfl (by decide) (Go.Eng.encS ⟨(by rw [Sl.cellsOne al]; rfl),_,(by rw [Sl.cellsOne al]),al⟩ enc0) ?_
 intro am b5 b6 an ax S
 have c:=c.up an
 have t:=t.up an
 have u:=u.up an
 refine WL.w (R.build [(0,am),(5,(str [50]))] [am,(.slice none 0 0),(.slice none 0 0),(str []),(.slice none 0 0),(str [50]),(int 0),(int 0)] bp36 zer36 rfl (by obtain ⟨_,_,rfl,_⟩:=ax; rfl))<|M<|B h fun ao a8 h=>W.call S rfl (zHe S.holds a4 (⟨([([[102,114]]:List Str)]:List (List Str)),([]:List Str),([]:List Str),[],([]:List GField),[50],0,0⟩:GEntry) ([(⟨[97,99,99,101,112,116,45,108,97,110,103,117,97,103,101],([[101,110],[102,114]]:List Str)⟩:GAxis)]:List GAxis) 5 t u ax Sl.nil Sl.nil Sl.nil c a8) ?_
 rintro b7 b8 b9 ca S ⟨aa,ab,rfl,p,d⟩
 refine W.store (i:=2) [aa,ab] S rfl rfl rfl lay25 rfl (AllOne.all (l:=[aa,ab]) (.cons (Sl.oneC p) (.cons (Sl.oneC d) .nil))) (Nat.le_of_ble_eq_true rfl) rfl ?_
 intro cb S
 refine We<|Ws<|Wg ?_
 refine WL.w (R.loadBN (i:=2) (vs:=[aa,ab]) S rfl rfl lay25 rfl rfl) ?_
 refine WL.w (R.build [(0,(str [65,99,99,101,112,116,45,76,97,110,103,117,97,103,101])),(1,(str [101,110]))] [(str [65,99,99,101,112,116,45,76,97,110,103,117,97,103,101]),(str [101,110])] bp64 zer64 rfl rfl)<|W.bslice (α:=GField) [(agg [(str [65,99,99,101,112,116,45,76,97,110,103,117,97,103,101]),(str [101,110])])] ([(⟨[65,99,99,101,112,116,45,76,97,110,103,117,97,103,101],[101,110]⟩:GField)]:List GField) S el26 rfl rfl rfl (by decide) (Go.Eng.encS ⟨rfl,rfl⟩ enc0) ?_
 intro a9 cc cd ay ba S
 have p:=p.up ay
 have d:=d.up ay
 refine B h fun v bb h=>W.call S rfl (zIb S.holds ao ([(⟨[65,99,99,101,112,116,45,76,97,110,103,117,97,103,101],[101,110]⟩:GField)]:List GField) true p d ba bb) ?_
 rintro ce cf az a0 S rfl
 have p:=p.up a0
 have d:=d.up a0
 refine M ?_
 refine Ex ?_
 refine Ex<|A<|A<|We<|Ws<|Wg<|Fb ?_
 refine Lo 3 S<|Nq d<|Le ?_
 refine M<|B h fun x k h=>WL.grp 7 [33,34,35,36,37,38] 39 (boo x) ?_ ?_
 ·rcases boolE ((ao.fEntries.length:Int)==1) with b | b
  ·replace k:=condT k b
   refine Gy b<|Fb<|Gy b ?_
   refine Lo 3 S<|Gy b<|B k fun cg bc k=>W.idx (α:=GEntry) d rfl rfl el23 bc ?_
   rintro ch _ bd ⟨ci,cj,ck,cl,rfl,cm,cn,co,cp⟩
   refine Gy b<|Fc ?_
   have be:=At.add bd 5 (by simp)
   refine Gy b ?_
   refine Lq S be<|Gy b<|Na<|Pt b ?_
   exact We ⟨(ob k),ag,rfl⟩
  replace k:=condF k b
  refine Gn b<|Gn b<|Gn b<|Gn b<|Gn b<|Gn b<|Pf b ?_
  exact We ⟨(ob k),ag,rfl⟩
 intro us
 refine M ?_
 refine WL.grp 3 [41,42] 43 (boo (x&&(v.1==(-1)))) ?_ ?_
 ·rcases boolE x with f | f
  ·refine Gy f<|M<|Gy f<|Le<|Pt f ?_
   exact We ⟨(andT f),ag,rfl⟩
  refine Gn f<|Gn f<|Pf f ?_
  exact We ⟨(andF f),ag,rfl⟩
 intro us
 refine M ?_
 refine WL.grp 2 [45] 46 (boo ((x&&(v.1==(-1)))&&v.2)) ?_ ?_
 ·rcases boolE (x&&(v.1==(-1))) with q | q
  ·refine Gy q<|M<|Pt q ?_
   exact We ⟨(andT q),ag,rfl⟩
  refine Gn q<|Pf q ?_
  exact We ⟨(andF q),ag,rfl⟩
 intro us
 refine M<|B h fun bf o h=>WL.grpw 3 [48,49] 50 (boo bf) (fun w=>∃ H':Hp,az.le H'∧St w0 H0 w H' [.row a9 64 2 ([(⟨[65,99,99,101,112,116,45,76,97,110,103,117,97,103,101],[101,110]⟩:GField)]:List GField).length,.row am 34 1 ([([[102,114]]:List Str)]:List (List Str)).length,.row aw 9 1 ([[102,114]]:List Str).length,.box a7 25 [aa,ab],.row ah 34 1 ([([[101,110]]:List Str),([[102,114]]:List Str)]:List (List Str)).length,.row ar 9 1 ([[102,114]]:List Str).length,.row aq 9 1 ([[101,110]]:List Str).length,.row u6 68 2 ([(⟨[97,99,99,101,112,116,45,108,97,110,103,117,97,103,101],([[101,110],[102,114]]:List Str)⟩:GAxis)]:List GAxis).length,.row u1 9 1 ([[101,110],[102,114]]:List Str).length]) ?_ ?_
 ·rcases boolE ((x&&(v.1==(-1)))&&v.2) with j | j
  ·replace o:=condT o j
   refine Gy j ?_
   refine WL.w (R.loadBN (i:=3) (vs:=[aa,ab]) S rfl rfl lay25 rfl rfl)<|Gy j<|B o fun cq bg o=>W.call S rfl (zKc S.holds ao 5 p d bg) ?_
   rintro cr cs bh bi S rfl
   refine Pt j ?_
   exact We ⟨(ob o),ag,⟨bh,bi,S⟩⟩
  replace o:=condF o j
  refine Gn j<|Gn j<|Pf j ?_
  exact We ⟨(ob o),ag,⟨az,lr,S⟩⟩
 intro us ct ⟨cu,cv,S⟩
 refine A<|We ?_
 exact WP.ret (Rb h S)
end Go.Proofs

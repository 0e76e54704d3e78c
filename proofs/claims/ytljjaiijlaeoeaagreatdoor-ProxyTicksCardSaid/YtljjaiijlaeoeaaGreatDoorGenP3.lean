/- A part of the proof of laws of the seat: written by program over the translation. -/
import Derived.Test.YtljjaiijlaeoeaaGreatDoorEng38
import Derived.Test.YtljjaiijlaeoeaaGreatDoorEng36
import Derived.Test.YtljjaiijlaeoeaaGreatDoorGenP2
namespace Go.Proofs
set_option maxHeartbeats 4000000
set_option maxRecDepth 10000
open Go.Eng Go.Eng.Pure
set_option linter.unusedVariables false
theorem zG9 {w0:World} {H0:Hp} (hw:Holds w0 H0) (hG:Tryz.Gl w0) (be:Str) {r:(GRequest×Int×Int)} (h:zBj be=some r) :
  Con Tryz.prog 84 [(str be)] w0 H0 (fun H' v=>∃ u1:Value,v=(.tuple ⟨[(agg [(str r.1.fMethod),(str r.1.fTarget),(int r.1.fMinor),u1,(str r.1.fBody)]),(int r.2.1),(int r.2.2)]⟩)∧Sl (α:=GField) H' u1 r.1.fFields):=by
 refine Con.mk (N:=89) Tryz.func84 rfl rfl kr rfl ?_
 have S:=St.start hw
 refine Ws<|Wg ?_
 refine W.alloc [(str []),(str []),(int 0),(.slice none 0 0),(str [])] S zer94 ?_
 intro b1 w2 S
 refine A<|A<|We<|Ws<|Wg<|M ?_
 refine WL.w (R.build [(0,(str be))] [(str be),(int 0),(.slice none 0 0),(.slice none 0 0),(.slice none 0 0)] bp186 zMk rfl rfl) ?_
 refine WL.w (R.build [(0,(agg [(str be),(int 0),(.slice none 0 0),(.slice none 0 0),(.slice none 0 0)]))] [(str be),(int 0),(.slice none 0 0),(.slice none 0 0),(.slice none 0 0),(str []),(str []),(int 0),(.slice none 0 0),(str [])] bp212 zND rfl rfl) ?_
 refine W.box [(str be),(int 0),(.slice none 0 0),(.slice none 0 0),(.slice none 0 0),(str []),(str []),(int 0),(.slice none 0 0),(str [])] S rfl rfl ?_
 intro b3 w4 S
 refine A<|We<|Ws<|Ws<|Wg<|M<|Nn<|Fb<|M ?_
 refine WL.w (R.mkFuncB (bs:=[(ptr b3 0)]) (vs:=[]) rfl rfl) ?_
 obtain ⟨⟨dj,m8,m9,cf,bf,bu,t,u,k,cm,bx⟩,cn,h⟩:=bindE h
 refine W.inl (args:=[(ptr b3 0),(.func (.func 137) [(ptr b3 0)].toArray [].toArray)]) rfl (N':=65) Tryz.func111 rfl rfl kr rfl (WP.inC (fun f w=>∃ (H5:Hp) (d:Value) (ba:Value) (bb:Value) (bk:Value),f 4=(int dj)∧Sl (α:=GField) H5 d cf∧Sl (α:=Str) H5 ba bf∧Sl (α:=Str) H5 bb bu∧Sl (α:=GField) H5 bk cm∧St w0 H0 w H5 [.box b3 212 [(str m8),(int m9),d,ba,bb,(str t),(str u),(int k),bk,(str bx)],.box b1 94 [(str []),(str []),(int 0),(.slice none 0 0),(str [])]]) ?_ ?_)
 ·refine Ws<|Wg<|A<|We<|Ws<|Wg<|A<|We ?_
  obtain ⟨co,cp⟩:∃ v:Value,v=.slice none 0 0:=⟨_,rfl⟩
  have dk:Sl (α:=GField) H0 co []:=by rw [cp]; exact Sl.nil
  replace S:=(show ∀ {w:World},St w0 H0 w H0 [.box b3 212 [(str be),(int 0),(.slice none 0 0),(.slice none 0 0),(.slice none 0 0),(str []),(str []),(int 0),(.slice none 0 0),(str [])],.box b1 94 [(str []),(str []),(int 0),(.slice none 0 0),(str [])]]→St w0 H0 w H0 [.box b3 212 [(str be),(int 0),co,(.slice none 0 0),(.slice none 0 0),(str []),(str []),(int 0),(.slice none 0 0),(str [])],.box b1 94 [(str []),(str []),(int 0),(.slice none 0 0),(str [])]] from fun S=>by rw [cp]; exact S) S
  replace S:=St.addNilV cp S 68 2
  refine B cn fun dl dm cn=>WP.cut (fun _ _=>False) ?_ (fun _ _ h=>h.elim)
  refine Wb ?_
  refine WP.loopM (zA4) (fun s f w=>match s with | (bz,aq,ak,cq,cr,ct,a6,a3,ay,cu,ar)=>∃ (b0:Hp) (bh:Value) (ah:Value) (ai:Value) (aj:Value),f 0=(ptr b3 0)∧f 1=(.func (.func 137) [(ptr b3 0)].toArray [].toArray)∧f 5=(int bz)∧Sl (α:=GField) b0 bh cq∧Sl (α:=Str) b0 ah cr∧Sl (α:=Str) b0 ai ct∧Sl (α:=GField) b0 aj cu∧St w0 H0 w b0 [.row bh 68 2 cq.length,.box b3 212 [(str aq),(int ak),bh,ah,ai,(str a6),(str a3),(int ay),aj,(str ar)],.box b1 94 [(str []),(str []),(int 0),(.slice none 0 0),(str [])]]) (0,be,0,([]:List GField),([]:List Str),([]:List Str),[],[],0,([]:List GField),[]) dl (lfW dm) ?_ ?_
  ·exact ⟨H0,co,.slice none 0 0,.slice none 0 0,.slice none 0 0,rfl,rfl,rfl,dk,Sl.nil,Sl.nil,Sl.nil,S⟩
  intro s f w hI en a4 dn
  obtain ⟨bz,aq,ak,cq,cr,ct,a6,a3,ay,cu,ar⟩:=s
  obtain ⟨b0,bh,ah,ai,aj,a9,br,bn,x,o,p,q,S⟩:=hI
  refine Ws<|Wb<|Ws<|WP.quiet S kr kr<|QM' a9<|QNn<|QFb ?_
  refine WQ.val (fun w hw=>by obtain ⟨_,hq,S⟩:=hw; exact (R.loadB (i:=1) (v:=str aq) S rfl rfl lay9 rfl))<|QM' a9<|QNn<|QFb ?_
  refine WQ.val (fun w hw=>by obtain ⟨_,hq,S⟩:=hw; exact (R.loadB (i:=1) (v:=int ak) S rfl rfl lay3 rfl))<|B a4 fun dp dq a4=>QJc dq<|B a4 fun ae dr a4=>WQ.call (v:=.tuple ⟨[(str ae.1),(int ae.2.1),(int ae.2.2)]⟩) rfl (fun w H' hq S=>zHy S.holds (hG.post S.post) dp dr)<|QM ?_
  refine QEx ?_
  refine QEx ?_
  refine QEx<|QA<|QA<|QA<|WQ.nil ?_
  intro eo ds cg S
  have x:=Sl.mono x cg
  have o:=Sl.mono o cg
  have p:=Sl.mono p cg
  have q:=Sl.mono q cg
  refine Ws<|Ws<|Wg<|M<|Lf<|We ?_
  rcases condE a4 with ⟨cv,a4⟩ | ⟨cv,a4⟩
  ·refine CT cv ?_
   cases a4
  refine CF cv<|Wk<|Ws<|Wg<|M' a9<|Nn<|Fb ?_
  refine Lo 1 S<|M<|Lg<|Nn<|Fb ?_
  refine W.store (i:=1) [(str aq),(int (wr (ak+ae.2.1))),bh,ah,ai,(str a6),(str a3),(int ay),aj,(str ar)] S rfl rfl rfl lay3 rfl rfl (Nat.le_of_ble_eq_true rfl) rfl ?_
  intro ep S
  refine We<|Ws<|B a4 fun de c a4=>WP.cut (fun f w=>match de with | .inl (df,cw,dg,dh,di)=>∃ (bv:Hp) (b5:Value),f 0=(ptr b3 0)∧f 1=(.func (.func 137) [(ptr b3 0)].toArray [].toArray)∧f 5=(int bz)∧f 8=(int df)∧Sl (α:=GField) bv b5 cw∧Sl (α:=Str) bv ah cr∧Sl (α:=Str) bv ai ct∧Sl (α:=GField) bv aj cu∧St w0 H0 w bv [.row b5 68 2 cw.length,.box b3 212 [(str aq),(int (wr (ak+ae.2.1))),b5,ah,ai,(str dg),(str dh),(int di),aj,(str ar)],.box b1 94 [(str []),(str []),(int 0),(.slice none 0 0),(str [])]] | .inr _=>False) ?_ ?_
  ·refine Wb<|Ws<|Wg<|M' a9<|Nn<|Fb ?_
   refine Lo 1 S<|Lc<|M ?_
   refine WL.grp 7 [46,47,48,49,50,51] 52 (boo ((decide (16000<(wr (ak+ae.2.1))))||((decide (64<bz))&&(ae.1 !=[])))) ?_ ?_
   ·rcases boolE (decide (16000<(wr (ak+ae.2.1)))) with a7 | a7
    ·refine Gn a7<|Gn a7<|Gn a7<|WL.gund rfl rfl<|WL.gund rfl rfl<|Gn a7<|Pt a7 ?_
     exact We ⟨(orT a7),ag,rfl⟩
    refine Gy a7<|M' bn<|Gy a7<|Lc<|Gy a7<|M ?_
    refine WL.grp 3 [49,50] 51 (boo ((decide (64<bz))&&(ae.1 !=[]))) ?_ ?_
    ·rcases boolE (decide (64<bz)) with bo | bo
     ·refine Gy bo<|M<|Gy bo<|Nb<|Gy a7<|Pt bo ?_
      exact We ⟨(andT bo),ag,rfl⟩
     refine Gn bo<|Gn bo<|Gy a7<|Pf bo ?_
     exact We ⟨(andF bo),ag,rfl⟩
    intro us
    refine Pf a7 ?_
    exact We ⟨(orF a7),ag,rfl⟩
   intro us
   refine A<|We ?_
   rcases condE c with ⟨cx,c⟩ | ⟨cx,c⟩
   ·refine CT cx ?_
    cases c
   refine CF cx<|Ws<|Wg<|M' bn<|Le<|A<|We ?_
   rcases condE c with ⟨cy,c⟩ | ⟨cy,c⟩
   ·refine CT cy<|Wg<|M' br<|M<|W.inlv (vs:=[(str ae.1)]) (bs:=[(ptr b3 0)]) (cs:=[]) rfl rfl (N':=25) Tryz.func137 rfl rfl kr rfl<|Ws<|Wg<|A<|We<|Ws<|Wg<|M ?_
    refine M<|M<|M<|B c fun b2 dt c=>W.call S rfl (zDQ S.holds (hG.post S.post) ae.1 dt) ?_
    rintro eq er du ch S rfl
    have x:=Sl.mono x ch
    have o:=Sl.mono o ch
    have p:=Sl.mono p ch
    have q:=Sl.mono q ch
    refine M ?_
    refine Ex ?_
    refine Ex ?_
    refine Ex ?_
    refine Ex<|Nn<|Fb<|Fb ?_
    refine W.store (i:=1) [(str aq),(int (wr (ak+ae.2.1))),bh,ah,ai,(str b2.1),(str a3),(int ay),aj,(str ar)] S rfl rfl rfl lay9 rfl rfl (Nat.le_of_ble_eq_true rfl) rfl ?_
    intro es S
    refine Nn<|Fb<|Fb ?_
    refine W.store (i:=1) [(str aq),(int (wr (ak+ae.2.1))),bh,ah,ai,(str b2.1),(str b2.2.1),(int ay),aj,(str ar)] S rfl rfl rfl lay9 rfl rfl (Nat.le_of_ble_eq_true rfl) rfl ?_
    intro et S
    refine Nn<|Fb<|Fb ?_
    refine W.store (i:=1) [(str aq),(int (wr (ak+ae.2.1))),bh,ah,ai,(str b2.1),(str b2.2.1),(int b2.2.2.1),aj,(str ar)] S rfl rfl rfl lay3 rfl rfl (Nat.le_of_ble_eq_true rfl) rfl ?_
    intro eu S
    refine A<|We<|Ws<|Wg<|M<|A<|We ?_
    refine WP.ret (In.one rfl rfl ?_)
    refine A<|We ?_
    obtain rfl:=oi c
    exact ⟨du,bh,a9,br,bn,rfl,x,o,p,q,S⟩
   refine CF cy<|Ws<|Wg<|M<|Na<|A<|We ?_
   rcases condE c with ⟨cz,c⟩ | ⟨cz,c⟩
   ·refine CT cz<|Ws<|Wg<|A<|We ?_
    obtain rfl:=oi c
    obtain rfl:=oi a4
    obtain rfl:=dn
    cases oi cn
    refine WP.ret ?_
    exact ⟨.inl rfl,⟨ds,bh,ah,ai,aj,rfl,x,o,p,q,(S.drop _ (.cons _ (.cons_cons _ (.cons_cons _ .slnil))))⟩⟩
   refine CF cz<|Wg<|M' a9<|M<|W.inl (args:=[(ptr b3 0),(str ae.1)]) rfl (N':=56) Tryz.func177 rfl rfl kr rfl<|Ws<|Wg<|A<|We<|Ws<|Wg<|M<|B c fun af dv c=>W.call S rfl (zFt S.holds (hG.post S.post) ae.1 dv) ?_
   rintro ew ex ey ci S rfl
   have x:=Sl.mono x ci
   have o:=Sl.mono o ci
   have p:=Sl.mono p ci
   have q:=Sl.mono q ci
   refine M ?_
   refine Ex ?_
   refine Ex ?_
   refine W.alloc [(str []),(str [])] S zer68 ?_
   intro ez e0 S
   refine W.store (i:=0) [(str af.1.fName),(str af.1.fValue)] S rfl rfl rfl lay68 rfl rfl (Nat.le_of_ble_eq_true rfl) rfl ?_
   intro e1 S
   refine A<|We<|Ws<|Wb<|Ws<|Wg<|M<|Lf<|A<|We ?_
   rcases condE c with ⟨c0,c⟩ | ⟨c0,c⟩
   ·refine CT c0 ?_
    cases c
   refine CF c0<|Ws<|Wg<|Fb ?_
   refine Lo 0 S<|B c fun e2 dw c=>W.call S rfl (zNP S.holds (hG.post S.post) af.1.fName [67,111,110,116,101,110,116,45,76,101,110,103,116,104] dw) ?_
   rintro e3 e4 e5 cj S rfl
   have x:=Sl.mono x cj
   have o:=Sl.mono o cj
   have p:=Sl.mono p cj
   have q:=Sl.mono q cj
   refine A<|We ?_
   rcases condE c with ⟨c1,c⟩ | ⟨c1,c⟩
   ·refine CT c1 ?_
    cases c
   refine CF c1<|Ws<|Wg<|Fb ?_
   refine Lo 0 S<|B c fun e6 dx c=>W.call S rfl (zNP S.holds (hG.post S.post) af.1.fName [84,114,97,110,115,102,101,114,45,69,110,99,111,100,105,110,103] dx) ?_
   rintro e7 e8 e9 ck S rfl
   have x:=Sl.mono x ck
   have o:=Sl.mono o ck
   have p:=Sl.mono p ck
   have q:=Sl.mono q ck
   refine A<|We ?_
   rcases condE c with ⟨c2,c⟩ | ⟨c2,c⟩
   ·refine CT c2 ?_
    cases c
   refine CF c2<|WP.draw kr 11 rfl (bm 11 0) rfl ?_
   have S:=S.drew
   refine WA.take (i:=0) (bm 11 1) rfl kr kr kr rfl (fun _=>(R.mv (v:=ptr b3 0) rfl)) ?_
   refine WA.take (i:=1) (bm 11 3) rfl kr kr kr rfl (fun _=>(R.mv (v:=ptr b3 0) rfl)) ?_
   refine WA.two (i:=2) (j:=5) (bm 11 7) (bm 11 35) rfl rfl kr rfl rfl ?_ ?_
   ·refine Nn<|We ?_
    refine WA.take (i:=3) (bm 11 15) rfl kr kr kr rfl (fun _=>(R.fieldB rfl zBJ)) ?_
    refine WA.two (i:=4) (j:=5) (bm 11 31) (bm 11 47) rfl rfl kr rfl rfl ?_ ?_
    ·refine Lo 2 S<|We<|WA.one (i:=5) (bm 11 63) rfl kr rfl ?_
     refine WL.w (R.loadBN (i:=0) (vs:=[(str af.1.fName),(str af.1.fValue)]) S rfl rfl lay68 rfl rfl)<|We<|WA.one (i:=6) (bm 11 127) rfl kr rfl<|W.bslice (α:=GField) [(agg [(str af.1.fName),(str af.1.fValue)])] ([af.1]:List GField) S el22 rfl rfl rfl (by decide) (Go.Eng.encS ⟨rfl,rfl⟩ enc0) ?_
     intro b6 b7 b8 ac ao S
     have x:=Sl.mono x ac
     have o:=Sl.mono o ac
     have p:=Sl.mono p ac
     have q:=Sl.mono q ac
     refine We<|WA.one (i:=7) (bm 11 255) rfl kr rfl<|B c fun bc bd c=>W.app (α:=GField) (i:=2) S el22 rfl rfl rfl x ao bd ?_
     intro ad b9 az aa a0 S
     have x:=Sl.mono x aa
     have ao:=Sl.mono ao aa
     have o:=Sl.mono o aa
     have p:=Sl.mono p aa
     have q:=Sl.mono q aa
     refine We<|WA.one (i:=8) (bm 11 511) rfl kr rfl<|Nn<|We ?_
     refine WA.take (i:=9) (bm 11 1023) rfl kr kr kr rfl (fun _=>(R.fieldB rfl zBJ))<|WA.one (i:=10) (bm 11 2047) rfl kr rfl ?_
     refine W.storeSl (α:=GField) (i:=3) [(str aq),(int (wr (ak+ae.2.1))),ad,ah,ai,(str a6),(str a3),(int ay),aj,(str ar)] S a0 rfl rfl rfl lay22 (Nat.le_of_ble_eq_true rfl) rfl ?_
     intro ca S
     refine We<|WA.done kr<|Ws<|Wg<|A<|We ?_
     refine WP.ret (In.one rfl rfl ?_)
     replace S:St w0 H0 _ az [.row ad 68 2 bc.length,.box b3 212 [(str aq),(int (wr (ak+ae.2.1))),ad,ah,ai,(str a6),(str a3),(int ay),aj,(str ar)],.box b1 94 [(str []),(str []),(int 0),(.slice none 0 0),(str [])]]:=(S.drop _ (.cons _ (.cons _ (.cons_cons _ (.cons_cons _ (.cons_cons _ .slnil))))))
     refine A<|We ?_
     obtain rfl:=oi c
     exact ⟨az,ad,a9,br,bn,rfl,a0,o,p,q,S⟩
    refine WL.w (R.loadBN (i:=0) (vs:=[(str af.1.fName),(str af.1.fValue)]) S rfl rfl lay68 rfl rfl)<|We ?_
    refine WA.two (i:=4) (j:=6) (bm 11 63) (bm 11 111) rfl rfl kr rfl rfl ?_ ?_
    ·refine Lo 2 S<|We<|WA.one (i:=6) (bm 11 127) rfl kr rfl<|W.bslice (α:=GField) [(agg [(str af.1.fName),(str af.1.fValue)])] ([af.1]:List GField) S el22 rfl rfl rfl (by decide) (Go.Eng.encS ⟨rfl,rfl⟩ enc0) ?_
     intro b6 b7 b8 ac ao S
     have x:=Sl.mono x ac
     have o:=Sl.mono o ac
     have p:=Sl.mono p ac
     have q:=Sl.mono q ac
     refine We<|WA.one (i:=7) (bm 11 255) rfl kr rfl<|B c fun bc bd c=>W.app (α:=GField) (i:=2) S el22 rfl rfl rfl x ao bd ?_
     intro ad b9 az aa a0 S
     have x:=Sl.mono x aa
     have ao:=Sl.mono ao aa
     have o:=Sl.mono o aa
     have p:=Sl.mono p aa
     have q:=Sl.mono q aa
     refine We<|WA.one (i:=8) (bm 11 511) rfl kr rfl<|Nn<|We ?_
     refine WA.take (i:=9) (bm 11 1023) rfl kr kr kr rfl (fun _=>(R.fieldB rfl zBJ))<|WA.one (i:=10) (bm 11 2047) rfl kr rfl ?_
     refine W.storeSl (α:=GField) (i:=3) [(str aq),(int (wr (ak+ae.2.1))),ad,ah,ai,(str a6),(str a3),(int ay),aj,(str ar)] S a0 rfl rfl rfl lay22 (Nat.le_of_ble_eq_true rfl) rfl ?_
     intro ca S
     refine We<|WA.done kr<|Ws<|Wg<|A<|We ?_
     refine WP.ret (In.one rfl rfl ?_)
     replace S:St w0 H0 _ az [.row ad 68 2 bc.length,.box b3 212 [(str aq),(int (wr (ak+ae.2.1))),ad,ah,ai,(str a6),(str a3),(int ay),aj,(str ar)],.box b1 94 [(str []),(str []),(int 0),(.slice none 0 0),(str [])]]:=(S.drop _ (.cons _ (.cons _ (.cons_cons _ (.cons_cons _ (.cons_cons _ .slnil))))))
     refine A<|We ?_
     obtain rfl:=oi c
     exact ⟨az,ad,a9,br,bn,rfl,a0,o,p,q,S⟩
    refine W.bslice (α:=GField) [(agg [(str af.1.fName),(str af.1.fValue)])] ([af.1]:List GField) S el22 rfl rfl rfl (by decide) (Go.Eng.encS ⟨rfl,rfl⟩ enc0) ?_
    intro b6 b7 b8 ac ao S
    have x:=Sl.mono x ac
    have o:=Sl.mono o ac
    have p:=Sl.mono p ac
    have q:=Sl.mono q ac
    refine We<|WA.one (i:=4) (bm 11 127) rfl kr rfl ?_
    refine Lo 3 S<|We<|WA.one (i:=7) (bm 11 255) rfl kr rfl<|B c fun bc bd c=>W.app (α:=GField) (i:=2) S el22 rfl rfl rfl x ao bd ?_
    intro ad b9 az aa a0 S
    have ao:=Sl.mono ao aa
    have x:=Sl.mono x aa
    have o:=Sl.mono o aa
    have p:=Sl.mono p aa
    have q:=Sl.mono q aa
    refine We<|WA.one (i:=8) (bm 11 511) rfl kr rfl<|Nn<|We ?_
    refine WA.take (i:=9) (bm 11 1023) rfl kr kr kr rfl (fun _=>(R.fieldB rfl zBJ))<|WA.one (i:=10) (bm 11 2047) rfl kr rfl ?_
    refine W.storeSl (α:=GField) (i:=3) [(str aq),(int (wr (ak+ae.2.1))),ad,ah,ai,(str a6),(str a3),(int ay),aj,(str ar)] S a0 rfl rfl rfl lay22 (Nat.le_of_ble_eq_true rfl) rfl ?_
    intro ca S
    refine We<|WA.done kr<|Ws<|Wg<|A<|We ?_
    refine WP.ret (In.one rfl rfl ?_)
    replace S:St w0 H0 _ az [.row ad 68 2 bc.length,.box b3 212 [(str aq),(int (wr (ak+ae.2.1))),ad,ah,ai,(str a6),(str a3),(int ay),aj,(str ar)],.box b1 94 [(str []),(str []),(int 0),(.slice none 0 0),(str [])]]:=(S.drop _ (.cons _ (.cons _ (.cons_cons _ (.cons_cons _ (.cons_cons _ .slnil))))))
    refine A<|We ?_
    obtain rfl:=oi c
    exact ⟨az,ad,a9,br,bn,rfl,a0,o,p,q,S⟩
   refine WL.w (R.loadBN (i:=0) (vs:=[(str af.1.fName),(str af.1.fValue)]) S rfl rfl lay68 rfl rfl)<|We ?_
   refine WA.two (i:=2) (j:=6) (bm 11 39) (bm 11 99) rfl rfl kr rfl rfl ?_ ?_
   ·refine Nn<|We ?_
    refine WA.take (i:=3) (bm 11 47) rfl kr kr kr rfl (fun _=>(R.fieldB rfl zBJ)) ?_
    refine WA.two (i:=4) (j:=6) (bm 11 63) (bm 11 111) rfl rfl kr rfl rfl ?_ ?_
    ·refine Lo 2 S<|We<|WA.one (i:=6) (bm 11 127) rfl kr rfl<|W.bslice (α:=GField) [(agg [(str af.1.fName),(str af.1.fValue)])] ([af.1]:List GField) S el22 rfl rfl rfl (by decide) (Go.Eng.encS ⟨rfl,rfl⟩ enc0) ?_
     intro b6 b7 b8 ac ao S
     have x:=Sl.mono x ac
     have o:=Sl.mono o ac
     have p:=Sl.mono p ac
     have q:=Sl.mono q ac
     refine We<|WA.one (i:=7) (bm 11 255) rfl kr rfl<|B c fun bc bd c=>W.app (α:=GField) (i:=2) S el22 rfl rfl rfl x ao bd ?_
     intro ad b9 az aa a0 S
     have x:=Sl.mono x aa
     have ao:=Sl.mono ao aa
     have o:=Sl.mono o aa
     have p:=Sl.mono p aa
     have q:=Sl.mono q aa
     refine We<|WA.one (i:=8) (bm 11 511) rfl kr rfl<|Nn<|We ?_
     refine WA.take (i:=9) (bm 11 1023) rfl kr kr kr rfl (fun _=>(R.fieldB rfl zBJ))<|WA.one (i:=10) (bm 11 2047) rfl kr rfl ?_
     refine W.storeSl (α:=GField) (i:=3) [(str aq),(int (wr (ak+ae.2.1))),ad,ah,ai,(str a6),(str a3),(int ay),aj,(str ar)] S a0 rfl rfl rfl lay22 (Nat.le_of_ble_eq_true rfl) rfl ?_
     intro ca S
     refine We<|WA.done kr<|Ws<|Wg<|A<|We ?_
     refine WP.ret (In.one rfl rfl ?_)
     replace S:St w0 H0 _ az [.row ad 68 2 bc.length,.box b3 212 [(str aq),(int (wr (ak+ae.2.1))),ad,ah,ai,(str a6),(str a3),(int ay),aj,(str ar)],.box b1 94 [(str []),(str []),(int 0),(.slice none 0 0),(str [])]]:=(S.drop _ (.cons _ (.cons _ (.cons_cons _ (.cons_cons _ (.cons_cons _ .slnil))))))
     refine A<|We ?_
     obtain rfl:=oi c
     exact ⟨az,ad,a9,br,bn,rfl,a0,o,p,q,S⟩
    refine W.bslice (α:=GField) [(agg [(str af.1.fName),(str af.1.fValue)])] ([af.1]:List GField) S el22 rfl rfl rfl (by decide) (Go.Eng.encS ⟨rfl,rfl⟩ enc0) ?_
    intro b6 b7 b8 ac ao S
    have x:=Sl.mono x ac
    have o:=Sl.mono o ac
    have p:=Sl.mono p ac
    have q:=Sl.mono q ac
    refine We<|WA.one (i:=4) (bm 11 127) rfl kr rfl ?_
    refine Lo 3 S<|We<|WA.one (i:=7) (bm 11 255) rfl kr rfl<|B c fun bc bd c=>W.app (α:=GField) (i:=2) S el22 rfl rfl rfl x ao bd ?_
    intro ad b9 az aa a0 S
    have ao:=Sl.mono ao aa
    have x:=Sl.mono x aa
    have o:=Sl.mono o aa
    have p:=Sl.mono p aa
    have q:=Sl.mono q aa
    refine We<|WA.one (i:=8) (bm 11 511) rfl kr rfl<|Nn<|We ?_
    refine WA.take (i:=9) (bm 11 1023) rfl kr kr kr rfl (fun _=>(R.fieldB rfl zBJ))<|WA.one (i:=10) (bm 11 2047) rfl kr rfl ?_
    refine W.storeSl (α:=GField) (i:=3) [(str aq),(int (wr (ak+ae.2.1))),ad,ah,ai,(str a6),(str a3),(int ay),aj,(str ar)] S a0 rfl rfl rfl lay22 (Nat.le_of_ble_eq_true rfl) rfl ?_
    intro ca S
    refine We<|WA.done kr<|Ws<|Wg<|A<|We ?_
    refine WP.ret (In.one rfl rfl ?_)
    replace S:St w0 H0 _ az [.row ad 68 2 bc.length,.box b3 212 [(str aq),(int (wr (ak+ae.2.1))),ad,ah,ai,(str a6),(str a3),(int ay),aj,(str ar)],.box b1 94 [(str []),(str []),(int 0),(.slice none 0 0),(str [])]]:=(S.drop _ (.cons _ (.cons _ (.cons_cons _ (.cons_cons _ (.cons_cons _ .slnil))))))
    refine A<|We ?_
    obtain rfl:=oi c
    exact ⟨az,ad,a9,br,bn,rfl,a0,o,p,q,S⟩
   refine W.bslice (α:=GField) [(agg [(str af.1.fName),(str af.1.fValue)])] ([af.1]:List GField) S el22 rfl rfl rfl (by decide) (Go.Eng.encS ⟨rfl,rfl⟩ enc0) ?_
   intro b6 b7 b8 ac ao S
   have x:=Sl.mono x ac
   have o:=Sl.mono o ac
   have p:=Sl.mono p ac
   have q:=Sl.mono q ac
   refine We<|WA.one (i:=2) (bm 11 103) rfl kr rfl<|Nn<|We ?_
   refine WA.take (i:=3) (bm 11 111) rfl kr kr kr rfl (fun _=>(R.fieldB rfl zBJ))<|WA.one (i:=4) (bm 11 127) rfl kr rfl ?_
   refine Lo 3 S<|We<|WA.one (i:=7) (bm 11 255) rfl kr rfl<|B c fun bc bd c=>W.app (α:=GField) (i:=2) S el22 rfl rfl rfl x ao bd ?_
   intro ad b9 az aa a0 S
   have o:=Sl.mono o aa
   have p:=Sl.mono p aa
   have q:=Sl.mono q aa
   refine We<|WA.one (i:=8) (bm 11 511) rfl kr rfl<|Nn<|We ?_
   refine WA.take (i:=9) (bm 11 1023) rfl kr kr kr rfl (fun _=>(R.fieldB rfl zBJ))<|WA.one (i:=10) (bm 11 2047) rfl kr rfl ?_
   refine W.storeSl (α:=GField) (i:=3) [(str aq),(int (wr (ak+ae.2.1))),ad,ah,ai,(str a6),(str a3),(int ay),aj,(str ar)] S a0 rfl rfl rfl lay22 (Nat.le_of_ble_eq_true rfl) rfl ?_
   intro ca S
   refine We<|WA.done kr<|Ws<|Wg<|A<|We ?_
   refine WP.ret (In.one rfl rfl ?_)
   replace S:St w0 H0 _ az [.row ad 68 2 bc.length,.box b3 212 [(str aq),(int (wr (ak+ae.2.1))),ad,ah,ai,(str a6),(str a3),(int ay),aj,(str ar)],.box b1 94 [(str []),(str []),(int 0),(.slice none 0 0),(str [])]]:=(S.drop _ (.cons _ (.cons _ (.cons_cons _ (.cons_cons _ (.cons_cons _ .slnil))))))
   refine A<|We ?_
   obtain rfl:=oi c
   exact ⟨az,ad,a9,br,bn,rfl,a0,o,p,q,S⟩
  intro f w hM
  rcases de with ⟨df,cw,dg,dh,di⟩ | e
  ·obtain ⟨bv,b5,dy,dz,d0,d1,d2,o,p,q,S⟩:=hM
   refine Ws<|Wg<|M' d1<|Lf<|We ?_
   rcases condE a4 with ⟨c3,a4⟩ | ⟨c3,a4⟩
   ·refine CT c3 ?_
    cases a4
   refine CF c3<|Wk<|Wg<|M' d0<|Lg<|A<|We ?_
   obtain rfl:=oi a4
   exact ⟨rfl,⟨bv,b5,ah,ai,aj,dy,dz,rfl,d2,o,p,q,S⟩⟩
  exact hM.elim
 rintro f w ⟨H5,d,ba,bb,bk,h7,z,ax,au,bi,S⟩
 refine InR.one rfl h7<|A<|We<|Ws<|Wg<|M<|Lf<|We ?_
 rcases condE h with ⟨c4,h⟩ | ⟨c4,h⟩
 ·refine CT c4 ?_
  cases h
 refine CF c4<|Wk<|Ws<|Ws<|Wg<|M<|Nn<|Fb<|W.inl (args:=[(ptr b3 0)]) rfl (N':=75) Tryz.func113 rfl rfl kr rfl<|Ws<|Wg<|A ?_
 refine We<|Ws<|Ws<|Wg<|M<|Nn<|Fb ?_
 refine Lo 0 S<|Nq au<|Lc<|M<|B h fun d4 bt h=>WL.grpw 17 [14,15,16,17,18,19,20,21,22,23,24,25,26,27,28,29] 30 (boo d4) (fun w=>∃ H':Hp,H5.le H'∧St w0 H0 w H' [.box b3 212 [(str m8),(int m9),d,ba,bb,(str t),(str u),(int k),bk,(str bx)],.box b1 94 [(str []),(str []),(int 0),(.slice none 0 0),(str [])]]) ?_ ?_
 ·rcases boolE (decide (1<(bu.length:Int))) with al | al
  ·replace bt:=condT bt al
   refine Gn al<|Gn al<|Gn al<|Gn al<|Gn al<|Gn al<|Gn al<|WL.gund rfl rfl<|WL.gund rfl rfl<|WL.gund rfl rfl<|WL.gund rfl rfl<|WL.gund rfl rfl ?_
   refine WL.gund rfl rfl<|WL.gund rfl rfl<|WL.gund rfl rfl<|Gn al<|Pt al ?_
   exact We ⟨(congrArg boo (oi bt)),ag,⟨H5,(Hp.le.refl _),S⟩⟩
  replace bt:=condF bt al
  refine Gy al<|M<|Gy al<|Nn<|Gy al<|Fb<|Gy al ?_
  refine Lo 0 S<|Gy al<|Nq au<|Gy al<|Le ?_
  refine Gy al<|M<|B bt fun d5 bj bt=>WL.grpw 9 [21,22,23,24,25,26,27,28] 29 (boo d5) (fun w=>∃ H':Hp,H5.le H'∧St w0 H0 w H' [.box b3 212 [(str m8),(int m9),d,ba,bb,(str t),(str u),(int k),bk,(str bx)],.box b1 94 [(str []),(str []),(int 0),(.slice none 0 0),(str [])]]) ?_ ?_
  ·rcases boolE ((bu.length:Int)==1) with ap | ap
   ·replace bj:=condT bj ap
    refine Gy ap<|M<|Gy ap<|Nn<|Gy ap<|Fb<|Gy ap ?_
    refine Lo 0 S<|Gy ap<|B bj fun d6 d7 bj=>W.idx (α:=Str) au rfl rfl el45 d7 ?_
    rintro fa _ d8 rfl
    refine Gy ap ?_
    refine Lq S d8<|Gy ap<|B bj fun fb d9 bj=>W.call S rfl (zNP S.holds (hG.post S.post) d6 [99,104,117,110,107,101,100] d9) ?_
    rintro fc fd ea cb S rfl
    have au:=Sl.mono au cb
    have z:=Sl.mono z cb
    have ax:=Sl.mono ax cb
    have bi:=Sl.mono bi cb
    refine Gy ap<|No<|Gy al<|Pt ap ?_
    exact We ⟨(congrArg boo (oi bj)),ag,⟨ea,cb,S⟩⟩
   replace bj:=condF bj ap
   refine Gn ap<|Gn ap<|Gn ap<|Gn ap<|Gn ap<|Gn ap<|Gn ap<|Gn ap<|Gy al<|Pf ap ?_
   exact We ⟨(congrArg boo (oi bj)),ag,⟨H5,(Hp.le.refl _),S⟩⟩
  intro us fe ⟨eb,cc,S⟩
  have au:=Sl.mono au cc
  have z:=Sl.mono z cc
  have ax:=Sl.mono ax cc
  have bi:=Sl.mono bi cc
  refine Pf al ?_
  exact We ⟨(congrArg boo (oi bt)),ag,⟨eb,cc,S⟩⟩
 intro us ff ⟨ec,cl,S⟩
 have au:=Sl.mono au cl
 have z:=Sl.mono z cl
 have ax:=Sl.mono ax cl
 have bi:=Sl.mono bi cl
 refine We ?_
 rcases condE h with ⟨c5,h⟩ | ⟨c5,h⟩
 ·refine CT c5 ?_
  cases h
 refine CF c5<|Wk<|Ws<|Ws<|Wg<|M<|Nn<|Fb ?_
 refine Lo 0 S<|Nq ax<|Lc<|M ?_
 refine WL.grp 15 [38,39,40,41,42,43,44,45,46,47,48,49,50,51] 52 (boo ((decide (1<(bf.length:Int)))||(((bf.length:Int)==1)&&((bu.length:Int)==1)))) ?_ ?_
 ·rcases boolE (decide (1<(bf.length:Int))) with am | am
  ·refine Gn am<|Gn am<|Gn am<|Gn am<|Gn am<|Gn am<|Gn am<|WL.gund rfl rfl<|WL.gund rfl rfl<|WL.gund rfl rfl<|WL.gund rfl rfl<|WL.gund rfl rfl ?_
   refine WL.gund rfl rfl<|Gn am<|Pt am ?_
   exact We ⟨(orT am),ag,rfl⟩
  refine Gy am<|M<|Gy am<|Nn<|Gy am<|Fb<|Gy am ?_
  refine Lo 0 S<|Gy am<|Nq ax<|Gy am<|Le ?_
  refine Gy am<|M ?_
  refine WL.grp 7 [45,46,47,48,49,50] 51 (boo (((bf.length:Int)==1)&&((bu.length:Int)==1))) ?_ ?_
  ·rcases boolE ((bf.length:Int)==1) with a1 | a1
   ·refine Gy a1<|M<|Gy a1<|Nn<|Gy a1<|Fb<|Gy a1 ?_
    refine Lo 0 S<|Gy a1<|Nq au<|Gy a1<|Le ?_
    refine Gy am<|Pt a1 ?_
    exact We ⟨(andT a1),ag,rfl⟩
   refine Gn a1<|Gn a1<|Gn a1<|Gn a1<|Gn a1<|Gn a1<|Gy am<|Pf a1 ?_
   exact We ⟨(andF a1),ag,rfl⟩
  intro us
  refine Pf am ?_
  exact We ⟨(orF am),ag,rfl⟩
 intro us
 refine We ?_
 rcases condE h with ⟨c6,h⟩ | ⟨c6,h⟩
 ·refine CT c6 ?_
  cases h
 refine CF c6<|Wk<|Ws<|Ws<|Wg<|M<|Nn<|Fb ?_
 refine Lo 0 S<|Nq ax<|M<|We<|B h fun ed ee h=>WP.cut (fun f w=>∃ (b4:Hp),Sl (α:=GField) b4 d cf∧Sl (α:=Str) b4 ba bf∧Sl (α:=Str) b4 bb bu∧Sl (α:=GField) b4 bk cm∧St w0 H0 w b4 [.box b3 212 [(str m8),(int m9),d,ba,bb,(str t),(str u),(int k),bk,(str bx)],.box b1 94 [(str []),(str []),(int 0),(.slice none 0 0),(str [])]]) ?_ ?_
 ·refine Wb ?_
  refine WP.loopM (zB4 bf) (fun s f w=>match s with | _=>∃ (bw:Hp),f 57=(int (bf.length:Int))∧f 58=(int 0)∧Sl (α:=GField) bw d cf∧Sl (α:=Str) bw ba bf∧Sl (α:=Str) bw bb bu∧Sl (α:=GField) bw bk cm∧St w0 H0 w bw [.box b3 212 [(str m8),(int m9),d,ba,bb,(str t),(str u),(int k),bk,(str bx)],.box b1 94 [(str []),(str []),(int 0),(.slice none 0 0),(str [])]]) () ed (lfW ee) ?_ ?_
  ·exact ⟨ec,rfl,rfl,z,ax,au,bi,S⟩
  intro s f w hI fg cd ef
  obtain ⟨bw,eg,eh,z,ax,au,bi,S⟩:=hI
  refine Ws<|Wg<|La' eh eg<|We<|Ws ?_
  rcases condE cd with ⟨c7,cd⟩ | ⟨c7,cd⟩
  ·refine CT c7 ?_
   cases cd
  refine CF c7<|Wx ?_
  obtain rfl:=oi cd
  obtain rfl:=ef
  exact ⟨bw,z,ax,au,bi,S⟩
 rintro f w ⟨b4,z,ax,au,bi,S⟩
 refine Ws<|Wg<|A<|We ?_
 refine WP.ret (In.one rfl rfl ?_)
 refine A<|We<|Ws<|Wg<|M ?_
 refine WL.w (v:=boo false) (R.ofEq (R.neq rfl rfl) rfl)<|We<|WP.condF (b:=false) rfl rfl<|Wk<|Ws<|Wg<|M ?_
 refine M<|Nn<|Fb<|Fb ?_
 refine Lo 0 S<|Nn<|Fb<|Fb ?_
 refine W.storeSl (α:=GField) (i:=0) [(str m8),(int m9),d,ba,bb,(str t),(str u),(int k),d,(str bx)] S z rfl rfl rfl lay22 (Nat.le_of_ble_eq_true rfl) rfl ?_
 intro fh S
 refine We<|Ws<|Ws<|Wg<|M<|Nn<|Fb<|Fb ?_
 refine Lo 0 S<|B h fun ce ei h=>W.call S rfl (zNu S.holds (hG.post S.post) cf [72,111,115,116] z ei) ?_
 rintro fi fj fk c8 S ej
 have z:=Sl.mono z c8
 have ax:=Sl.mono ax c8
 have au:=Sl.mono au c8
 refine Nq ej<|A<|We<|Ws<|Wg<|M<|Lc<|M ?_
 refine WL.grp 11 [52,53,54,55,56,57,58,59,60,61] 62 (boo ((decide (1<(ce.length:Int)))||(((ce.length:Int)==0)&&(k==1)))) ?_ ?_
 ·rcases boolE (decide (1<(ce.length:Int))) with a8 | a8
  ·refine Gn a8<|Gn a8<|Gn a8<|WL.gund rfl rfl<|WL.gund rfl rfl<|WL.gund rfl rfl<|WL.gund rfl rfl<|WL.gund rfl rfl<|WL.gund rfl rfl<|Gn a8<|Pt a8 ?_
   exact We ⟨(orT a8),ag,rfl⟩
  refine Gy a8<|M<|Gy a8<|Le<|Gy a8<|M ?_
  refine WL.grp 7 [55,56,57,58,59,60] 61 (boo (((ce.length:Int)==0)&&(k==1))) ?_ ?_
  ·rcases boolE ((ce.length:Int)==0) with a2 | a2
   ·refine Gy a2<|M<|Gy a2<|Nn<|Gy a2<|Fb<|Gy a2<|Fb<|Gy a2 ?_
    refine Lo 0 S<|Gy a2<|Le ?_
    refine Gy a8<|Pt a2 ?_
    exact We ⟨(andT a2),ag,rfl⟩
   refine Gn a2<|Gn a2<|Gn a2<|Gn a2<|Gn a2<|Gn a2<|Gy a8<|Pf a2 ?_
   exact We ⟨(andF a2),ag,rfl⟩
  intro us
  refine Pf a8 ?_
  exact We ⟨(orF a8),ag,rfl⟩
 intro us
 refine We ?_
 rcases condE h with ⟨c9,h⟩ | ⟨c9,h⟩
 ·refine CT c9 ?_
  cases h
 refine CF c9<|Wk<|Ws<|Wg<|M<|Nn<|Fb<|W.inl (args:=[(ptr b3 0)]) rfl (N':=76) Tryz.func115 rfl rfl kr rfl<|Ws<|Wg<|A<|A ?_
 refine We<|Ws<|WP.quiet S kr kr<|QM<|QNn<|QFb ?_
 refine WQ.val (fun w hw=>by obtain ⟨_,hq,S⟩:=hw; exact (R.loadB (i:=0) (v:=str m8) S rfl rfl lay9 rfl))<|QM<|QNn<|QFb ?_
 refine WQ.val (fun w hw=>by obtain ⟨_,hq,S⟩:=hw; exact (R.loadB (i:=0) (v:=int m9) S rfl rfl lay3 rfl))<|B h fun fl ek h=>QJc ek<|QA<|WQ.nil ?_
 intro fm fn da S
 have z:=Sl.mono z da
 have ax:=Sl.mono ax da
 have au:=Sl.mono au da
 refine Ws<|Wb<|Ws<|Wg<|M<|Nn<|Fb ?_
 refine Lo 0 S<|Nq au<|Lc<|A<|We ?_
 rcases condE h with ⟨db,h⟩ | ⟨db,h⟩
 ·refine CT db ?_
  cases h
 refine CF db<|Ws<|Wg<|M<|Nn<|Fb ?_
 refine Lo 0 S<|Nq ax<|Lc<|A<|We ?_
 rcases condE h with ⟨dc,h⟩ | ⟨dc,h⟩
 ·refine CT dc ?_
  cases h
 refine CF dc<|Wk<|Ws<|Wg<|A<|A<|We ?_
 refine WP.ret (In.two rfl rfl rfl ?_)
 refine M ?_
 refine Ex ?_
 refine Ex<|A<|A<|We<|Ws<|Ws<|Wg<|M ?_
 refine WL.w (v:=boo false) (R.ofEq (R.neq rfl rfl) rfl)<|We ?_
 refine WP.condF (b:=false) rfl rfl<|Wk<|Ws<|Wg<|M<|M<|Nn<|Fb<|Fb ?_
 refine W.store (i:=0) [(str m8),(int m9),d,ba,bb,(str t),(str u),(int k),d,(str [])] S rfl rfl rfl lay9 rfl rfl (Nat.le_of_ble_eq_true rfl) rfl ?_
 intro fo S
 refine We<|Ws<|WP.draw kr 12 rfl (bm 12 0) rfl ?_
 have S:=S.drew
 refine WA.take (i:=0) (bm 12 1) rfl kr kr kr rfl (fun _=>(R.mv (v:=ptr b3 0) rfl)) ?_
 refine WA.take (i:=4) (bm 12 17) rfl kr kr kr rfl (fun _=>(R.mv (v:=ptr b3 0) rfl)) ?_
 refine WA.two (i:=1) (j:=5) (bm 12 19) (bm 12 49) rfl rfl kr rfl rfl ?_ ?_
 ·refine Nn<|We ?_
  refine WA.take (i:=2) (bm 12 23) rfl kr kr kr rfl (fun _=>(R.fieldB rfl zKC)) ?_
  refine WA.two (i:=3) (j:=5) (bm 12 31) (bm 12 55) rfl rfl kr rfl rfl ?_ ?_
  ·refine WL.w (R.loadBN (i:=0) (vs:=[(str t),(str u),(int k),d,(str [])]) S rfl rfl lay94 rfl rfl)<|We ?_
   refine WA.two (i:=5) (j:=9) (bm 12 63) (bm 12 543) rfl rfl kr rfl rfl ?_ ?_
   ·refine Nn<|We ?_
    refine WA.take (i:=6) (bm 12 127) rfl kr kr kr rfl (fun _=>(R.fieldB rfl zJl)) ?_
    refine WA.take (i:=7) (bm 12 255) rfl kr kr kr rfl (fun _=>(R.fieldB rfl zF2)) ?_
    refine WA.two (i:=8) (j:=9) (bm 12 511) (bm 12 767) rfl rfl kr rfl rfl ?_ ?_
    ·refine Lo 0 S<|We<|WA.one (i:=9) (bm 12 1023) rfl kr rfl ?_
     refine W.store (i:=1) [(str t),(str u),(int k),d,(str [])] S rfl rfl rfl lay94 rfl (AllOne.all (l:=[(str t),(str u),(int k),d,(str [])]) (.cons rfl (.cons rfl (.cons rfl (.cons (Sl.oneC z) (.cons rfl .nil)))))) (Nat.le_of_ble_eq_true rfl) rfl ?_
     intro bp S
     refine We ?_
     refine WA.take (i:=10) (bm 12 2047) rfl kr kr kr rfl (fun _=>(R.as (v:=int m9) rfl)) ?_
     refine WA.take (i:=11) (bm 12 4095) rfl kr kr kr rfl (fun _=>(R.as (v:=int 0) rfl))<|WA.done kr ?_
     obtain rfl:=oi h
     refine WP.ret (Out.three rfl S (Res.cellB (i:=1) (cs:=[(str t),(str u),(int k),d,(str [])]) S rfl rfl lay94 rfl rfl) rfl rfl ?_)
     exact ⟨_,rfl,z⟩
    refine W.store (i:=1) [(str t),(str u),(int k),d,(str [])] S rfl rfl rfl lay94 rfl (AllOne.all (l:=[(str t),(str u),(int k),d,(str [])]) (.cons rfl (.cons rfl (.cons rfl (.cons (Sl.oneC z) (.cons rfl .nil)))))) (Nat.le_of_ble_eq_true rfl) rfl ?_
    intro bp S
    refine We<|WA.one (i:=8) (bm 12 1023) rfl kr rfl ?_
    refine Lo 0 S<|We ?_
    refine WA.take (i:=10) (bm 12 2047) rfl kr kr kr rfl (fun _=>(R.as (v:=int m9) rfl)) ?_
    refine WA.take (i:=11) (bm 12 4095) rfl kr kr kr rfl (fun _=>(R.as (v:=int 0) rfl))<|WA.done kr ?_
    obtain rfl:=oi h
    refine WP.ret (Out.three rfl S (Res.cellB (i:=1) (cs:=[(str t),(str u),(int k),d,(str [])]) S rfl rfl lay94 rfl rfl) rfl rfl ?_)
    exact ⟨_,rfl,z⟩
   refine W.store (i:=1) [(str t),(str u),(int k),d,(str [])] S rfl rfl rfl lay94 rfl (AllOne.all (l:=[(str t),(str u),(int k),d,(str [])]) (.cons rfl (.cons rfl (.cons rfl (.cons (Sl.oneC z) (.cons rfl .nil)))))) (Nat.le_of_ble_eq_true rfl) rfl ?_
   intro bp S
   refine We<|WA.one (i:=5) (bm 12 575) rfl kr rfl<|Nn<|We ?_
   refine WA.take (i:=6) (bm 12 639) rfl kr kr kr rfl (fun _=>(R.fieldB rfl zJl)) ?_
   refine WA.take (i:=7) (bm 12 767) rfl kr kr kr rfl (fun _=>(R.fieldB rfl zF2))<|WA.one (i:=8) (bm 12 1023) rfl kr rfl ?_
   refine Lo 0 S<|We ?_
   refine WA.take (i:=10) (bm 12 2047) rfl kr kr kr rfl (fun _=>(R.as (v:=int m9) rfl)) ?_
   refine WA.take (i:=11) (bm 12 4095) rfl kr kr kr rfl (fun _=>(R.as (v:=int 0) rfl))<|WA.done kr ?_
   obtain rfl:=oi h
   refine WP.ret (Out.three rfl S (Res.cellB (i:=1) (cs:=[(str t),(str u),(int k),d,(str [])]) S rfl rfl lay94 rfl rfl) rfl rfl ?_)
   exact ⟨_,rfl,z⟩
  refine Nn<|We ?_
  refine WA.take (i:=6) (bm 12 119) rfl kr kr kr rfl (fun _=>(R.fieldB rfl zJl)) ?_
  refine WA.take (i:=7) (bm 12 247) rfl kr kr kr rfl (fun _=>(R.fieldB rfl zF2)) ?_
  refine WA.two (i:=3) (j:=8) (bm 12 255) (bm 12 503) rfl rfl kr rfl rfl ?_ ?_
  ·refine WL.w (R.loadBN (i:=0) (vs:=[(str t),(str u),(int k),d,(str [])]) S rfl rfl lay94 rfl rfl)<|We ?_
   refine WA.two (i:=8) (j:=9) (bm 12 511) (bm 12 767) rfl rfl kr rfl rfl ?_ ?_
   ·refine Lo 0 S<|We<|WA.one (i:=9) (bm 12 1023) rfl kr rfl ?_
    refine W.store (i:=1) [(str t),(str u),(int k),d,(str [])] S rfl rfl rfl lay94 rfl (AllOne.all (l:=[(str t),(str u),(int k),d,(str [])]) (.cons rfl (.cons rfl (.cons rfl (.cons (Sl.oneC z) (.cons rfl .nil)))))) (Nat.le_of_ble_eq_true rfl) rfl ?_
    intro bp S
    refine We ?_
    refine WA.take (i:=10) (bm 12 2047) rfl kr kr kr rfl (fun _=>(R.as (v:=int m9) rfl)) ?_
    refine WA.take (i:=11) (bm 12 4095) rfl kr kr kr rfl (fun _=>(R.as (v:=int 0) rfl))<|WA.done kr ?_
    obtain rfl:=oi h
    refine WP.ret (Out.three rfl S (Res.cellB (i:=1) (cs:=[(str t),(str u),(int k),d,(str [])]) S rfl rfl lay94 rfl rfl) rfl rfl ?_)
    exact ⟨_,rfl,z⟩
   refine W.store (i:=1) [(str t),(str u),(int k),d,(str [])] S rfl rfl rfl lay94 rfl (AllOne.all (l:=[(str t),(str u),(int k),d,(str [])]) (.cons rfl (.cons rfl (.cons rfl (.cons (Sl.oneC z) (.cons rfl .nil)))))) (Nat.le_of_ble_eq_true rfl) rfl ?_
   intro bp S
   refine We<|WA.one (i:=8) (bm 12 1023) rfl kr rfl ?_
   refine Lo 0 S<|We ?_
   refine WA.take (i:=10) (bm 12 2047) rfl kr kr kr rfl (fun _=>(R.as (v:=int m9) rfl)) ?_
   refine WA.take (i:=11) (bm 12 4095) rfl kr kr kr rfl (fun _=>(R.as (v:=int 0) rfl))<|WA.done kr ?_
   obtain rfl:=oi h
   refine WP.ret (Out.three rfl S (Res.cellB (i:=1) (cs:=[(str t),(str u),(int k),d,(str [])]) S rfl rfl lay94 rfl rfl) rfl rfl ?_)
   exact ⟨_,rfl,z⟩
  refine Lo 0 S<|We<|WA.one (i:=3) (bm 12 511) rfl kr rfl ?_
  refine WL.w (R.loadBN (i:=0) (vs:=[(str t),(str u),(int k),d,(str [])]) S rfl rfl lay94 rfl rfl)<|We<|WA.one (i:=9) (bm 12 1023) rfl kr rfl ?_
  refine W.store (i:=1) [(str t),(str u),(int k),d,(str [])] S rfl rfl rfl lay94 rfl (AllOne.all (l:=[(str t),(str u),(int k),d,(str [])]) (.cons rfl (.cons rfl (.cons rfl (.cons (Sl.oneC z) (.cons rfl .nil)))))) (Nat.le_of_ble_eq_true rfl) rfl ?_
  intro bp S
  refine We ?_
  refine WA.take (i:=10) (bm 12 2047) rfl kr kr kr rfl (fun _=>(R.as (v:=int m9) rfl)) ?_
  refine WA.take (i:=11) (bm 12 4095) rfl kr kr kr rfl (fun _=>(R.as (v:=int 0) rfl))<|WA.done kr ?_
  obtain rfl:=oi h
  refine WP.ret (Out.three rfl S (Res.cellB (i:=1) (cs:=[(str t),(str u),(int k),d,(str [])]) S rfl rfl lay94 rfl rfl) rfl rfl ?_)
  exact ⟨_,rfl,z⟩
 refine Nn<|We ?_
 refine WA.take (i:=6) (bm 12 113) rfl kr kr kr rfl (fun _=>(R.fieldB rfl zJl)) ?_
 refine WA.take (i:=7) (bm 12 241) rfl kr kr kr rfl (fun _=>(R.fieldB rfl zF2)) ?_
 refine WA.two (i:=1) (j:=8) (bm 12 243) (bm 12 497) rfl rfl kr rfl rfl ?_ ?_
 ·refine Nn<|We ?_
  refine WA.take (i:=2) (bm 12 247) rfl kr kr kr rfl (fun _=>(R.fieldB rfl zKC)) ?_
  refine WA.two (i:=3) (j:=8) (bm 12 255) (bm 12 503) rfl rfl kr rfl rfl ?_ ?_
  ·refine WL.w (R.loadBN (i:=0) (vs:=[(str t),(str u),(int k),d,(str [])]) S rfl rfl lay94 rfl rfl)<|We ?_
   refine WA.two (i:=8) (j:=9) (bm 12 511) (bm 12 767) rfl rfl kr rfl rfl ?_ ?_
   ·refine Lo 0 S<|We<|WA.one (i:=9) (bm 12 1023) rfl kr rfl ?_
    refine W.store (i:=1) [(str t),(str u),(int k),d,(str [])] S rfl rfl rfl lay94 rfl (AllOne.all (l:=[(str t),(str u),(int k),d,(str [])]) (.cons rfl (.cons rfl (.cons rfl (.cons (Sl.oneC z) (.cons rfl .nil)))))) (Nat.le_of_ble_eq_true rfl) rfl ?_
    intro bp S
    refine We ?_
    refine WA.take (i:=10) (bm 12 2047) rfl kr kr kr rfl (fun _=>(R.as (v:=int m9) rfl)) ?_
    refine WA.take (i:=11) (bm 12 4095) rfl kr kr kr rfl (fun _=>(R.as (v:=int 0) rfl))<|WA.done kr ?_
    obtain rfl:=oi h
    refine WP.ret (Out.three rfl S (Res.cellB (i:=1) (cs:=[(str t),(str u),(int k),d,(str [])]) S rfl rfl lay94 rfl rfl) rfl rfl ?_)
    exact ⟨_,rfl,z⟩
   refine W.store (i:=1) [(str t),(str u),(int k),d,(str [])] S rfl rfl rfl lay94 rfl (AllOne.all (l:=[(str t),(str u),(int k),d,(str [])]) (.cons rfl (.cons rfl (.cons rfl (.cons (Sl.oneC z) (.cons rfl .nil)))))) (Nat.le_of_ble_eq_true rfl) rfl ?_
   intro bp S
   refine We<|WA.one (i:=8) (bm 12 1023) rfl kr rfl ?_
   refine Lo 0 S<|We ?_
   refine WA.take (i:=10) (bm 12 2047) rfl kr kr kr rfl (fun _=>(R.as (v:=int m9) rfl)) ?_
   refine WA.take (i:=11) (bm 12 4095) rfl kr kr kr rfl (fun _=>(R.as (v:=int 0) rfl))<|WA.done kr ?_
   obtain rfl:=oi h
   refine WP.ret (Out.three rfl S (Res.cellB (i:=1) (cs:=[(str t),(str u),(int k),d,(str [])]) S rfl rfl lay94 rfl rfl) rfl rfl ?_)
   exact ⟨_,rfl,z⟩
  refine Lo 0 S<|We<|WA.one (i:=3) (bm 12 511) rfl kr rfl ?_
  refine WL.w (R.loadBN (i:=0) (vs:=[(str t),(str u),(int k),d,(str [])]) S rfl rfl lay94 rfl rfl)<|We<|WA.one (i:=9) (bm 12 1023) rfl kr rfl ?_
  refine W.store (i:=1) [(str t),(str u),(int k),d,(str [])] S rfl rfl rfl lay94 rfl (AllOne.all (l:=[(str t),(str u),(int k),d,(str [])]) (.cons rfl (.cons rfl (.cons rfl (.cons (Sl.oneC z) (.cons rfl .nil)))))) (Nat.le_of_ble_eq_true rfl) rfl ?_
  intro bp S
  refine We ?_
  refine WA.take (i:=10) (bm 12 2047) rfl kr kr kr rfl (fun _=>(R.as (v:=int m9) rfl)) ?_
  refine WA.take (i:=11) (bm 12 4095) rfl kr kr kr rfl (fun _=>(R.as (v:=int 0) rfl))<|WA.done kr ?_
  obtain rfl:=oi h
  refine WP.ret (Out.three rfl S (Res.cellB (i:=1) (cs:=[(str t),(str u),(int k),d,(str [])]) S rfl rfl lay94 rfl rfl) rfl rfl ?_)
  exact ⟨_,rfl,z⟩
 refine Lo 0 S<|We<|WA.one (i:=1) (bm 12 499) rfl kr rfl<|Nn<|We ?_
 refine WA.take (i:=2) (bm 12 503) rfl kr kr kr rfl (fun _=>(R.fieldB rfl zKC))<|WA.one (i:=3) (bm 12 511) rfl kr rfl ?_
 refine WL.w (R.loadBN (i:=0) (vs:=[(str t),(str u),(int k),d,(str [])]) S rfl rfl lay94 rfl rfl)<|We<|WA.one (i:=9) (bm 12 1023) rfl kr rfl ?_
 refine W.store (i:=1) [(str t),(str u),(int k),d,(str [])] S rfl rfl rfl lay94 rfl (AllOne.all (l:=[(str t),(str u),(int k),d,(str [])]) (.cons rfl (.cons rfl (.cons rfl (.cons (Sl.oneC z) (.cons rfl .nil)))))) (Nat.le_of_ble_eq_true rfl) rfl ?_
 intro bp S
 refine We ?_
 refine WA.take (i:=10) (bm 12 2047) rfl kr kr kr rfl (fun _=>(R.as (v:=int m9) rfl)) ?_
 refine WA.take (i:=11) (bm 12 4095) rfl kr kr kr rfl (fun _=>(R.as (v:=int 0) rfl))<|WA.done kr ?_
 obtain rfl:=oi h
 refine WP.ret (Out.three rfl S (Res.cellB (i:=1) (cs:=[(str t),(str u),(int k),d,(str [])]) S rfl rfl lay94 rfl rfl) rfl rfl ?_)
 exact ⟨_,rfl,z⟩
end Go.Proofs

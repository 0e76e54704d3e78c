/- A part. -/
import Derived.Test.YtljjaiijlaeoeaaGreatDoorEng38
import Derived.Test.YtljjaiijlaeoeaaGreatDoorEng36
import Derived.Test.YtljjaiijlaeoeaaGreatDoorGenP2
namespace Go.Proofs
set_option maxHeartbeats 4000000
set_option maxRecDepth 10000
open Go.Eng Go.Eng.Pure
set_option linter.unusedVariables false
theorem zD3 {w0:World} {H0:Hp} (hw:Holds w0 H0) (hG:Tryz.Gl w0) (be:Str) {r:(GRequest×Int×Int)} (h:zCN be=some r) :
  Con Tryz.prog 84 [(str be)] w0 H0 (fun H' v=>∃ u1:Value,v=(.tuple ⟨[(agg [(str r.1.fMethod),(str r.1.fTarget),(int r.1.fMinor),u1,(str r.1.fBody)]),(int r.2.1),(int r.2.2)]⟩)∧Sl H' u1 r.1.fFields):=by
 refine CM 89 Tryz.func84 hw fun S=>?_
 refine Ws<|Wg ?_
 refine W.alloc [(str []),(str []),(int 0),(.slice none 0 0),(str [])] S zer94 ?_
 intro b1 w2 S
 refine A<|A<|We<|Ws<|Wg<|M ?_
 refine WL.w (R.build [(0,(str be))] [(str be),(int 0),(.slice none 0 0),(.slice none 0 0),(.slice none 0 0)] bp186 zJC rfl rfl) ?_
 refine WL.w (R.build [(0,(agg [(str be),(int 0),(.slice none 0 0),(.slice none 0 0),(.slice none 0 0)]))] [(str be),(int 0),(.slice none 0 0),(.slice none 0 0),(.slice none 0 0),(str []),(str []),(int 0),(.slice none 0 0),(str [])] bp212 zJt rfl rfl) ?_
 refine W.box [(str be),(int 0),(.slice none 0 0),(.slice none 0 0),(.slice none 0 0),(str []),(str []),(int 0),(.slice none 0 0),(str [])] S rfl rfl ?_
 intro b3 w4 S
 refine A<|We<|Ws<|Ws<|Wg<|M<|Nn<|Fb<|M ?_
 refine WL.w (R.mkFuncB (bs:=[(ptr b3 0)]) (vs:=[]) rfl rfl) ?_
 obtain ⟨⟨db,m8,m9,cd,bf,bu,t,u,k,ce,bx⟩,cf,h⟩:=bindE h
 refine W.inl (args:=[(ptr b3 0),(.func (.func 137) [(ptr b3 0)].toArray [].toArray)]) rfl (N':=65) Tryz.func111 rfl rfl kr rfl (WP.inC (fun f w=>∃ (H5:Hp) (d:Value) (a8:Value) (a9:Value) (bk:Value),f 4=(int db)∧Sl H5 d cd∧Sl H5 a8 bf∧Sl H5 a9 bu∧Sl H5 bk ce∧St w0 H0 w H5 [.box b3 212 [(str m8),(int m9),d,a8,a9,(str t),(str u),(int k),bk,(str bx)],.box b1 94 [(str []),(str []),(int 0),(.slice none 0 0),(str [])]]) ?_ ?_)
 ·refine Ws<|Wg<|A<|We<|Ws<|Wg<|A<|We ?_
  obtain ⟨cg,ch⟩:∃ v:Value,v=.slice none 0 0:=⟨_,rfl⟩
  have dc:Sl (α:=GField) H0 cg []:=by rw [ch]; exact Sl.nil
  replace S:=(show ∀ {w:World},St w0 H0 w H0 [.box b3 212 [(str be),(int 0),(.slice none 0 0),(.slice none 0 0),(.slice none 0 0),(str []),(str []),(int 0),(.slice none 0 0),(str [])],.box b1 94 [(str []),(str []),(int 0),(.slice none 0 0),(str [])]]→St w0 H0 w H0 [.box b3 212 [(str be),(int 0),cg,(.slice none 0 0),(.slice none 0 0),(str []),(str []),(int 0),(.slice none 0 0),(str [])],.box b1 94 [(str []),(str []),(int 0),(.slice none 0 0),(str [])]] from fun S=>by rw [ch]; exact S) S
  replace S:=St.addNilV ch S 68 2
  refine B cf fun dd de cf=>WP.cut (fun _ _=>False) ?_ (fun _ _ h=>h.elim)
  refine Wb ?_
  refine WP.loopM (zBq) (fun s f w=>match s with | (bz,ao,ai,ci,cj,ck,a4,a1,aw,cl,ap)=>∃ (b0:Hp) (bh:Value) (ae:Value) (af:Value) (ah:Value),f 0=(ptr b3 0)∧f 1=(.func (.func 137) [(ptr b3 0)].toArray [].toArray)∧f 5=(int bz)∧Sl b0 bh ci∧Sl b0 ae cj∧Sl b0 af ck∧Sl b0 ah cl∧St w0 H0 w b0 [.row bh 68 2 ci.length,.box b3 212 [(str ao),(int ai),bh,ae,af,(str a4),(str a1),(int aw),ah,(str ap)],.box b1 94 [(str []),(str []),(int 0),(.slice none 0 0),(str [])]]) (0,be,0,([]:List GField),([]:List Str),([]:List Str),[],[],0,([]:List GField),[]) dd (lfW de) ?_ ?_
  ·exact ⟨H0,cg,.slice none 0 0,.slice none 0 0,.slice none 0 0,rfl,rfl,rfl,dc,Sl.nil,Sl.nil,Sl.nil,S⟩
  intro s f w hI en a2 df
  obtain ⟨bz,ao,ai,ci,cj,ck,a4,a1,aw,cl,ap⟩:=s
  obtain ⟨b0,bh,ae,af,ah,a7,br,bn,x,o,p,q,S⟩:=hI
  refine Ws<|Wb<|Ws<|WP.quiet S kr kr<|QM' a7<|QNn<|QFb ?_
  refine QB 1 (str ao)<|QM' a7<|QNn<|QFb ?_
  refine QB 1 (int ai)<|B a2 fun dg dh a2=>QJc dh<|B a2 fun ac di a2=>WQ.call (v:=.tuple ⟨[(str ac.1),(int ac.2.1),(int ac.2.2)]⟩) rfl (fun w H' hq S=>zEy S.holds (hG.post S.post) dg di)<|QM ?_
  refine QEx ?_
  refine QEx ?_
  refine QEx<|QA<|QA<|QA<|WQ.nil ?_
  intro eo dj dk S
  have ⟨x,o,p,q⟩:=U4 dk x o p q
  refine Ws<|Ws<|Wg<|M<|Lf<|We ?_
  rcases condE a2 with ⟨cm,a2⟩ | ⟨cm,a2⟩
  ·refine CT cm ?_
   cases a2
  refine CF cm<|Wk<|Ws<|Wg<|M' a7<|Nn<|Fb ?_
  refine Lo 1 S<|M<|Lg<|Nn<|Fb ?_
  refine W.store (i:=1) [(str ao),(int (wr (ai+ac.2.1))),bh,ae,af,(str a4),(str a1),(int aw),ah,(str ap)] S rfl rfl rfl lay3 rfl rfl (Nat.le_of_ble_eq_true rfl) rfl ?_
  intro ep S
  refine We<|Ws<|B a2 fun c4 c a2=>WP.cut (fun f w=>match c4 with | .inl (c5,cn,c6,c7,c8)=>∃ (bv:Hp) (b5:Value),f 0=(ptr b3 0)∧f 1=(.func (.func 137) [(ptr b3 0)].toArray [].toArray)∧f 5=(int bz)∧f 8=(int c5)∧Sl bv b5 cn∧Sl bv ae cj∧Sl bv af ck∧Sl bv ah cl∧St w0 H0 w bv [.row b5 68 2 cn.length,.box b3 212 [(str ao),(int (wr (ai+ac.2.1))),b5,ae,af,(str c6),(str c7),(int c8),ah,(str ap)],.box b1 94 [(str []),(str []),(int 0),(.slice none 0 0),(str [])]] | .inr _=>False) ?_ ?_
  ·refine Wb<|Ws<|Wg<|M' a7<|Nn<|Fb ?_
   refine Lo 1 S<|Lc<|M ?_
   refine WL.grp 7 [46,47,48,49,50,51] 52 (boo ((decide (16000<(wr (ai+ac.2.1))))||((decide (64<bz))&&(ac.1 !=[])))) ?_ ?_
   ·rcases boolE (decide (16000<(wr (ai+ac.2.1)))) with a5 | a5
    ·refine Gn a5<|Gn a5<|Gn a5<|WL.gund rfl rfl<|WL.gund rfl rfl<|Gn a5<|Pt a5 ?_
     exact We ⟨(orT a5),ag,rfl⟩
    refine Gy a5<|M' bn<|Gy a5<|Lc<|Gy a5<|M ?_
    refine WL.grp 3 [49,50] 51 (boo ((decide (64<bz))&&(ac.1 !=[]))) ?_ ?_
    ·rcases boolE (decide (64<bz)) with bo | bo
     ·refine Gy bo<|M<|Gy bo<|Nb<|Gy a5<|Pt bo ?_
      exact We ⟨(andT bo),ag,rfl⟩
     refine Gn bo<|Gn bo<|Gy a5<|Pf bo ?_
     exact We ⟨(andF bo),ag,rfl⟩
    intro us
    refine Pf a5 ?_
    exact We ⟨(orF a5),ag,rfl⟩
   intro us
   refine A<|We ?_
   rcases condE c with ⟨co,c⟩ | ⟨co,c⟩
   ·refine CT co ?_
    cases c
   refine CF co<|Ws<|Wg<|M' bn<|Le<|A<|We ?_
   rcases condE c with ⟨cp,c⟩ | ⟨cp,c⟩
   ·refine CT cp<|Wg<|M' br<|M<|W.inlv (vs:=[(str ac.1)]) (bs:=[(ptr b3 0)]) (cs:=[]) rfl rfl (N':=25) Tryz.func137 rfl rfl kr rfl<|Ws<|Wg<|A<|We<|Ws<|Wg<|M ?_
    refine M<|M<|M<|B c fun b2 dl c=>W.call S rfl (zBb S.holds (hG.post S.post) ac.1 dl) ?_
    rintro eq er dm dn S rfl
    have ⟨x,o,p,q⟩:=U4 dn x o p q
    refine M ?_
    refine Ex ?_
    refine Ex ?_
    refine Ex ?_
    refine Ex<|Nn<|Fb<|Fb ?_
    refine W.store (i:=1) [(str ao),(int (wr (ai+ac.2.1))),bh,ae,af,(str b2.1),(str a1),(int aw),ah,(str ap)] S rfl rfl rfl lay9 rfl rfl (Nat.le_of_ble_eq_true rfl) rfl ?_
    intro es S
    refine Nn<|Fb<|Fb ?_
    refine W.store (i:=1) [(str ao),(int (wr (ai+ac.2.1))),bh,ae,af,(str b2.1),(str b2.2.1),(int aw),ah,(str ap)] S rfl rfl rfl lay9 rfl rfl (Nat.le_of_ble_eq_true rfl) rfl ?_
    intro et S
    refine Nn<|Fb<|Fb ?_
    refine W.store (i:=1) [(str ao),(int (wr (ai+ac.2.1))),bh,ae,af,(str b2.1),(str b2.2.1),(int b2.2.2.1),ah,(str ap)] S rfl rfl rfl lay3 rfl rfl (Nat.le_of_ble_eq_true rfl) rfl ?_
    intro eu S
    refine A<|We<|Ws<|Wg<|M<|A<|We ?_
    refine WP.ret (In.one rfl rfl ?_)
    refine A<|We ?_
    obtain rfl:=oi c
    exact ⟨dm,bh,a7,br,bn,rfl,x,o,p,q,S⟩
   refine CF cp<|Ws<|Wg<|M<|Na<|A<|We ?_
   rcases condE c with ⟨cq,c⟩ | ⟨cq,c⟩
   ·refine CT cq<|Ws<|Wg<|A<|We ?_
    obtain rfl:=oi c
    obtain rfl:=oi a2
    obtain rfl:=df
    cases oi cf
    refine WP.ret ?_
    exact ⟨.inl rfl,⟨dj,bh,ae,af,ah,rfl,x,o,p,q,(S.pk [1,2])⟩⟩
   refine CF cq<|Wg<|M' a7<|M<|W.inl (args:=[(ptr b3 0),(str ac.1)]) rfl (N':=56) Tryz.func177 rfl rfl kr rfl<|Ws<|Wg<|A<|We<|Ws<|Wg<|M<|B c fun ad dp c=>W.call S rfl (zC7 S.holds (hG.post S.post) ac.1 dp) ?_
   rintro ew ex ey dq S rfl
   have ⟨x,o,p,q⟩:=U4 dq x o p q
   refine M ?_
   refine Ex ?_
   refine Ex ?_
   refine W.alloc [(str []),(str [])] S zer68 ?_
   intro ez e0 S
   refine W.store (i:=0) [(str ad.1.fName),(str ad.1.fValue)] S rfl rfl rfl lay68 rfl rfl (Nat.le_of_ble_eq_true rfl) rfl ?_
   intro e1 S
   refine A<|We<|Ws<|Wb<|Ws<|Wg<|M<|Lf<|A<|We ?_
   rcases condE c with ⟨cr,c⟩ | ⟨cr,c⟩
   ·refine CT cr ?_
    cases c
   refine CF cr<|Ws<|Wg<|Fb ?_
   refine Lo 0 S<|B c fun e2 dr c=>W.call S rfl (zAV S.holds (hG.post S.post) ad.1.fName [67,111,110,116,101,110,116,45,76,101,110,103,116,104] dr) ?_
   rintro e3 e4 e5 ds S rfl
   have ⟨x,o,p,q⟩:=U4 ds x o p q
   refine A<|We ?_
   rcases condE c with ⟨ct,c⟩ | ⟨ct,c⟩
   ·refine CT ct ?_
    cases c
   refine CF ct<|Ws<|Wg<|Fb ?_
   refine Lo 0 S<|B c fun e6 dt c=>W.call S rfl (zAV S.holds (hG.post S.post) ad.1.fName [84,114,97,110,115,102,101,114,45,69,110,99,111,100,105,110,103] dt) ?_
   rintro e7 e8 e9 du S rfl
   have ⟨x,o,p,q⟩:=U4 du x o p q
   refine A<|We ?_
   rcases condE c with ⟨cu,c⟩ | ⟨cu,c⟩
   ·refine CT cu ?_
    cases c
   refine CF cu<|WP.draw kr 11 rfl (bm 11 0) rfl ?_
   have S:=S.drew
   refine At_ 0 11 1 rfl (fun _=>(R.mv (v:=ptr b3 0) rfl)) ?_
   refine At_ 1 11 3 rfl (fun _=>(R.mv (v:=ptr b3 0) rfl)) ?_
   refine WA.two (i:=2) (j:=5) (bm 11 7) (bm 11 35) rfl rfl kr rfl rfl ?_ ?_
   ·refine Nn<|We ?_
    refine At_ 3 11 15 rfl (fun _=>(R.fieldB rfl zAo)) ?_
    refine WA.two (i:=4) (j:=5) (bm 11 31) (bm 11 47) rfl rfl kr rfl rfl ?_ ?_
    ·refine Lo 2 S<|We<|WA.one (i:=5) (bm 11 63) rfl kr rfl ?_
     refine WL.w (R.loadBN (i:=0) (vs:=[(str ad.1.fName),(str ad.1.fValue)]) S rfl rfl lay68 rfl rfl)<|We<|WA.one (i:=6) (bm 11 127) rfl kr rfl<|W.bslice (α:=GField) [(agg [(str ad.1.fName),(str ad.1.fValue)])] ([ad.1]:List GField) S el22 rfl rfl rfl (by decide) (Go.Eng.encS ⟨rfl,rfl⟩ enc0) ?_
     intro b6 b7 b8 ba am S
     have ⟨x,o,p,q⟩:=U4 ba x o p q
     refine We<|WA.one (i:=7) (bm 11 255) rfl kr rfl<|B c fun bb bc c=>W.app (α:=GField) (i:=2) S el22 rfl rfl rfl x am bc ?_
     intro ab b9 ax bd ay S
     have ⟨x,am,o,p,q⟩:=U5 bd x am o p q
     refine We<|WA.one (i:=8) (bm 11 511) rfl kr rfl<|Nn<|We ?_
     refine At_ 9 11 1023 rfl (fun _=>(R.fieldB rfl zAo))<|WA.one (i:=10) (bm 11 2047) rfl kr rfl ?_
     refine W.storeSl (α:=GField) (i:=3) [(str ao),(int (wr (ai+ac.2.1))),ab,ae,af,(str a4),(str a1),(int aw),ah,(str ap)] S ay rfl rfl rfl lay22 (Nat.le_of_ble_eq_true rfl) rfl ?_
     intro ca S
     refine We<|WA.done kr<|Ws<|Wg<|A<|We ?_
     refine WP.ret (In.one rfl rfl ?_)
     replace S:St w0 H0 _ ax [.row ab 68 2 bb.length,.box b3 212 [(str ao),(int (wr (ai+ac.2.1))),ab,ae,af,(str a4),(str a1),(int aw),ah,(str ap)],.box b1 94 [(str []),(str []),(int 0),(.slice none 0 0),(str [])]]:=(S.pk [2,3,4])
     refine A<|We ?_
     obtain rfl:=oi c
     exact ⟨ax,ab,a7,br,bn,rfl,ay,o,p,q,S⟩
    refine WL.w (R.loadBN (i:=0) (vs:=[(str ad.1.fName),(str ad.1.fValue)]) S rfl rfl lay68 rfl rfl)<|We ?_
    refine WA.two (i:=4) (j:=6) (bm 11 63) (bm 11 111) rfl rfl kr rfl rfl ?_ ?_
    ·refine Lo 2 S<|We<|WA.one (i:=6) (bm 11 127) rfl kr rfl<|W.bslice (α:=GField) [(agg [(str ad.1.fName),(str ad.1.fValue)])] ([ad.1]:List GField) S el22 rfl rfl rfl (by decide) (Go.Eng.encS ⟨rfl,rfl⟩ enc0) ?_
     intro b6 b7 b8 ba am S
     have ⟨x,o,p,q⟩:=U4 ba x o p q
     refine We<|WA.one (i:=7) (bm 11 255) rfl kr rfl<|B c fun bb bc c=>W.app (α:=GField) (i:=2) S el22 rfl rfl rfl x am bc ?_
     intro ab b9 ax bd ay S
     have ⟨x,am,o,p,q⟩:=U5 bd x am o p q
     refine We<|WA.one (i:=8) (bm 11 511) rfl kr rfl<|Nn<|We ?_
     refine At_ 9 11 1023 rfl (fun _=>(R.fieldB rfl zAo))<|WA.one (i:=10) (bm 11 2047) rfl kr rfl ?_
     refine W.storeSl (α:=GField) (i:=3) [(str ao),(int (wr (ai+ac.2.1))),ab,ae,af,(str a4),(str a1),(int aw),ah,(str ap)] S ay rfl rfl rfl lay22 (Nat.le_of_ble_eq_true rfl) rfl ?_
     intro ca S
     refine We<|WA.done kr<|Ws<|Wg<|A<|We ?_
     refine WP.ret (In.one rfl rfl ?_)
     replace S:St w0 H0 _ ax [.row ab 68 2 bb.length,.box b3 212 [(str ao),(int (wr (ai+ac.2.1))),ab,ae,af,(str a4),(str a1),(int aw),ah,(str ap)],.box b1 94 [(str []),(str []),(int 0),(.slice none 0 0),(str [])]]:=(S.pk [2,3,4])
     refine A<|We ?_
     obtain rfl:=oi c
     exact ⟨ax,ab,a7,br,bn,rfl,ay,o,p,q,S⟩
    refine W.bslice (α:=GField) [(agg [(str ad.1.fName),(str ad.1.fValue)])] ([ad.1]:List GField) S el22 rfl rfl rfl (by decide) (Go.Eng.encS ⟨rfl,rfl⟩ enc0) ?_
    intro b6 b7 b8 ba am S
    have ⟨x,o,p,q⟩:=U4 ba x o p q
    refine We<|WA.one (i:=4) (bm 11 127) rfl kr rfl ?_
    refine Lo 3 S<|We<|WA.one (i:=7) (bm 11 255) rfl kr rfl<|B c fun bb bc c=>W.app (α:=GField) (i:=2) S el22 rfl rfl rfl x am bc ?_
    intro ab b9 ax bd ay S
    have ⟨am,x,o,p,q⟩:=U5 bd am x o p q
    refine We<|WA.one (i:=8) (bm 11 511) rfl kr rfl<|Nn<|We ?_
    refine At_ 9 11 1023 rfl (fun _=>(R.fieldB rfl zAo))<|WA.one (i:=10) (bm 11 2047) rfl kr rfl ?_
    refine W.storeSl (α:=GField) (i:=3) [(str ao),(int (wr (ai+ac.2.1))),ab,ae,af,(str a4),(str a1),(int aw),ah,(str ap)] S ay rfl rfl rfl lay22 (Nat.le_of_ble_eq_true rfl) rfl ?_
    intro ca S
    refine We<|WA.done kr<|Ws<|Wg<|A<|We ?_
    refine WP.ret (In.one rfl rfl ?_)
    replace S:St w0 H0 _ ax [.row ab 68 2 bb.length,.box b3 212 [(str ao),(int (wr (ai+ac.2.1))),ab,ae,af,(str a4),(str a1),(int aw),ah,(str ap)],.box b1 94 [(str []),(str []),(int 0),(.slice none 0 0),(str [])]]:=(S.pk [2,3,4])
    refine A<|We ?_
    obtain rfl:=oi c
    exact ⟨ax,ab,a7,br,bn,rfl,ay,o,p,q,S⟩
   refine WL.w (R.loadBN (i:=0) (vs:=[(str ad.1.fName),(str ad.1.fValue)]) S rfl rfl lay68 rfl rfl)<|We ?_
   refine WA.two (i:=2) (j:=6) (bm 11 39) (bm 11 99) rfl rfl kr rfl rfl ?_ ?_
   ·refine Nn<|We ?_
    refine At_ 3 11 47 rfl (fun _=>(R.fieldB rfl zAo)) ?_
    refine WA.two (i:=4) (j:=6) (bm 11 63) (bm 11 111) rfl rfl kr rfl rfl ?_ ?_
    ·refine Lo 2 S<|We<|WA.one (i:=6) (bm 11 127) rfl kr rfl<|W.bslice (α:=GField) [(agg [(str ad.1.fName),(str ad.1.fValue)])] ([ad.1]:List GField) S el22 rfl rfl rfl (by decide) (Go.Eng.encS ⟨rfl,rfl⟩ enc0) ?_
     intro b6 b7 b8 ba am S
     have ⟨x,o,p,q⟩:=U4 ba x o p q
     refine We<|WA.one (i:=7) (bm 11 255) rfl kr rfl<|B c fun bb bc c=>W.app (α:=GField) (i:=2) S el22 rfl rfl rfl x am bc ?_
     intro ab b9 ax bd ay S
     have ⟨x,am,o,p,q⟩:=U5 bd x am o p q
     refine We<|WA.one (i:=8) (bm 11 511) rfl kr rfl<|Nn<|We ?_
     refine At_ 9 11 1023 rfl (fun _=>(R.fieldB rfl zAo))<|WA.one (i:=10) (bm 11 2047) rfl kr rfl ?_
     refine W.storeSl (α:=GField) (i:=3) [(str ao),(int (wr (ai+ac.2.1))),ab,ae,af,(str a4),(str a1),(int aw),ah,(str ap)] S ay rfl rfl rfl lay22 (Nat.le_of_ble_eq_true rfl) rfl ?_
     intro ca S
     refine We<|WA.done kr<|Ws<|Wg<|A<|We ?_
     refine WP.ret (In.one rfl rfl ?_)
     replace S:St w0 H0 _ ax [.row ab 68 2 bb.length,.box b3 212 [(str ao),(int (wr (ai+ac.2.1))),ab,ae,af,(str a4),(str a1),(int aw),ah,(str ap)],.box b1 94 [(str []),(str []),(int 0),(.slice none 0 0),(str [])]]:=(S.pk [2,3,4])
     refine A<|We ?_
     obtain rfl:=oi c
     exact ⟨ax,ab,a7,br,bn,rfl,ay,o,p,q,S⟩
    refine W.bslice (α:=GField) [(agg [(str ad.1.fName),(str ad.1.fValue)])] ([ad.1]:List GField) S el22 rfl rfl rfl (by decide) (Go.Eng.encS ⟨rfl,rfl⟩ enc0) ?_
    intro b6 b7 b8 ba am S
    have ⟨x,o,p,q⟩:=U4 ba x o p q
    refine We<|WA.one (i:=4) (bm 11 127) rfl kr rfl ?_
    refine Lo 3 S<|We<|WA.one (i:=7) (bm 11 255) rfl kr rfl<|B c fun bb bc c=>W.app (α:=GField) (i:=2) S el22 rfl rfl rfl x am bc ?_
    intro ab b9 ax bd ay S
    have ⟨am,x,o,p,q⟩:=U5 bd am x o p q
    refine We<|WA.one (i:=8) (bm 11 511) rfl kr rfl<|Nn<|We ?_
    refine At_ 9 11 1023 rfl (fun _=>(R.fieldB rfl zAo))<|WA.one (i:=10) (bm 11 2047) rfl kr rfl ?_
    refine W.storeSl (α:=GField) (i:=3) [(str ao),(int (wr (ai+ac.2.1))),ab,ae,af,(str a4),(str a1),(int aw),ah,(str ap)] S ay rfl rfl rfl lay22 (Nat.le_of_ble_eq_true rfl) rfl ?_
    intro ca S
    refine We<|WA.done kr<|Ws<|Wg<|A<|We ?_
    refine WP.ret (In.one rfl rfl ?_)
    replace S:St w0 H0 _ ax [.row ab 68 2 bb.length,.box b3 212 [(str ao),(int (wr (ai+ac.2.1))),ab,ae,af,(str a4),(str a1),(int aw),ah,(str ap)],.box b1 94 [(str []),(str []),(int 0),(.slice none 0 0),(str [])]]:=(S.pk [2,3,4])
    refine A<|We ?_
    obtain rfl:=oi c
    exact ⟨ax,ab,a7,br,bn,rfl,ay,o,p,q,S⟩
   refine W.bslice (α:=GField) [(agg [(str ad.1.fName),(str ad.1.fValue)])] ([ad.1]:List GField) S el22 rfl rfl rfl (by decide) (Go.Eng.encS ⟨rfl,rfl⟩ enc0) ?_
   intro b6 b7 b8 ba am S
   have ⟨x,o,p,q⟩:=U4 ba x o p q
   refine We<|WA.one (i:=2) (bm 11 103) rfl kr rfl<|Nn<|We ?_
   refine At_ 3 11 111 rfl (fun _=>(R.fieldB rfl zAo))<|WA.one (i:=4) (bm 11 127) rfl kr rfl ?_
   refine Lo 3 S<|We<|WA.one (i:=7) (bm 11 255) rfl kr rfl<|B c fun bb bc c=>W.app (α:=GField) (i:=2) S el22 rfl rfl rfl x am bc ?_
   intro ab b9 ax bd ay S
   have ⟨o,p,q⟩:=U3 bd o p q
   refine We<|WA.one (i:=8) (bm 11 511) rfl kr rfl<|Nn<|We ?_
   refine At_ 9 11 1023 rfl (fun _=>(R.fieldB rfl zAo))<|WA.one (i:=10) (bm 11 2047) rfl kr rfl ?_
   refine W.storeSl (α:=GField) (i:=3) [(str ao),(int (wr (ai+ac.2.1))),ab,ae,af,(str a4),(str a1),(int aw),ah,(str ap)] S ay rfl rfl rfl lay22 (Nat.le_of_ble_eq_true rfl) rfl ?_
   intro ca S
   refine We<|WA.done kr<|Ws<|Wg<|A<|We ?_
   refine WP.ret (In.one rfl rfl ?_)
   replace S:St w0 H0 _ ax [.row ab 68 2 bb.length,.box b3 212 [(str ao),(int (wr (ai+ac.2.1))),ab,ae,af,(str a4),(str a1),(int aw),ah,(str ap)],.box b1 94 [(str []),(str []),(int 0),(.slice none 0 0),(str [])]]:=(S.pk [2,3,4])
   refine A<|We ?_
   obtain rfl:=oi c
   exact ⟨ax,ab,a7,br,bn,rfl,ay,o,p,q,S⟩
  intro f w hM
  rcases c4 with ⟨c5,cn,c6,c7,c8⟩ | e
  ·obtain ⟨bv,b5,dv,dw,dx,dy,dz,o,p,q,S⟩:=hM
   refine Ws<|Wg<|M' dy<|Lf<|We ?_
   rcases condE a2 with ⟨cv,a2⟩ | ⟨cv,a2⟩
   ·refine CT cv ?_
    cases a2
   refine CF cv<|Wk<|Wg<|M' dx<|Lg<|A<|We ?_
   obtain rfl:=oi a2
   exact ⟨rfl,⟨bv,b5,ae,af,ah,dv,dw,rfl,dz,o,p,q,S⟩⟩
  exact hM.elim
 rintro f w ⟨H5,d,a8,a9,bk,h7,z,av,aq,bi,S⟩
 refine InR.one rfl h7<|A<|We<|Ws<|Wg<|M<|Lf<|We ?_
 rcases condE h with ⟨cw,h⟩ | ⟨cw,h⟩
 ·refine CT cw ?_
  cases h
 refine CF cw<|Wk<|Ws<|Ws<|Wg<|M<|Nn<|Fb<|W.inl (args:=[(ptr b3 0)]) rfl (N':=75) Tryz.func113 rfl rfl kr rfl<|Ws<|Wg<|A ?_
 refine We<|Ws<|Ws<|Wg<|M<|Nn<|Fb ?_
 refine Lo 0 S<|Nq aq<|Lc<|M<|B h fun d1 bt h=>WL.grpw 17 [14,15,16,17,18,19,20,21,22,23,24,25,26,27,28,29] 30 (boo d1) (fun w=>∃ H':Hp,H5.le H'∧St w0 H0 w H' [.box b3 212 [(str m8),(int m9),d,a8,a9,(str t),(str u),(int k),bk,(str bx)],.box b1 94 [(str []),(str []),(int 0),(.slice none 0 0),(str [])]]) ?_ ?_
 ·rcases boolE (decide (1<(bu.length:Int))) with aj | aj
  ·replace bt:=condT bt aj
   refine Gn aj<|Gn aj<|Gn aj<|Gn aj<|Gn aj<|Gn aj<|Gn aj<|WL.gund rfl rfl<|WL.gund rfl rfl<|WL.gund rfl rfl<|WL.gund rfl rfl<|WL.gund rfl rfl ?_
   refine WL.gund rfl rfl<|WL.gund rfl rfl<|WL.gund rfl rfl<|Gn aj<|Pt aj ?_
   exact We ⟨(ob bt),ag,⟨H5,lr,S⟩⟩
  replace bt:=condF bt aj
  refine Gy aj<|M<|Gy aj<|Nn<|Gy aj<|Fb<|Gy aj ?_
  refine Lo 0 S<|Gy aj<|Nq aq<|Gy aj<|Le ?_
  refine Gy aj<|M<|B bt fun d2 bj bt=>WL.grpw 9 [21,22,23,24,25,26,27,28] 29 (boo d2) (fun w=>∃ H':Hp,H5.le H'∧St w0 H0 w H' [.box b3 212 [(str m8),(int m9),d,a8,a9,(str t),(str u),(int k),bk,(str bx)],.box b1 94 [(str []),(str []),(int 0),(.slice none 0 0),(str [])]]) ?_ ?_
  ·rcases boolE ((bu.length:Int)==1) with an | an
   ·replace bj:=condT bj an
    refine Gy an<|M<|Gy an<|Nn<|Gy an<|Fb<|Gy an ?_
    refine Lo 0 S<|Gy an<|B bj fun d3 d4 bj=>W.idx (α:=Str) aq rfl rfl el45 d4 ?_
    rintro fa _ d5 rfl
    refine Gy an ?_
    refine Lq S d5<|Gy an<|B bj fun fb d6 bj=>W.call S rfl (zAV S.holds (hG.post S.post) d3 [99,104,117,110,107,101,100] d6) ?_
    rintro fc fd d7 c9 S rfl
    have ⟨aq,z,av,bi⟩:=U4 c9 aq z av bi
    refine Gy an<|No<|Gy aj<|Pt an ?_
    exact We ⟨(ob bj),ag,⟨d7,c9,S⟩⟩
   replace bj:=condF bj an
   refine Gn an<|Gn an<|Gn an<|Gn an<|Gn an<|Gn an<|Gn an<|Gn an<|Gy aj<|Pf an ?_
   exact We ⟨(ob bj),ag,⟨H5,lr,S⟩⟩
  intro us fe ⟨d8,da,S⟩
  have ⟨aq,z,av,bi⟩:=U4 da aq z av bi
  refine Pf aj ?_
  exact We ⟨(ob bt),ag,⟨d8,da,S⟩⟩
 intro us ff ⟨d9,ea,S⟩
 have ⟨aq,z,av,bi⟩:=U4 ea aq z av bi
 refine We ?_
 rcases condE h with ⟨cx,h⟩ | ⟨cx,h⟩
 ·refine CT cx ?_
  cases h
 refine CF cx<|Wk<|Ws<|Ws<|Wg<|M<|Nn<|Fb ?_
 refine Lo 0 S<|Nq av<|Lc<|M ?_
 refine WL.grp 15 [38,39,40,41,42,43,44,45,46,47,48,49,50,51] 52 (boo ((decide (1<(bf.length:Int)))||(((bf.length:Int)==1)&&((bu.length:Int)==1)))) ?_ ?_
 ·rcases boolE (decide (1<(bf.length:Int))) with ak | ak
  ·refine Gn ak<|Gn ak<|Gn ak<|Gn ak<|Gn ak<|Gn ak<|Gn ak<|WL.gund rfl rfl<|WL.gund rfl rfl<|WL.gund rfl rfl<|WL.gund rfl rfl<|WL.gund rfl rfl ?_
   refine WL.gund rfl rfl<|Gn ak<|Pt ak ?_
   exact We ⟨(orT ak),ag,rfl⟩
  refine Gy ak<|M<|Gy ak<|Nn<|Gy ak<|Fb<|Gy ak ?_
  refine Lo 0 S<|Gy ak<|Nq av<|Gy ak<|Le ?_
  refine Gy ak<|M ?_
  refine WL.grp 7 [45,46,47,48,49,50] 51 (boo (((bf.length:Int)==1)&&((bu.length:Int)==1))) ?_ ?_
  ·rcases boolE ((bf.length:Int)==1) with az | az
   ·refine Gy az<|M<|Gy az<|Nn<|Gy az<|Fb<|Gy az ?_
    refine Lo 0 S<|Gy az<|Nq aq<|Gy az<|Le ?_
    refine Gy ak<|Pt az ?_
    exact We ⟨(andT az),ag,rfl⟩
   refine Gn az<|Gn az<|Gn az<|Gn az<|Gn az<|Gn az<|Gy ak<|Pf az ?_
   exact We ⟨(andF az),ag,rfl⟩
  intro us
  refine Pf ak ?_
  exact We ⟨(orF ak),ag,rfl⟩
 intro us
 refine We ?_
 rcases condE h with ⟨cy,h⟩ | ⟨cy,h⟩
 ·refine CT cy ?_
  cases h
 refine CF cy<|Wk<|Ws<|Ws<|Wg<|M<|Nn<|Fb ?_
 refine Lo 0 S<|Nq av<|M<|We<|B h fun eb ec h=>WP.cut (fun f w=>∃ (b4:Hp),Sl b4 d cd∧Sl b4 a8 bf∧Sl b4 a9 bu∧Sl b4 bk ce∧St w0 H0 w b4 [.box b3 212 [(str m8),(int m9),d,a8,a9,(str t),(str u),(int k),bk,(str bx)],.box b1 94 [(str []),(str []),(int 0),(.slice none 0 0),(str [])]]) ?_ ?_
 ·refine Wb ?_
  refine WP.loopM (zBu bf) (fun s f w=>match s with | _=>∃ (bw:Hp),f 57=(int (bf.length:Int))∧f 58=(int 0)∧Sl bw d cd∧Sl bw a8 bf∧Sl bw a9 bu∧Sl bw bk ce∧St w0 H0 w bw [.box b3 212 [(str m8),(int m9),d,a8,a9,(str t),(str u),(int k),bk,(str bx)],.box b1 94 [(str []),(str []),(int 0),(.slice none 0 0),(str [])]]) () eb (lfW ec) ?_ ?_
  ·exact ⟨d9,rfl,rfl,z,av,aq,bi,S⟩
  intro s f w hI fg cb ed
  obtain ⟨bw,ee,ef,z,av,aq,bi,S⟩:=hI
  refine Ws<|Wg<|La' ef ee<|We<|Ws ?_
  rcases condE cb with ⟨cz,cb⟩ | ⟨cz,cb⟩
  ·refine CT cz ?_
   cases cb
  refine CF cz<|Wx ?_
  obtain rfl:=oi cb
  obtain rfl:=ed
  exact ⟨bw,z,av,aq,bi,S⟩
 rintro f w ⟨b4,z,av,aq,bi,S⟩
 refine Ws<|Wg<|A<|We ?_
 refine WP.ret (In.one rfl rfl ?_)
 refine A<|We<|Ws<|Wg<|M ?_
 refine WL.w (v:=boo false) (R.ofEq (R.neq rfl rfl) rfl)<|We<|WP.condF (b:=false) rfl rfl<|Wk<|Ws<|Wg<|M ?_
 refine M<|Nn<|Fb<|Fb ?_
 refine Lo 0 S<|Nn<|Fb<|Fb ?_
 refine W.storeSl (α:=GField) (i:=0) [(str m8),(int m9),d,a8,a9,(str t),(str u),(int k),d,(str bx)] S z rfl rfl rfl lay22 (Nat.le_of_ble_eq_true rfl) rfl ?_
 intro fh S
 refine We<|Ws<|Ws<|Wg<|M<|Nn<|Fb<|Fb ?_
 refine Lo 0 S<|B h fun cc eg h=>W.call S rfl (zB2 S.holds (hG.post S.post) cd [72,111,115,116] z eg) ?_
 rintro fi fj fk eh S ei
 have ⟨z,av,aq⟩:=U3 eh z av aq
 refine Nq ei<|A<|We<|Ws<|Wg<|M<|Lc<|M ?_
 refine WL.grp 11 [52,53,54,55,56,57,58,59,60,61] 62 (boo ((decide (1<(cc.length:Int)))||(((cc.length:Int)==0)&&(k==1)))) ?_ ?_
 ·rcases boolE (decide (1<(cc.length:Int))) with a6 | a6
  ·refine Gn a6<|Gn a6<|Gn a6<|WL.gund rfl rfl<|WL.gund rfl rfl<|WL.gund rfl rfl<|WL.gund rfl rfl<|WL.gund rfl rfl<|WL.gund rfl rfl<|Gn a6<|Pt a6 ?_
   exact We ⟨(orT a6),ag,rfl⟩
  refine Gy a6<|M<|Gy a6<|Le<|Gy a6<|M ?_
  refine WL.grp 7 [55,56,57,58,59,60] 61 (boo (((cc.length:Int)==0)&&(k==1))) ?_ ?_
  ·rcases boolE ((cc.length:Int)==0) with a0 | a0
   ·refine Gy a0<|M<|Gy a0<|Nn<|Gy a0<|Fb<|Gy a0<|Fb<|Gy a0 ?_
    refine Lo 0 S<|Gy a0<|Le ?_
    refine Gy a6<|Pt a0 ?_
    exact We ⟨(andT a0),ag,rfl⟩
   refine Gn a0<|Gn a0<|Gn a0<|Gn a0<|Gn a0<|Gn a0<|Gy a6<|Pf a0 ?_
   exact We ⟨(andF a0),ag,rfl⟩
  intro us
  refine Pf a6 ?_
  exact We ⟨(orF a6),ag,rfl⟩
 intro us
 refine We ?_
 rcases condE h with ⟨c0,h⟩ | ⟨c0,h⟩
 ·refine CT c0 ?_
  cases h
 refine CF c0<|Wk<|Ws<|Wg<|M<|Nn<|Fb<|W.inl (args:=[(ptr b3 0)]) rfl (N':=76) Tryz.func115 rfl rfl kr rfl<|Ws<|Wg<|A<|A ?_
 refine We<|Ws<|WP.quiet S kr kr<|QM<|QNn<|QFb ?_
 refine QB 0 (str m8)<|QM<|QNn<|QFb ?_
 refine QB 0 (int m9)<|B h fun fl ej h=>QJc ej<|QA<|WQ.nil ?_
 intro fm fn ek S
 have ⟨z,av,aq⟩:=U3 ek z av aq
 refine Ws<|Wb<|Ws<|Wg<|M<|Nn<|Fb ?_
 refine Lo 0 S<|Nq aq<|Lc<|A<|We ?_
 rcases condE h with ⟨c1,h⟩ | ⟨c1,h⟩
 ·refine CT c1 ?_
  cases h
 refine CF c1<|Ws<|Wg<|M<|Nn<|Fb ?_
 refine Lo 0 S<|Nq av<|Lc<|A<|We ?_
 rcases condE h with ⟨c2,h⟩ | ⟨c2,h⟩
 ·refine CT c2 ?_
  cases h
 refine CF c2<|Wk<|Ws<|Wg<|A<|A<|We ?_
 refine WP.ret (In.two rfl rfl rfl ?_)
 refine M ?_
 refine Ex ?_
 refine Ex<|A<|A<|We<|Ws<|Ws<|Wg<|M ?_
 refine WL.w (v:=boo false) (R.ofEq (R.neq rfl rfl) rfl)<|We ?_
 refine WP.condF (b:=false) rfl rfl<|Wk<|Ws<|Wg<|M<|M<|Nn<|Fb<|Fb ?_
 refine W.store (i:=0) [(str m8),(int m9),d,a8,a9,(str t),(str u),(int k),d,(str [])] S rfl rfl rfl lay9 rfl rfl (Nat.le_of_ble_eq_true rfl) rfl ?_
 intro fo S
 refine We<|Ws<|WP.draw kr 12 rfl (bm 12 0) rfl ?_
 have S:=S.drew
 refine At_ 0 12 1 rfl (fun _=>(R.mv (v:=ptr b3 0) rfl)) ?_
 refine At_ 4 12 17 rfl (fun _=>(R.mv (v:=ptr b3 0) rfl)) ?_
 refine WA.two (i:=1) (j:=5) (bm 12 19) (bm 12 49) rfl rfl kr rfl rfl ?_ ?_
 ·refine Nn<|We ?_
  refine At_ 2 12 23 rfl (fun _=>(R.fieldB rfl zGw)) ?_
  refine WA.two (i:=3) (j:=5) (bm 12 31) (bm 12 55) rfl rfl kr rfl rfl ?_ ?_
  ·refine WL.w (R.loadBN (i:=0) (vs:=[(str t),(str u),(int k),d,(str [])]) S rfl rfl lay94 rfl rfl)<|We ?_
   refine WA.two (i:=5) (j:=9) (bm 12 63) (bm 12 543) rfl rfl kr rfl rfl ?_ ?_
   ·refine Nn<|We ?_
    refine At_ 6 12 127 rfl (fun _=>(R.fieldB rfl zGI)) ?_
    refine At_ 7 12 255 rfl (fun _=>(R.fieldB rfl zDE)) ?_
    refine WA.two (i:=8) (j:=9) (bm 12 511) (bm 12 767) rfl rfl kr rfl rfl ?_ ?_
    ·refine Lo 0 S<|We<|WA.one (i:=9) (bm 12 1023) rfl kr rfl ?_
     refine W.store (i:=1) [(str t),(str u),(int k),d,(str [])] S rfl rfl rfl lay94 rfl (AllOne.all (l:=[(str t),(str u),(int k),d,(str [])]) (.cons rfl (.cons rfl (.cons rfl (.cons (Sl.oneC z) (.cons rfl .nil)))))) (Nat.le_of_ble_eq_true rfl) rfl ?_
     intro bp S
     refine We ?_
     refine At_ 10 12 2047 rfl (fun _=>(R.as (v:=int m9) rfl)) ?_
     refine At_ 11 12 4095 rfl (fun _=>(R.as (v:=int 0) rfl))<|WA.done kr ?_
     obtain rfl:=oi h
     refine WP.ret (Out.three rfl S (Res.cellB (i:=1) (cs:=[(str t),(str u),(int k),d,(str [])]) S rfl rfl lay94 rfl rfl) rfl rfl ?_)
     exact ⟨_,rfl,z⟩
    refine W.store (i:=1) [(str t),(str u),(int k),d,(str [])] S rfl rfl rfl lay94 rfl (AllOne.all (l:=[(str t),(str u),(int k),d,(str [])]) (.cons rfl (.cons rfl (.cons rfl (.cons (Sl.oneC z) (.cons rfl .nil)))))) (Nat.le_of_ble_eq_true rfl) rfl ?_
    intro bp S
    refine We<|WA.one (i:=8) (bm 12 1023) rfl kr rfl ?_
    refine Lo 0 S<|We ?_
    refine At_ 10 12 2047 rfl (fun _=>(R.as (v:=int m9) rfl)) ?_
    refine At_ 11 12 4095 rfl (fun _=>(R.as (v:=int 0) rfl))<|WA.done kr ?_
    obtain rfl:=oi h
    refine WP.ret (Out.three rfl S (Res.cellB (i:=1) (cs:=[(str t),(str u),(int k),d,(str [])]) S rfl rfl lay94 rfl rfl) rfl rfl ?_)
    exact ⟨_,rfl,z⟩
   refine W.store (i:=1) [(str t),(str u),(int k),d,(str [])] S rfl rfl rfl lay94 rfl (AllOne.all (l:=[(str t),(str u),(int k),d,(str [])]) (.cons rfl (.cons rfl (.cons rfl (.cons (Sl.oneC z) (.cons rfl .nil)))))) (Nat.le_of_ble_eq_true rfl) rfl ?_
   intro bp S
   refine We<|WA.one (i:=5) (bm 12 575) rfl kr rfl<|Nn<|We ?_
   refine At_ 6 12 639 rfl (fun _=>(R.fieldB rfl zGI)) ?_
   refine At_ 7 12 767 rfl (fun _=>(R.fieldB rfl zDE))<|WA.one (i:=8) (bm 12 1023) rfl kr rfl ?_
   refine Lo 0 S<|We ?_
   refine At_ 10 12 2047 rfl (fun _=>(R.as (v:=int m9) rfl)) ?_
   refine At_ 11 12 4095 rfl (fun _=>(R.as (v:=int 0) rfl))<|WA.done kr ?_
   obtain rfl:=oi h
   refine WP.ret (Out.three rfl S (Res.cellB (i:=1) (cs:=[(str t),(str u),(int k),d,(str [])]) S rfl rfl lay94 rfl rfl) rfl rfl ?_)
   exact ⟨_,rfl,z⟩
  refine Nn<|We ?_
  refine At_ 6 12 119 rfl (fun _=>(R.fieldB rfl zGI)) ?_
  refine At_ 7 12 247 rfl (fun _=>(R.fieldB rfl zDE)) ?_
  refine WA.two (i:=3) (j:=8) (bm 12 255) (bm 12 503) rfl rfl kr rfl rfl ?_ ?_
  ·refine WL.w (R.loadBN (i:=0) (vs:=[(str t),(str u),(int k),d,(str [])]) S rfl rfl lay94 rfl rfl)<|We ?_
   refine WA.two (i:=8) (j:=9) (bm 12 511) (bm 12 767) rfl rfl kr rfl rfl ?_ ?_
   ·refine Lo 0 S<|We<|WA.one (i:=9) (bm 12 1023) rfl kr rfl ?_
    refine W.store (i:=1) [(str t),(str u),(int k),d,(str [])] S rfl rfl rfl lay94 rfl (AllOne.all (l:=[(str t),(str u),(int k),d,(str [])]) (.cons rfl (.cons rfl (.cons rfl (.cons (Sl.oneC z) (.cons rfl .nil)))))) (Nat.le_of_ble_eq_true rfl) rfl ?_
    intro bp S
    refine We ?_
    refine At_ 10 12 2047 rfl (fun _=>(R.as (v:=int m9) rfl)) ?_
    refine At_ 11 12 4095 rfl (fun _=>(R.as (v:=int 0) rfl))<|WA.done kr ?_
    obtain rfl:=oi h
    refine WP.ret (Out.three rfl S (Res.cellB (i:=1) (cs:=[(str t),(str u),(int k),d,(str [])]) S rfl rfl lay94 rfl rfl) rfl rfl ?_)
    exact ⟨_,rfl,z⟩
   refine W.store (i:=1) [(str t),(str u),(int k),d,(str [])] S rfl rfl rfl lay94 rfl (AllOne.all (l:=[(str t),(str u),(int k),d,(str [])]) (.cons rfl (.cons rfl (.cons rfl (.cons (Sl.oneC z) (.cons rfl .nil)))))) (Nat.le_of_ble_eq_true rfl) rfl ?_
   intro bp S
   refine We<|WA.one (i:=8) (bm 12 1023) rfl kr rfl ?_
   refine Lo 0 S<|We ?_
   refine At_ 10 12 2047 rfl (fun _=>(R.as (v:=int m9) rfl)) ?_
   refine At_ 11 12 4095 rfl (fun _=>(R.as (v:=int 0) rfl))<|WA.done kr ?_
   obtain rfl:=oi h
   refine WP.ret (Out.three rfl S (Res.cellB (i:=1) (cs:=[(str t),(str u),(int k),d,(str [])]) S rfl rfl lay94 rfl rfl) rfl rfl ?_)
   exact ⟨_,rfl,z⟩
  refine Lo 0 S<|We<|WA.one (i:=3) (bm 12 511) rfl kr rfl ?_
  refine WL.w (R.loadBN (i:=0) (vs:=[(str t),(str u),(int k),d,(str [])]) S rfl rfl lay94 rfl rfl)<|We<|WA.one (i:=9) (bm 12 1023) rfl kr rfl ?_
  refine W.store (i:=1) [(str t),(str u),(int k),d,(str [])] S rfl rfl rfl lay94 rfl (AllOne.all (l:=[(str t),(str u),(int k),d,(str [])]) (.cons rfl (.cons rfl (.cons rfl (.cons (Sl.oneC z) (.cons rfl .nil)))))) (Nat.le_of_ble_eq_true rfl) rfl ?_
  intro bp S
  refine We ?_
  refine At_ 10 12 2047 rfl (fun _=>(R.as (v:=int m9) rfl)) ?_
  refine At_ 11 12 4095 rfl (fun _=>(R.as (v:=int 0) rfl))<|WA.done kr ?_
  obtain rfl:=oi h
  refine WP.ret (Out.three rfl S (Res.cellB (i:=1) (cs:=[(str t),(str u),(int k),d,(str [])]) S rfl rfl lay94 rfl rfl) rfl rfl ?_)
  exact ⟨_,rfl,z⟩
 refine Nn<|We ?_
 refine At_ 6 12 113 rfl (fun _=>(R.fieldB rfl zGI)) ?_
 refine At_ 7 12 241 rfl (fun _=>(R.fieldB rfl zDE)) ?_
 refine WA.two (i:=1) (j:=8) (bm 12 243) (bm 12 497) rfl rfl kr rfl rfl ?_ ?_
 ·refine Nn<|We ?_
  refine At_ 2 12 247 rfl (fun _=>(R.fieldB rfl zGw)) ?_
  refine WA.two (i:=3) (j:=8) (bm 12 255) (bm 12 503) rfl rfl kr rfl rfl ?_ ?_
  ·refine WL.w (R.loadBN (i:=0) (vs:=[(str t),(str u),(int k),d,(str [])]) S rfl rfl lay94 rfl rfl)<|We ?_
   refine WA.two (i:=8) (j:=9) (bm 12 511) (bm 12 767) rfl rfl kr rfl rfl ?_ ?_
   ·refine Lo 0 S<|We<|WA.one (i:=9) (bm 12 1023) rfl kr rfl ?_
    refine W.store (i:=1) [(str t),(str u),(int k),d,(str [])] S rfl rfl rfl lay94 rfl (AllOne.all (l:=[(str t),(str u),(int k),d,(str [])]) (.cons rfl (.cons rfl (.cons rfl (.cons (Sl.oneC z) (.cons rfl .nil)))))) (Nat.le_of_ble_eq_true rfl) rfl ?_
    intro bp S
    refine We ?_
    refine At_ 10 12 2047 rfl (fun _=>(R.as (v:=int m9) rfl)) ?_
    refine At_ 11 12 4095 rfl (fun _=>(R.as (v:=int 0) rfl))<|WA.done kr ?_
    obtain rfl:=oi h
    refine WP.ret (Out.three rfl S (Res.cellB (i:=1) (cs:=[(str t),(str u),(int k),d,(str [])]) S rfl rfl lay94 rfl rfl) rfl rfl ?_)
    exact ⟨_,rfl,z⟩
   refine W.store (i:=1) [(str t),(str u),(int k),d,(str [])] S rfl rfl rfl lay94 rfl (AllOne.all (l:=[(str t),(str u),(int k),d,(str [])]) (.cons rfl (.cons rfl (.cons rfl (.cons (Sl.oneC z) (.cons rfl .nil)))))) (Nat.le_of_ble_eq_true rfl) rfl ?_
   intro bp S
   refine We<|WA.one (i:=8) (bm 12 1023) rfl kr rfl ?_
   refine Lo 0 S<|We ?_
   refine At_ 10 12 2047 rfl (fun _=>(R.as (v:=int m9) rfl)) ?_
   refine At_ 11 12 4095 rfl (fun _=>(R.as (v:=int 0) rfl))<|WA.done kr ?_
   obtain rfl:=oi h
   refine WP.ret (Out.three rfl S (Res.cellB (i:=1) (cs:=[(str t),(str u),(int k),d,(str [])]) S rfl rfl lay94 rfl rfl) rfl rfl ?_)
   exact ⟨_,rfl,z⟩
  refine Lo 0 S<|We<|WA.one (i:=3) (bm 12 511) rfl kr rfl ?_
  refine WL.w (R.loadBN (i:=0) (vs:=[(str t),(str u),(int k),d,(str [])]) S rfl rfl lay94 rfl rfl)<|We<|WA.one (i:=9) (bm 12 1023) rfl kr rfl ?_
  refine W.store (i:=1) [(str t),(str u),(int k),d,(str [])] S rfl rfl rfl lay94 rfl (AllOne.all (l:=[(str t),(str u),(int k),d,(str [])]) (.cons rfl (.cons rfl (.cons rfl (.cons (Sl.oneC z) (.cons rfl .nil)))))) (Nat.le_of_ble_eq_true rfl) rfl ?_
  intro bp S
  refine We ?_
  refine At_ 10 12 2047 rfl (fun _=>(R.as (v:=int m9) rfl)) ?_
  refine At_ 11 12 4095 rfl (fun _=>(R.as (v:=int 0) rfl))<|WA.done kr ?_
  obtain rfl:=oi h
  refine WP.ret (Out.three rfl S (Res.cellB (i:=1) (cs:=[(str t),(str u),(int k),d,(str [])]) S rfl rfl lay94 rfl rfl) rfl rfl ?_)
  exact ⟨_,rfl,z⟩
 refine Lo 0 S<|We<|WA.one (i:=1) (bm 12 499) rfl kr rfl<|Nn<|We ?_
 refine At_ 2 12 503 rfl (fun _=>(R.fieldB rfl zGw))<|WA.one (i:=3) (bm 12 511) rfl kr rfl ?_
 refine WL.w (R.loadBN (i:=0) (vs:=[(str t),(str u),(int k),d,(str [])]) S rfl rfl lay94 rfl rfl)<|We<|WA.one (i:=9) (bm 12 1023) rfl kr rfl ?_
 refine W.store (i:=1) [(str t),(str u),(int k),d,(str [])] S rfl rfl rfl lay94 rfl (AllOne.all (l:=[(str t),(str u),(int k),d,(str [])]) (.cons rfl (.cons rfl (.cons rfl (.cons (Sl.oneC z) (.cons rfl .nil)))))) (Nat.le_of_ble_eq_true rfl) rfl ?_
 intro bp S
 refine We ?_
 refine At_ 10 12 2047 rfl (fun _=>(R.as (v:=int m9) rfl)) ?_
 refine At_ 11 12 4095 rfl (fun _=>(R.as (v:=int 0) rfl))<|WA.done kr ?_
 obtain rfl:=oi h
 refine WP.ret (Out.three rfl S (Res.cellB (i:=1) (cs:=[(str t),(str u),(int k),d,(str [])]) S rfl rfl lay94 rfl rfl) rfl rfl ?_)
 exact ⟨_,rfl,z⟩
end Go.Proofs
